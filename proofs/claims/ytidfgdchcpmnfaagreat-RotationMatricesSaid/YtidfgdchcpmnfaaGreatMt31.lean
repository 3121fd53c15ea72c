/-
  Lemmas for the theorem vmats_holds, part 31 of 32.
-/
import Derived.Test.YtidfgdchcpmnfaaGreatMt21
import Derived.Test.YtidfgdchcpmnfaaGreatMt30
namespace Go.Proofs.YtidfgdchcpmnfaaGreat
open Go Go.RowKit
set_option maxRecDepth 100000
set_option maxHeartbeats 1000000
set_option linter.unusedVariables false
set_option linter.unusedSimpArgs false
def rawZ : RawQ := ⟨false,0,0,0⟩
abbrev tR : Ty := .lf .rrat
abbrev tMR : Ty := .list (.list tR)
theorem v_rawQ {F : Nat → Prop} {w : World} {v : Value} {x : Rat} (h : RQ w v x) : vrep F w tR v (rawQ x) := by
  obtain ⟨b,p,c,b',p',c',rfl⟩ := rat_lens h
  exact ⟨_,rfl,b,p,c,b',p',c',rfl,h.raw⟩
theorem v_rawZ {F : Nat → Prop} {w : World} : vrep F w tR (.agg #[.bool false,.slice none 0 0,.bool false,.slice none 0 0]) rawZ :=
  ⟨[.bool false,.slice none 0 0,.bool false,.slice none 0 0],rfl,zc_rep (.lf .rrat) _ rfl⟩
def cVal (K : Nat) : Ctr := ⟨[tR],[tB],fun x => (show RawQ from x.1).n ≤ K ∧ (show RawQ from x.1).m ≤ K,fun x => ((show RawQ from x.1).ok,())⟩
theorem raw_v {F : Nat → Prop} {w : World} {v : Value} {x : RawQ} (h : vrep F w tR v x) : QRaw w v x.ok x.x ∧ ∀ K,x.n ≤ K → x.m ≤ K → Qn v K := by
  obtain ⟨cs,rfl,b,p,c,b',p',c',rfl,h2⟩ := h
  exact ⟨h2,fun K h1 h2 => ⟨b,p,_,c,b',p',_,c',rfl,h1,h2⟩⟩
theorem cVal_ok {f : FuncId} {K : Nat} (h : ∀ (v : Value) (ok : Bool) (q : Rat) (w : World),QRaw w v ok q → Qn v K → Calls Tryz.prog f #[v] w (fun e w' => e = .returned (.bool ok) ∧ Below w.heap.size w w')) : CtrOk Tryz.prog f (cVal K) := by
  intro F w vs x hF hvs hp
  obtain ⟨v,vs',rfl,h1,h3⟩ := hvs
  have h3 : vs' = [] := h3
  subst h3
  obtain ⟨h4,h5⟩ := raw_v h1
  refine (h v _ _ w h4 (h5 K hp.1 hp.2)).mono ?_
  rintro e w' ⟨rfl,hb⟩
  exact ⟨_,rfl,v_bool _,hb⟩
def newT (e x y : Int) : RawQ × Int × Unit := if y = 0 then (rawZ,e,()) else (rawQ (Rat.divInt x y),(0 : Int),())
def cNew (K : Nat) (e : Int) : Ctr := ⟨[tZ,tZ],[tR,tI],fun x => isz x.1 ≤ K ∧ isz x.2.1 ≤ K,fun x => newT e x.1 x.2.1⟩
theorem cNew_ok {f : FuncId} {K : Nat} {c : Int} (h : ∀ (v u : Value) (x y : Int) (w : World),RInt w v x → RInt w u y → isz x ≤ K → isz y ≤ K → y ≠ 0 → Calls Tryz.prog f #[v,u] w (GQC (Rat.divInt x y) 0 w)) (h0 : ∀ (v u : Value) (x y : Int) (w : World),RInt w v x → RInt w u y → y = 0 → Calls Tryz.prog f #[v,u] w (GNoQ c w)) : CtrOk Tryz.prog f (cNew K c) := by
  intro F w vs x hF hvs hp
  obtain ⟨v,vs',rfl,h1,u,vs'',rfl,h2,h3⟩ := hvs
  have h3 : vs'' = [] := h3
  subst h3
  by_cases hy : (show Int from x.2.1) = 0
  · refine (h0 v u x.1 x.2.1 w (big_v h1) (big_v h2) hy).mono ?_
    rintro e w' ⟨rfl,hb⟩
    refine ⟨_,rfl,?_,hb⟩
    rw [show (cNew K c).fn x = (rawZ,c,()) from if_pos hy]
    exact ⟨[_,_],rfl,_,_,rfl,v_rawZ,_,_,rfl,v_int _,rfl⟩
  · refine (h v u x.1 x.2.1 w (big_v h1) (big_v h2) hp.1 hp.2 hy).mono ?_
    rintro e w' ⟨r,rfl,hr,hb⟩
    refine ⟨_,rfl,?_,hb⟩
    rw [show (cNew K c).fn x = (rawQ (Rat.divInt x.1 x.2.1),(0 : Int),()) from if_neg hy]
    exact ⟨[_,_],rfl,_,_,rfl,v_rawQ hr,_,_,rfl,v_int _,rfl⟩
def divT (e : Int) (x y : Rat) : RawQ × Int × Unit := if y = 0 then (rawZ,e,()) else (rawQ (x / y),(0 : Int),())
def cDivQ (K : Nat) (e : Int) : Ctr := ⟨[tQ,tQ],[tR,tI],fun x => rsz x.1 ≤ K ∧ rsz x.2.1 ≤ K,fun x => divT e x.1 x.2.1⟩
theorem cDivQ_ok {f : FuncId} {K : Nat} {c : Int} (h : ∀ (v u : Value) (x y : Rat) (w : World),RQ w v x → RQ w u y → rsz x ≤ K → rsz y ≤ K → y ≠ 0 → Calls Tryz.prog f #[v,u] w (GQC (x / y) 0 w)) (h0 : ∀ (v u : Value) (x y : Rat) (w : World),RQ w v x → RQ w u y → rsz x ≤ K → rsz y ≤ K → y = 0 → Calls Tryz.prog f #[v,u] w (GNoQ c w)) : CtrOk Tryz.prog f (cDivQ K c) := by
  intro F w vs x hF hvs hp
  obtain ⟨v,vs',rfl,h1,u,vs'',rfl,h2,h3⟩ := hvs
  have h3 : vs'' = [] := h3
  subst h3
  by_cases hy : (show Rat from x.2.1) = 0
  · refine (h0 v u x.1 x.2.1 w (rat_v h1) (rat_v h2) hp.1 hp.2 hy).mono ?_
    rintro e w' ⟨rfl,hb⟩
    refine ⟨_,rfl,?_,hb⟩
    rw [show (cDivQ K c).fn x = (rawZ,c,()) from if_pos hy]
    exact ⟨[_,_],rfl,_,_,rfl,v_rawZ,_,_,rfl,v_int _,rfl⟩
  · refine (h v u x.1 x.2.1 w (rat_v h1) (rat_v h2) hp.1 hp.2 hy).mono ?_
    rintro e w' ⟨r,rfl,hr,hb⟩
    refine ⟨_,rfl,?_,hb⟩
    rw [show (cDivQ K c).fn x = (rawQ ((show Rat from x.1) / (show Rat from x.2.1)),(0 : Int),()) from if_neg hy]
    exact ⟨[_,_],rfl,_,_,rfl,v_rawQ hr,_,_,rfl,v_int _,rfl⟩
def cQZ (K : Nat) (g : Rat → Int) : Ctr := ⟨[tQ],[tZ],fun x => rsz x.1 ≤ K,fun x => (g x.1,())⟩
theorem cQZ_ok {f : FuncId} {K : Nat} {g : Rat → Int} (h : ∀ (v : Value) (x : Rat) (w : World),RQ w v x → rsz x ≤ K → Calls Tryz.prog f #[v] w (GInt (g x) w)) : CtrOk Tryz.prog f (cQZ K g) := by
  intro F w vs x hF hvs hp
  obtain ⟨v,vs',rfl,h1,h3⟩ := hvs
  have h3 : vs' = [] := h3
  subst h3
  refine (h v x.1 w (rat_v h1) hp).mono ?_
  rintro e w' ⟨r,rfl,hr,hb⟩
  exact ⟨_,rfl,v_big hr,hb⟩
abbrev s4 (x : Rat) : Prop := rsz x ≤ 400000000
abbrev s44 (x y : Rat) : Prop := rsz x ≤ 400000000 ∧ rsz y ≤ 400000000
noncomputable def LF : Lib := ((((((((((LD1
  ).add 51 (cIQ wordP (fun i => (i : Rat))) (cIQ_ok fun x w h => wholeQ_any x w h.1 h.2)
  ).add 122 (cVal 1000000000) (cVal_ok fun v ok q w h hn => validQ_any v ok q w h hn)
  ).add 70 (cNew 1000000000 14) (cNew_ok (fun v u x y w h1 h2 l1 l2 hy => newQ_ok v u _ _ x y w h1.rawV h2.rawV l1 l2 hy) (fun v u x y w h1 h2 hy => newQ_no v u _ _ x y w h1.rawV h2.rawV hy))
  ).add 52 (cQ2 s44 (· + ·)) (cQ2_ok fun v u x y w a b h => addQ_any v u x y w a b h.1 h.2)
  ).add 53 (cQ2 s44 (· * ·)) (cQ2_ok fun v u x y w a b h => mulQ_any v u x y w a b h.1 h.2)
  ).add 56 (cQ2 s44 (· - ·)) (cQ2_ok fun v u x y w a b h => subQ_any v u x y w a b h.1 h.2)
  ).add 90 (cQ2I s44 cmpQ) (cQ2I_ok fun v u x y w a b h => compareQ_any v u x y w a b h.1 h.2)
  ).add 91 (cDivQ 400000000 14) (cDivQ_ok (fun v u x y w a b h1 h2 hy => divQ_ok v u x y w a b h1 h2 hy) (fun v u x y w a b l1 l2 hy => divQ_noraw v u true true x y w a.raw b.raw (a.qn l1) (b.qn l2) hy))
  ).add 89 (cQ1 s4 absQ) (cQ1_ok fun v x w a h => absQ_any v x w a (Nat.le_trans h (by omega)))
  ).add 92 (cQZ 400000000 Rat.floor) (cQZ_ok fun v x w a h => floorQ_any v x w a (Nat.le_trans h (by omega)))
def cRL : Ctr := ⟨[tQuat],[.list tI],fun x => True,fun x => ([x.1.1,x.1.2.1,x.1.2.2.1,x.1.2.2.2.1],())⟩
theorem rlist_ctr : CtrOk Tryz.prog 66 cRL := by
  refine ctr_fn LZ [] Tryz.func66 rfl (by decide) (fun x => []) (fun x hp => ?_)
  obtain ⟨⟨a,b,c,d,v⟩,u⟩ := x
  change Int at a;change Int at b;change Int at c;change Int at d
  refine vc_of (True ∧ a :: b :: c :: d :: nilT Int = a :: b :: c :: d :: nilT Int ∧ True) (by kernel_rfl) ?_
  exact ⟨trivial,rfl,trivial⟩
noncomputable def LE0 : Lib := LF.add 66 cRL rlist_ctr
theorem rcheck_ctr : CtrOk Tryz.prog 17 (cHI (fun _ _ _ _ => True) qcode) := by
  refine ctr_fn LE0 [] Tryz.func17 rfl (by decide) (fun x => [.rounds 5 [4] []]) (fun x hp => ?_)
  obtain ⟨⟨a,b,c,d,v⟩,u⟩ := x
  change Int at a;change Int at b;change Int at c;change Int at d
  refine vc_of (((((a == 0) == true) = true → ((a == 0) == true) = true ∧ True) ∧ (((a == 0) == true) = true → ((a == 0) == true) = true ∧ True) ∧ ((a == 0) = true → ((a == 0) == true) = true) ∧ (((bif a == 0 then b == 0 else false) == true) = true → ((bif a == 0 then b == 0 else false) == true) = true ∧ True) ∧ (((bif a == 0 then b == 0 else false) == true) = true → ((bif a == 0 then b == 0 else false) == true) = true ∧ True) ∧ ((bif a == 0 then b == 0 else false) = true → ((bif a == 0 then b == 0 else false) == true) = true) ∧ (((bif bif a == 0 then b == 0 else false then c == 0 else false) == true) = true → ((bif bif a == 0 then b == 0 else false then c == 0 else false) == true) = true ∧ True) ∧ (((bif bif a == 0 then b == 0 else false then c == 0 else false) == true) = true → ((bif bif a == 0 then b == 0 else false then c == 0 else false) == true) = true ∧ True) ∧ ((bif bif a == 0 then b == 0 else false then c == 0 else false) = true → ((bif bif a == 0 then b == 0 else false then c == 0 else false) == true) = true) ∧ True) ∧ ifB (bif bif bif a == 0 then b == 0 else false then c == 0 else false then d == 0 else false) (True ∧ 1 = qcode a b c d ∧ True) ((True ∧ True) ∧ (asT Int 0 ≤ 0 ∧ 0 < natI (List.length (a :: b :: c :: d :: nilT Int)) ∧ ((decide (a > 1048576) == false) = true → (decide (a > 1048576) == false) = true ∧ (decide (a > 1048576) == false) = true ∧ asT Int 0 ≤ 0 ∧ 0 < natI (List.length (a :: b :: c :: d :: nilT Int)) ∧ True) ∧ ((decide (a > 1048576) == false) = true → (decide (a > 1048576) == false) = true ∧ True) ∧ ((decide (a > 1048576) == false) = true → (decide (a > 1048576) == false) = true ∧ True) ∧ (decide (a > 1048576) = false → (decide (a > 1048576) == false) = true) ∧ True) ∧ ifB (bif decide (a > 1048576) then true else decide (a < -1048576)) (True ∧ 3 = qcode a b c d ∧ True) ((asT Int 0 ≤ 1 ∧ 1 < natI (List.length (a :: b :: c :: d :: nilT Int)) ∧ ((decide (b > 1048576) == false) = true → (decide (b > 1048576) == false) = true ∧ (decide (b > 1048576) == false) = true ∧ asT Int 0 ≤ 1 ∧ 1 < natI (List.length (a :: b :: c :: d :: nilT Int)) ∧ True) ∧ ((decide (b > 1048576) == false) = true → (decide (b > 1048576) == false) = true ∧ True) ∧ ((decide (b > 1048576) == false) = true → (decide (b > 1048576) == false) = true ∧ True) ∧ (decide (b > 1048576) = false → (decide (b > 1048576) == false) = true) ∧ True) ∧ ifB (bif decide (b > 1048576) then true else decide (b < -1048576)) (True ∧ 3 = qcode a b c d ∧ True) ((asT Int 0 ≤ 2 ∧ 2 < natI (List.length (a :: b :: c :: d :: nilT Int)) ∧ ((decide (c > 1048576) == false) = true → (decide (c > 1048576) == false) = true ∧ (decide (c > 1048576) == false) = true ∧ asT Int 0 ≤ 2 ∧ 2 < natI (List.length (a :: b :: c :: d :: nilT Int)) ∧ True) ∧ ((decide (c > 1048576) == false) = true → (decide (c > 1048576) == false) = true ∧ True) ∧ ((decide (c > 1048576) == false) = true → (decide (c > 1048576) == false) = true ∧ True) ∧ (decide (c > 1048576) = false → (decide (c > 1048576) == false) = true) ∧ True) ∧ ifB (bif decide (c > 1048576) then true else decide (c < -1048576)) (True ∧ 3 = qcode a b c d ∧ True) ((asT Int 0 ≤ 3 ∧ 3 < natI (List.length (a :: b :: c :: d :: nilT Int)) ∧ ((decide (d > 1048576) == false) = true → (decide (d > 1048576) == false) = true ∧ (decide (d > 1048576) == false) = true ∧ asT Int 0 ≤ 3 ∧ 3 < natI (List.length (a :: b :: c :: d :: nilT Int)) ∧ True) ∧ ((decide (d > 1048576) == false) = true → (decide (d > 1048576) == false) = true ∧ True) ∧ ((decide (d > 1048576) == false) = true → (decide (d > 1048576) == false) = true ∧ True) ∧ (decide (d > 1048576) = false → (decide (d > 1048576) == false) = true) ∧ True) ∧ ifB (bif decide (d > 1048576) then true else decide (d < -1048576)) (True ∧ 3 = qcode a b c d ∧ True) (True ∧ 0 = qcode a b c d ∧ True)))))) (by kernel_rfl) ?_
  have e : ∀ q : Int,(bif decide (q > 1048576) then true else decide (q < -1048576)) = !decide (okc q) := fun q => by
    by_cases h : okc q
    · have h' := h;unfold okc at h'
      rw [decide_eq_false (p := q > 1048576) (by omega),decide_eq_false (p := q < -1048576) (by omega),decide_eq_true h];rfl
    · have h' : q < -1048576 ∨ q > 1048576 := by unfold okc at h;omega
      rw [decide_eq_false h]
      rcases h' with h' | h'
      · rw [decide_eq_true h'];cases decide (q > 1048576) <;> rfl
      · rw [decide_eq_true h'];rfl
  dsimp only [natI,asT,nilT] at *
  simp only [e]
  have z : (bif bif bif a == 0 then b == 0 else false then c == 0 else false then d == 0 else false) = decide (a = 0 ∧ b = 0 ∧ c = 0 ∧ d = 0) := by
    by_cases h0 : a = 0 <;> by_cases h1 : b = 0 <;> by_cases h2 : c = 0 <;> by_cases h3 : d = 0 <;> simp [h0,h1,h2,h3]
  rw [z]
  by_cases hz : a = 0 ∧ b = 0 ∧ c = 0 ∧ d = 0
  · obtain ⟨rfl,rfl,rfl,rfl⟩ := hz
    simp [ifB,qcode]
  · have hq : qcode a b c d = if okc a ∧ okc b ∧ okc c ∧ okc d then 0 else 3 := if_neg hz
    rw [hq,decide_eq_false hz]
    by_cases oa : okc a
    · by_cases ob : okc b
      · by_cases oc : okc c
        · by_cases od : okc d <;> simp [ifB,oa,ob,oc,od]
        · simp [ifB,oa,ob,oc]
      · simp [ifB,oa,ob]
    · simp [ifB,oa]
noncomputable def LE1 : Lib := LE0.add 17 (cHI (fun _ _ _ _ => True) qcode) rcheck_ctr
theorem qcode2_zero {a b c d e f g h : Int} : qcode2 a b c d e f g h = 0 ↔ qcode a b c d = 0 ∧ qcode e f g h = 0 := by
  unfold qcode2
  by_cases h : qcode a b c d = 0
  · rw [if_pos h];simp [h]
  · rw [if_neg h];simp [h]
def chordT (a b c d e f g h : Int) : RawQ × Int × Unit := if qcode2 a b c d e f g h = 0 then (rawQ (chordQ a b c d e f g h),0,()) else (rawZ,qcode2 a b c d e f g h,())
def cChord : Ctr := ⟨[tQuat,tQuat],[tR,tI],fun x => True,fun x => chordT x.1.1 x.1.2.1 x.1.2.2.1 x.1.2.2.2.1 x.2.1.1 x.2.1.2.1 x.2.1.2.2.1 x.2.1.2.2.2.1⟩
theorem chord_ctr : CtrOk Tryz.prog 19 cChord := by
  refine ctr_fn LE1 [4,7,8] Tryz.func19 rfl (by decide) (fun x => []) (fun x hp => ?_)
  obtain ⟨⟨a,b,c,d,v⟩,⟨e,f,g,h,z⟩,u⟩ := x
  change Int at a;change Int at b;change Int at c;change Int at d;change Int at e;change Int at f;change Int at g;change Int at h
  change Unit at v;change Unit at z
  refine vc_of (let x0z := (IntKind.wrap IntKind.i64 (IntKind.wrap IntKind.i64 (IntKind.wrap IntKind.i64 (a * e) + IntKind.wrap IntKind.i64 (b * f)) + IntKind.wrap IntKind.i64 (c * g)) + IntKind.wrap IntKind.i64 (d * h));(List.length ((a,b,c,d,v) :: (e,f,g,h,z) :: nilT (Int × Int × Int × Int × PUnit)) ≤ 1000000000 ∧ True) ∧ ifB (firstC ((a,b,c,d,v) :: (e,f,g,h,z) :: nilT (Int × Int × Int × Int × PUnit)) != 0) (True ∧ { ok := false,x := 0,n := 0,m := 0 } = Prod.fst (chordT a b c d e f g h) ∧ True ∧ firstC ((a,b,c,d,v) :: (e,f,g,h,z) :: nilT (Int × Int × Int × Int × PUnit)) = Prod.fst (Prod.snd (chordT a b c d e f g h)) ∧ True) ((wordP (IntKind.wrap IntKind.i64 x0z) ∧ True) ∧ ((isz (IntKind.wrap IntKind.i64 x0z) ≤ 1000000000 ∧ isz (IntKind.wrap IntKind.i64 x0z) ≤ 1000000000) ∧ (okc a ∧ okc b ∧ okc c ∧ okc d) ∧ wordP (normI a b c d) ∧ (okc e ∧ okc f ∧ okc g ∧ okc h) ∧ wordP (normI e f g h) ∧ (isz (normI a b c d) ≤ 1000000000 ∧ isz (normI e f g h) ≤ 1000000000) ∧ (isz (IntKind.wrap IntKind.i64 x0z * IntKind.wrap IntKind.i64 x0z) ≤ 1000000000 ∧ isz (normI a b c d * normI e f g h) ≤ 1000000000) ∧ True) ∧ (wordP 1 ∧ RawQ.ok (Prod.fst (newT 14 (IntKind.wrap IntKind.i64 x0z * IntKind.wrap IntKind.i64 x0z) (normI a b c d * normI e f g h))) = true ∧ s44 (intQ 1) (RawQ.x (Prod.fst (newT 14 (IntKind.wrap IntKind.i64 x0z * IntKind.wrap IntKind.i64 x0z) (normI a b c d * normI e f g h)))) ∧ True) ∧ True ∧ rawQ (intQ 1 - RawQ.x (Prod.fst (newT 14 (IntKind.wrap IntKind.i64 x0z * IntKind.wrap IntKind.i64 x0z) (normI a b c d * normI e f g h)))) = Prod.fst (chordT a b c d e f g h) ∧ True ∧ 0 = Prod.fst (Prod.snd (chordT a b c d e f g h)) ∧ True)) (by kernel_rfl) ?_
  dsimp only [nilT,intQ] at *
  rw [first2 a b c d e f g h v z]
  by_cases k : qcode2 a b c d e f g h = 0
  · obtain ⟨k1,k2⟩ := qcode2_zero.1 k
    obtain ⟨hn,oa,ob,oc,od⟩ := qcode_ok k1
    obtain ⟨hm,oe,of,og,oh⟩ := qcode_ok k2
    have ee : chordT a b c d e f g h = (rawQ (chordQ a b c d e f g h),0,()) := if_pos k
    obtain ⟨pae0,pae1⟩ := okc_mul oa oe
    obtain ⟨pbf0,pbf1⟩ := okc_mul ob of
    obtain ⟨pcg0,pcg1⟩ := okc_mul oc og
    obtain ⟨pdh0,pdh1⟩ := okc_mul od oh
    obtain ⟨q0,q1⟩ := qdot_bound oa ob oc od oe of og oh
    have eS : IntKind.wrap IntKind.i64 (IntKind.wrap IntKind.i64 (IntKind.wrap IntKind.i64 (IntKind.wrap IntKind.i64 (a * e) + IntKind.wrap IntKind.i64 (b * f)) + IntKind.wrap IntKind.i64 (c * g)) + IntKind.wrap IntKind.i64 (d * h)) = qdot a b c d e f g h := by
      unfold qdot at *
      simp (disch := omega) only [wrap_id]
    rw [eS,ee]
    obtain ⟨hk10,hk11⟩ := normI_bound oa ob oc od
    obtain ⟨hk20,hk21⟩ := normI_bound oe of og oh
    have hu1 := isz_13 hk10 hk11
    have hu2 := isz_13 hk20 hk21
    have hu3 := isz_13 q0 q1
    have hu4 := isz_mul (normI a b c d) (normI e f g h)
    have hu5 := isz_mul (qdot a b c d e f g h) (qdot a b c d e f g h)
    have hNN := Int.mul_pos (normI_pos hn) (normI_pos hm)
    have hN0 : normI a b c d * normI e f g h ≠ 0 := by omega
    have hu6 := rsz_divInt (qdot a b c d e f g h * qdot a b c d e f g h) (normI a b c d * normI e f g h) hN0 (k := 4) (by omega) (by omega)
    have hu7 : rsz ((1 : Int) : Rat) ≤ 1 := by decide +kernel
    have w1 : wordP 1 := by unfold wordP;omega
    have wS : wordP (qdot a b c d e f g h) := by unfold wordP;omega
    have wn : wordP (normI a b c d) := by unfold wordP;omega
    have wm : wordP (normI e f g h) := by unfold wordP;omega
    have eN : newT 14 (qdot a b c d e f g h * qdot a b c d e f g h) (normI a b c d * normI e f g h) = (rawQ (Rat.divInt (qdot a b c d e f g h * qdot a b c d e f g h) (normI a b c d * normI e f g h)),0,()) := if_neg hN0
    rw [eN,k]
    exact ⟨⟨by show 2 ≤ 1000000000;omega,trivial⟩,⟨wS,trivial⟩,⟨⟨by omega,by omega⟩,⟨oa,ob,oc,od⟩,wn,⟨oe,of,og,oh⟩,wm,⟨by omega,by omega⟩,⟨by omega,by omega⟩,trivial⟩,⟨w1,rfl,⟨by omega,by show rsz (Rat.divInt _ _) ≤ _;omega⟩,trivial⟩,trivial,rfl,trivial,rfl,trivial⟩
  · have ee : chordT a b c d e f g h = (rawZ,qcode2 a b c d e f g h,()) := if_neg k
    have kb : (qcode2 a b c d e f g h != 0) = true := by simpa using k
    rw [ee,kb]
    exact ⟨⟨by show 2 ≤ 1000000000;omega,trivial⟩,trivial,rfl,trivial,rfl,trivial⟩
noncomputable def LE2 : Lib := LE1.add 19 cChord chord_ctr
end Go.Proofs.YtidfgdchcpmnfaaGreat
namespace Go.Proofs.YtidfgdchcpmnfaaGreat
open Go Go.RowKit
set_option maxRecDepth 100000
set_option maxHeartbeats 1000000
set_option linter.unusedVariables false
set_option linter.unusedSimpArgs false
abbrev RL : Type := List RawQ
abbrev RM : Type := List (List RawQ)
theorem take4 {α : Type} {ds : List α} {k : Nat} {a b c d : α} (h : (ds.drop k).take 4 = [a,b,c,d]) : ds[k]? = some a ∧ ds[k + 1]? = some b ∧ ds[k + 2]? = some c ∧ ds[k + 3]? = some d := by
  have g : ∀ j,j < 4 → ds[k + j]? = ([a,b,c,d] : List α)[j]? := fun j hj => by
    rw [← h,List.getElem?_take,if_pos hj,List.getElem?_drop]
  exact ⟨g 0 (by omega),g 1 (by omega),g 2 (by omega),g 3 (by omega)⟩
theorem row_R {F : Nat → Prop} {w : World} {v : Value} {xs : RL} {K : Nat} (h : vrep F w (.list tR) v xs) (hF : ∀ q,F q → q < w.heap.size) (hK : ∀ q ∈ xs,q.n ≤ K ∧ q.m ≤ K) : RowR w v xs.length K (fun i => (xs.getD i rawZ).ok) (fun i => (xs.getD i rawZ).x) := by
  obtain ⟨cs,rfl,p,c,rfl,h1,h2,h3⟩ := h
  refine ⟨p,c,rfl,h1,h2,fun hn => ?_⟩
  rcases h3 with h3 | ⟨b,o,ds,rfl,hb,hr,hc⟩
  · rw [h3] at hn;exact absurd hn (Nat.lt_irrefl 0)
  refine ⟨b,o,rfl,hF b hb,fun i hi => ?_⟩
  obtain ⟨b1,p1,c1,b2,p2,c2,e,hq⟩ := chunk_ty hc hi
  obtain ⟨g0,g1,g2,g3⟩ := take4 e
  have h4 : Ty.n tR = 4 := rfl
  have e : (ds.drop (i * Ty.n tR)).take (Ty.n tR) = [.bool b1,.slice p1 (List.getD xs i rawZ).n c1,.bool b2,.slice p2 (List.getD xs i rawZ).m c2] := e
  refine ⟨.bool b1,.slice p1 (List.getD xs i rawZ).n c1,.bool b2,.slice p2 (List.getD xs i rawZ).m c2,hr _ _ g0,?_,?_,?_,b1,p1,(List.getD xs i rawZ).n,c1,b2,p2,(List.getD xs i rawZ).m,c2,rfl,rfl,rfl,rfl,?_,?_,?_⟩
  · have := hr _ _ g1;rw [h4,← Nat.add_assoc] at this;exact this
  · have := hr _ _ g2;rw [h4,← Nat.add_assoc] at this;exact this
  · have := hr _ _ g3;rw [h4,← Nat.add_assoc] at this;exact this
  · have hq : QRaw w (.agg ((ds.drop (i * Ty.n tR)).take (Ty.n tR)).toArray) _ _ := hq
    rw [e] at hq
    exact hq
  · exact (getD_all (p := fun q : RawQ => q.n ≤ K ∧ q.m ≤ K) hK hi (d := rawZ)).1
  · exact (getD_all (p := fun q : RawQ => q.n ≤ K ∧ q.m ≤ K) hK hi (d := rawZ)).2
theorem mat_R {F : Nat → Prop} {w : World} {v : Value} {m : RM} {K : Nat} (h : vrep F w tMR v m) (hF : ∀ q,F q → q < w.heap.size) (hK : ∀ r ∈ m,∀ q ∈ r,q.n ≤ K ∧ q.m ≤ K) : MatR w v m.length (fun i => (m.getD i []).length) K (fun i j => ((m.getD i []).getD j rawZ).ok) (fun i j => ((m.getD i []).getD j rawZ).x) := by
  obtain ⟨cs,rfl,p,c,rfl,h1,h2,h3⟩ := h
  refine ⟨p,c,rfl,h1,h2,fun hn => ?_⟩
  rcases h3 with h3 | ⟨b,o,ds,rfl,hb,hr,hc⟩
  · rw [h3] at hn;exact absurd hn (Nat.lt_irrefl 0)
  refine ⟨b,o,rfl,hF b hb,fun i hi => ?_⟩
  have e := chunk_ty hc hi
  have hrow : vrep F w (.list tR) ((Ty.list tR).toV ((ds.drop (i * Ty.n (.list tR))).take (Ty.n (.list tR)))) (m.getD i []) := ⟨_,rfl,e⟩
  obtain ⟨p1,c1,e1,_⟩ := e
  refine ⟨_,?_,row_R hrow hF (getD_all (p := fun r : RL => ∀ q ∈ r,q.n ≤ K ∧ q.m ≤ K) hK hi)⟩
  rw [e1]
  have g : ds[i * 1]? = some (.slice p1 (m.getD i []).length c1) := by
    have h9 := congrArg (fun l : List Value => l[0]?) e1
    simp only [List.getElem?_take,List.getElem?_drop] at h9
    rw [if_pos (show 0 < Ty.n (.list tR) from Nat.one_pos)] at h9
    exact h9
  have := hr _ _ g
  rwa [Nat.mul_one] at this
def lens (K : Nat) (m : RM) : Prop := ∀ r ∈ m,∀ q ∈ r,q.n ≤ K ∧ q.m ≤ K ∧ rsz q.x ≤ K
def rcode (m : RM) : Int := mcode m.length (fun i => (m.getD i []).length) (fun i j => ((m.getD i []).getD j rawZ).ok)
def cMC : Ctr := ⟨[tMR],[tI],fun x => lens 700000 x.1,fun x => (rcode x.1,())⟩
theorem mcheck_ctr : CtrOk Tryz.prog 48 cMC := by
  intro F w vs x hF hvs hp
  obtain ⟨v,vs',rfl,h1,h3⟩ := hvs
  have h3 : vs' = [] := h3
  subst h3
  refine (mcheck_any v _ 700000 _ _ _ w (mat_R h1 hF (fun r hr q hq => ⟨(hp r hr q hq).1,(hp r hr q hq).2.1⟩)) (by omega)).mono ?_
  rintro e w' ⟨rfl,hb⟩
  exact ⟨_,rfl,v_int _,hb⟩
def sq3 (m : RM) : Prop := m.length = 3 ∧ ∀ r ∈ m,r.length = 3
def eR (m : RM) (i j : Nat) : Rat := ((m.getD i []).getD j rawZ).x
def okM (m : RM) : Prop := ∀ r ∈ m,∀ q ∈ r,q.ok = true
def cTu : Ctr := ⟨[tMR],[tB],fun x => lens 700000 x.1 ∧ sq3 x.1 ∧ okM x.1,fun x => (turnB (eR x.1),())⟩
theorem len3R {m : RM} (h : sq3 m) {i : Nat} (hi : i < 3) : (m.getD i []).length = 3 := getD_all (p := fun r : RL => r.length = 3) h.2 (by rw [h.1];exact hi)
theorem okMR {m : RM} (h : sq3 m) (ho : okM m) {i j : Nat} (hi : i < 3) (hj : j < 3) : ((m.getD i []).getD j rawZ).ok = true :=
  getD_all (p := fun q : RawQ => q.ok = true) (getD_all (p := fun r : RL => ∀ q ∈ r,q.ok = true) ho (by rw [h.1];exact hi)) (by rw [len3R h hi];exact hj)
theorem turning_ctr : CtrOk Tryz.prog 49 cTu := by
  intro F w vs x hF hvs hp
  obtain ⟨v,vs',rfl,h1,h3⟩ := hvs
  have h3 : vs' = [] := h3
  subst h3
  obtain ⟨h4,h5,h6⟩ := hp
  have hm := mat_R h1 hF (fun r hr q hq => ⟨(h4 r hr q hq).1,(h4 r hr q hq).2.1⟩)
  rw [h5.1] at hm
  refine (turning_any v 700000 _ w (MatR.congr hm (fun i hi => len3R h5 hi) (fun i hi j hj => okMR h5 h6 hi (by rw [← len3R h5 hi];exact hj)) (fun i hi j hj => rfl)) (by omega) (by omega)).mono ?_
  rintro e w' ⟨rfl,hb⟩
  exact ⟨_,rfl,v_bool _,hb⟩
noncomputable def LG0 : Lib := (LE2.add 48 cMC mcheck_ctr).add 49 cTu turning_ctr
abbrev at3 (i : Int) : Prop := 0 ≤ i ∧ i < 3
def m3 (m : RM) : Prop := lens 700000 m ∧ sq3 m ∧ okM m
theorem m3_at {m : RM} (h : m3 m) {i j : Nat} (hi : i < 3) (hj : j < 3) : ((m.getD i []).getD j rawZ).ok = true ∧ rsz (eR m i j) ≤ 700000 :=
  ⟨okMR h.2.1 h.2.2 hi hj,(getD_all (p := fun q : RawQ => q.n ≤ 700000 ∧ q.m ≤ 700000 ∧ rsz q.x ≤ 700000) (getD_all (p := fun r : RL => ∀ q ∈ r,q.n ≤ 700000 ∧ q.m ≤ 700000 ∧ rsz q.x ≤ 700000) h.1 (by rw [h.2.1.1];exact hi)) (by rw [len3R h.2.1 hi];exact hj)).2.2⟩
def cPl (g : Rat → Rat → Rat) : Ctr := ⟨[tI,tI,.ref tMR],[tQ],fun x => at3 x.1 ∧ at3 x.2.1 ∧ m3 x.2.2.1,fun x => (g (eR x.2.2.1 (Int.toNat x.1) (Int.toNat x.2.1)) (eR x.2.2.1 (Int.toNat x.2.1) (Int.toNat x.1)),())⟩
theorem plus_ctr : CtrOk Tryz.prog 54 (cPl (· + ·)) := by
  refine ctr_fn LG0 [5] Tryz.func54 rfl (by decide) (fun x => []) (fun x hp => ?_)
  obtain ⟨i,j,m,u⟩ := x
  change Int at i;change Int at j;change RM at m
  refine vc_of ((0 ≤ i ∧ i < natI (List.length m) ∧ 0 ≤ j ∧ j < natI (List.length (List.getD m (Int.toNat i) (nilT RawQ))) ∧ 0 ≤ j ∧ j < natI (List.length m) ∧ 0 ≤ i ∧ i < natI (List.length (List.getD m (Int.toNat j) (nilT RawQ))) ∧ RawQ.ok (List.getD (List.getD m (Int.toNat i) (nilT RawQ)) (Int.toNat j) { ok := false,x := 0,n := 0,m := 0 }) = true ∧ RawQ.ok (List.getD (List.getD m (Int.toNat j) (nilT RawQ)) (Int.toNat i) { ok := false,x := 0,n := 0,m := 0 }) = true ∧ s44 (RawQ.x (List.getD (List.getD m (Int.toNat i) (nilT RawQ)) (Int.toNat j) { ok := false,x := 0,n := 0,m := 0 })) (RawQ.x (List.getD (List.getD m (Int.toNat j) (nilT RawQ)) (Int.toNat i) { ok := false,x := 0,n := 0,m := 0 })) ∧ True) ∧ True ∧ RawQ.x (List.getD (List.getD m (Int.toNat i) (nilT RawQ)) (Int.toNat j) { ok := false,x := 0,n := 0,m := 0 }) + RawQ.x (List.getD (List.getD m (Int.toNat j) (nilT RawQ)) (Int.toNat i) { ok := false,x := 0,n := 0,m := 0 }) = eR m (Int.toNat i) (Int.toNat j) + eR m (Int.toNat j) (Int.toNat i) ∧ True) (by kernel_rfl) ?_
  obtain ⟨h1,h2,h3⟩ := hp
  have hZ : (⟨false,0,0,0⟩ : RawQ) = rawZ := rfl
  dsimp only [natI,nilT,at3,sval,asT,intQ] at *
  simp only [hZ]
  obtain ⟨i,rfl⟩ : ∃ n : Nat,i = n := ⟨i.toNat,by omega⟩
  obtain ⟨j,rfl⟩ : ∃ n : Nat,j = n := ⟨j.toNat,by omega⟩
  simp only [Int.toNat_natCast]
  have hi : i < 3 := by omega
  have hj : j < 3 := by omega
  obtain ⟨o1,b1⟩ := m3_at h3 hi hj
  obtain ⟨o2,b2⟩ := m3_at h3 hj hi
  rw [h3.2.1.1,len3R h3.2.1 hi,len3R h3.2.1 hj]
  exact ⟨⟨by omega,by omega,by omega,by omega,by omega,by omega,by omega,by omega,o1,o2,⟨by unfold eR at b1;omega,by unfold eR at b2;omega⟩,trivial⟩,trivial,rfl,trivial⟩
theorem minus_ctr : CtrOk Tryz.prog 55 (cPl (· - ·)) := by
  refine ctr_fn LG0 [5] Tryz.func55 rfl (by decide) (fun x => []) (fun x hp => ?_)
  obtain ⟨i,j,m,u⟩ := x
  change Int at i;change Int at j;change RM at m
  refine vc_of ((0 ≤ i ∧ i < natI (List.length m) ∧ 0 ≤ j ∧ j < natI (List.length (List.getD m (Int.toNat i) (nilT RawQ))) ∧ 0 ≤ j ∧ j < natI (List.length m) ∧ 0 ≤ i ∧ i < natI (List.length (List.getD m (Int.toNat j) (nilT RawQ))) ∧ RawQ.ok (List.getD (List.getD m (Int.toNat i) (nilT RawQ)) (Int.toNat j) { ok := false,x := 0,n := 0,m := 0 }) = true ∧ RawQ.ok (List.getD (List.getD m (Int.toNat j) (nilT RawQ)) (Int.toNat i) { ok := false,x := 0,n := 0,m := 0 }) = true ∧ s44 (RawQ.x (List.getD (List.getD m (Int.toNat i) (nilT RawQ)) (Int.toNat j) { ok := false,x := 0,n := 0,m := 0 })) (RawQ.x (List.getD (List.getD m (Int.toNat j) (nilT RawQ)) (Int.toNat i) { ok := false,x := 0,n := 0,m := 0 })) ∧ True) ∧ True ∧ RawQ.x (List.getD (List.getD m (Int.toNat i) (nilT RawQ)) (Int.toNat j) { ok := false,x := 0,n := 0,m := 0 }) - RawQ.x (List.getD (List.getD m (Int.toNat j) (nilT RawQ)) (Int.toNat i) { ok := false,x := 0,n := 0,m := 0 }) = eR m (Int.toNat i) (Int.toNat j) - eR m (Int.toNat j) (Int.toNat i) ∧ True) (by kernel_rfl) ?_
  obtain ⟨h1,h2,h3⟩ := hp
  have hZ : (⟨false,0,0,0⟩ : RawQ) = rawZ := rfl
  dsimp only [natI,nilT,at3,sval,asT,intQ] at *
  simp only [hZ]
  obtain ⟨i,rfl⟩ : ∃ n : Nat,i = n := ⟨i.toNat,by omega⟩
  obtain ⟨j,rfl⟩ : ∃ n : Nat,j = n := ⟨j.toNat,by omega⟩
  simp only [Int.toNat_natCast]
  have hi : i < 3 := by omega
  have hj : j < 3 := by omega
  obtain ⟨o1,b1⟩ := m3_at h3 hi hj
  obtain ⟨o2,b2⟩ := m3_at h3 hj hi
  rw [h3.2.1.1,len3R h3.2.1 hi,len3R h3.2.1 hj]
  exact ⟨⟨by omega,by omega,by omega,by omega,by omega,by omega,by omega,by omega,o1,o2,⟨by unfold eR at b1;omega,by unfold eR at b2;omega⟩,trivial⟩,trivial,rfl,trivial⟩
def cSu : Ctr := ⟨[.arr 3 tI,.ref tMR],[tQ],fun x => (show List Int from x.1).length = 3 ∧ (∀ k,k < 3 → (xsL x.1 k = 1 ∨ xsL x.1 k = -1)) ∧ m3 x.2.1,fun x => (omSum (xsL x.1) (eR x.2.1) 3,())⟩
theorem sum_ctr : CtrOk Tryz.prog 50 cSu := by
  refine ctr_fn LG0 [3,4] Tryz.func50 rfl (by decide) (fun x => [.inv Le3 (fun k => [(9,.val tI (k.1 : Int))]) (fun k => [(3,.box [⟨tR,rawZ⟩]),(4,.box [⟨tQ,omSum (xsL x.1) (eR x.2.1) k.1⟩])]) (fun k => 3 - k.1) ⟨0,by omega⟩ (fun _ => [])]) (fun x hp => ?_)
  obtain ⟨s,m,u⟩ := x
  change List Int at s;change RM at m
  refine vc_of ((wordP 1 ∧ True) ∧ (asT Int 0 = natI 0 ∧ asT RawQ { ok := false,x := 0,n := 0,m := 0 } = rawZ ∧ intQ 1 = omSum (xsL s) (eR m) 0 ∧ True) ∧ ∀ (i : Le3),asT Bool true = true ∧ ifB (decide (natI (sval i) < 3)) ((0 ≤ natI (sval i) ∧ natI (sval i) < natI 3 ∧ True) ∧ (wordP (List.getD s (Int.toNat (natI (sval i))) 0) ∧ 0 ≤ natI (sval i) ∧ natI (sval i) < natI (List.length m) ∧ 0 ≤ natI (sval i) ∧ natI (sval i) < natI (List.length (List.getD m (Int.toNat (natI (sval i))) (nilT RawQ))) ∧ RawQ.ok (List.getD (List.getD m (Int.toNat (natI (sval i))) (nilT RawQ)) (Int.toNat (natI (sval i))) { ok := false,x := 0,n := 0,m := 0 }) = true ∧ s44 (intQ (List.getD s (Int.toNat (natI (sval i))) 0)) (RawQ.x (List.getD (List.getD m (Int.toNat (natI (sval i))) (nilT RawQ)) (Int.toNat (natI (sval i))) { ok := false,x := 0,n := 0,m := 0 })) ∧ s44 (omSum (xsL s) (eR m) (sval i)) (intQ (List.getD s (Int.toNat (natI (sval i))) 0) * RawQ.x (List.getD (List.getD m (Int.toNat (natI (sval i))) (nilT RawQ)) (Int.toNat (natI (sval i))) { ok := false,x := 0,n := 0,m := 0 })) ∧ True) ∧ ∃ (i' : Le3),3 - sval i' < 3 - sval i ∧ IntKind.wrap IntKind.i64 (natI (sval i) + 1) = natI (sval i') ∧ asT RawQ rawZ = rawZ ∧ omSum (xsL s) (eR m) (sval i) + intQ (List.getD s (Int.toNat (natI (sval i))) 0) * RawQ.x (List.getD (List.getD m (Int.toNat (natI (sval i))) (nilT RawQ)) (Int.toNat (natI (sval i))) { ok := false,x := 0,n := 0,m := 0 }) = omSum (xsL s) (eR m) (sval i') ∧ True) (True ∧ omSum (xsL s) (eR m) (sval i) = omSum (xsL s) (eR m) 3 ∧ True)) (by kernel_rfl) ?_
  obtain ⟨hl,hs,h3⟩ := hp
  have hZ : (⟨false,0,0,0⟩ : RawQ) = rawZ := rfl
  dsimp only [natI,nilT,sval,asT,intQ] at *
  have hx : ∀ j,s.getD j 0 = xsL s j := fun _ => rfl
  simp only [hZ,hx,Int.toNat_natCast,ifB_iff,true_and,and_true,decide_eq_true_eq,decide_eq_false_iff_not]
  generalize xsL s = X at *
  have r1 : ∀ k,k < 3 → rsz ((X k : Int) : Rat) ≤ 1 := fun k hk => by
    rcases hs k hk with e | e <;> rw [e] <;> decide +kernel
  have r2 : ∀ k,k < 3 → rsz (eR m k k) ≤ 700000 := fun k hk => (m3_at h3 hk hk).2
  have r3 := omSum_rsz r1 r2
  refine ⟨by unfold wordP;omega,⟨rfl,rfl⟩,fun i => ⟨fun h1 => ?_,fun h1 => ?_⟩⟩
  · have hi : i.1 < 3 := by omega
    obtain ⟨o1,b1⟩ := m3_at h3 hi hi
    have b2 := r1 i.1 hi
    have b3 := r3 i.1 (by omega)
    have b4 := rsz_mul ((X i.1 : Int) : Rat) (eR m i.1 i.1)
    have b5 : i.1 * (700000 + 2) + 1 ≤ 3000000 := by omega
    rw [h3.2.1.1,len3R h3.2.1 hi]
    unfold eR at b1 b4
    refine ⟨⟨by omega,by omega⟩,⟨?_,by omega,by omega,by omega,by omega,o1,⟨by omega,by omega⟩,⟨by omega,by omega⟩⟩,⟨i.1 + 1,by omega⟩,by simp only;omega,?_,rfl⟩
    · rcases hs i.1 hi with e | e <;> rw [e] <;> unfold wordP <;> omega
    · rw [wrap_id (by omega) (by omega)];rfl
  · have hi := i.2
    have hi : i.1 = 3 := by omega
    rw [hi]
noncomputable def LG1 : Lib := ((LG0.add 54 (cPl (· + ·)) plus_ctr).add 55 (cPl (· - ·)) minus_ctr).add 50 cSu sum_ctr
theorem eta4 (x : QC4) : (x.1.1,x.1.2.1,x.1.2.2.1,x.1.2.2.2.1,()) = x.1 := rfl
theorem rcode_at {m : RM} (h : rcode m = 0) : ∀ i,i < m.length → (m.getD i []).length = (m.getD 0 []).length ∧ ∀ j,j < (m.getD i []).length → ((m.getD i []).getD j rawZ).ok = true := fun i hi => by
  unfold rcode mcode at h
  split at h
  · rename_i h9
    have := allB_iff.1 h9.2.2.2.2 i hi
    unfold rowOk at this
    rw [Bool.and_eq_true,decide_eq_true_eq] at this
    exact ⟨this.1,fun j hj => allB_iff.1 this.2 j hj⟩
  · omega
theorem all_getD {α : Type} {p : α → Prop} {xs : List α} (d : α) (h : ∀ i,i < xs.length → p (xs.getD i d)) : ∀ x ∈ xs,p x := fun x hx => by
  obtain ⟨i,hi,rfl⟩ := List.getElem_of_mem hx
  have := h i hi
  rwa [List.getD_eq_getElem?_getD,List.getElem?_eq_getElem hi,Option.getD_some] at this
theorem rcode_sq {m : RM} (h : rcode m = 0) (h2 : m.length = 3) (h3 : (m.getD 0 []).length = 3) : sq3 m := ⟨h2,all_getD [] (fun i hi => ((rcode_at h i hi).1.trans h3))⟩
theorem rcode_ok {m : RM} (h : rcode m = 0) : okM m := all_getD [] (fun i hi => all_getD rawZ (rcode_at h i hi).2)
theorem nzB_congr {q r : Nat → Rat} (h : ∀ j,j < 4 → q j = r j) : nzB q = nzB r := by
  unfold nzB allB
  rw [show List.range 4 = [0,1,2,3] from rfl]
  simp only [List.all_cons,List.all_nil,h 0 (by omega),h 1 (by omega),h 2 (by omega),h 3 (by omega)]
theorem nzB_ex {q : Nat → Rat} (h : nzB q = true) : ∃ j,j < 4 ∧ q j ≠ 0 := by
  refine Classical.byContradiction fun hn => ?_
  have : allB 4 (fun i => decide (q i = 0)) = true := allB_iff.2 (fun i hi => by
    rw [decide_eq_true_eq]
    exact Classical.byContradiction fun h9 => hn ⟨i,hi,h9⟩)
  unfold nzB at h
  rw [this] at h;cases h
theorem clearXs_congr {q r : Nat → Rat} (h : ∀ j,j < 4 → q j = r j) {j : Nat} (hj : j < 4) : clearXs q j = clearXs r j := by
  have hd : clearD q = clearD r := by unfold clearD;simp only [h 0 (by omega),h 1 (by omega),h 2 (by omega),h 3 (by omega)]
  unfold clearXs
  rw [h j hj,hd]
def omT (m : RM) : QC4 := if rcode m = 0 ∧ m.length = 3 ∧ (m.getD 0 []).length = 3 then (if turnB (eR m) = true then (if nzB (omRow (eR m) 0) = true then primT (clearXs (omRow (eR m) 0)) else if nzB (omRow (eR m) 1) = true then primT (clearXs (omRow (eR m) 1)) else if nzB (omRow (eR m) 2) = true then primT (clearXs (omRow (eR m) 2)) else if nzB (omRow (eR m) 3) = true then primT (clearXs (omRow (eR m) 3)) else ((0,0,0,0,()),15,())) else ((0,0,0,0,()),15,())) else ((0,0,0,0,()),1,())
def cOm : Ctr := ⟨[tMR],[tQuat,tI],fun x => lens 700000 x.1 ∧ (show RM from x.1).length ≤ 1000000000,fun x => omT x.1⟩
theorem ofMatrix_ctr : CtrOk Tryz.prog 14 cOm := by
  refine ctr_fn LG1 [2,8] Tryz.func14 rfl (by decide) (fun x => [.turns 5 [74] [2] []]) (fun x hp => ?_)
  obtain ⟨m,u⟩ := x
  change RM at m
  refine vc_of (let x0z := ((eR m 2 1 - eR m 1 2) :: omSum (xsL (1 :: -1 :: -1 :: nilT Int)) (eR m) 3 :: (eR m 0 1 + eR m 1 0) :: (eR m 0 2 + eR m 2 0) :: nilT Rat);let x1z := ((eR m 0 2 - eR m 2 0) :: (eR m 0 1 + eR m 1 0) :: omSum (xsL (-1 :: 1 :: -1 :: nilT Int)) (eR m) 3 :: (eR m 1 2 + eR m 2 1) :: nilT Rat);let x2z := ((eR m 1 0 - eR m 0 1) :: (eR m 0 2 + eR m 2 0) :: (eR m 1 2 + eR m 2 1) :: omSum (xsL (-1 :: -1 :: 1 :: nilT Int)) (eR m) 3 :: nilT Rat);let x3z := (omSum (xsL (1 :: 1 :: 1 :: nilT Int)) (eR m) 3 :: (eR m 2 1 - eR m 1 2) :: (eR m 0 2 - eR m 2 0) :: (eR m 1 0 - eR m 0 1) :: nilT Rat);let x4z := ((bif natI (List.length m) != 3 then true else rcode m != 0) == false);((((natI (List.length m) != 3) == false) = true → ((natI (List.length m) != 3) == false) = true ∧ lens 700000 m ∧ True) ∧ (((natI (List.length m) != 3) == false) = true → ((natI (List.length m) != 3) == false) = true ∧ True) ∧ ((natI (List.length m) != 3) = false → ((natI (List.length m) != 3) == false) = true) ∧ (x4z = true → x4z = true ∧ asT Int 0 ≤ 0 ∧ 0 < natI (List.length m) ∧ True) ∧ (x4z = true → x4z = true ∧ True) ∧ (x4z = true → x4z = true ∧ True) ∧ (x4z = true → x4z = true ∧ True) ∧ ((bif natI (List.length m) != 3 then true else rcode m != 0) = false → x4z = true) ∧ True) ∧ ifB (bif bif natI (List.length m) != 3 then true else rcode m != 0 then true else natI (List.length (List.getD m 0 (nilT RawQ))) != 3) (True ∧ (0,0,0,0,()) = Prod.fst (omT m) ∧ True ∧ 1 = Prod.fst (Prod.snd (omT m)) ∧ True) (((lens 700000 m ∧ sq3 m ∧ okM m) ∧ True) ∧ ifB (!turnB (eR m)) (True ∧ (0,0,0,0,()) = Prod.fst (omT m) ∧ True ∧ 15 = Prod.fst (Prod.snd (omT m)) ∧ True) (((List.length (1 :: 1 :: 1 :: nilT Int) = 3 ∧ (∀ (k : Nat),k < 3 → xsL (1 :: 1 :: 1 :: nilT Int) k = 1 ∨ xsL (1 :: 1 :: 1 :: nilT Int) k = -1) ∧ m3 m) ∧ (at3 2 ∧ at3 1 ∧ m3 m) ∧ (at3 0 ∧ at3 2 ∧ m3 m) ∧ (at3 1 ∧ at3 0 ∧ m3 m) ∧ (at3 2 ∧ at3 1 ∧ m3 m) ∧ (List.length (1 :: -1 :: -1 :: nilT Int) = 3 ∧ (∀ (k : Nat),k < 3 → xsL (1 :: -1 :: -1 :: nilT Int) k = 1 ∨ xsL (1 :: -1 :: -1 :: nilT Int) k = -1) ∧ m3 m) ∧ (at3 0 ∧ at3 1 ∧ m3 m) ∧ (at3 0 ∧ at3 2 ∧ m3 m) ∧ (at3 0 ∧ at3 2 ∧ m3 m) ∧ (at3 0 ∧ at3 1 ∧ m3 m) ∧ (List.length (-1 :: 1 :: -1 :: nilT Int) = 3 ∧ (∀ (k : Nat),k < 3 → xsL (-1 :: 1 :: -1 :: nilT Int) k = 1 ∨ xsL (-1 :: 1 :: -1 :: nilT Int) k = -1) ∧ m3 m) ∧ (at3 1 ∧ at3 2 ∧ m3 m) ∧ (at3 1 ∧ at3 0 ∧ m3 m) ∧ (at3 0 ∧ at3 2 ∧ m3 m) ∧ (at3 1 ∧ at3 2 ∧ m3 m) ∧ (List.length (-1 :: -1 :: 1 :: nilT Int) = 3 ∧ (∀ (k : Nat),k < 3 → xsL (-1 :: -1 :: 1 :: nilT Int) k = 1 ∨ xsL (-1 :: -1 :: 1 :: nilT Int) k = -1) ∧ m3 m) ∧ True) ∧ (asT Int 0 ≤ 0 ∧ 0 < natI (List.length (x3z :: x0z :: x1z :: x2z :: nilT (List Rat))) ∧ True) ∧ ((List.length x3z = 4 ∧ ∀ (j : Nat),j < 4 → rsz (qL x3z j) ≤ 400000000) ∧ True) ∧ ifB (nzB (qL x3z)) (((List.length x3z = 4 ∧ (∀ (j : Nat),j < 4 → rsz (qL x3z j) ≤ 50000000) ∧ ∃ (j : Nat),j < 4 ∧ qL x3z j ≠ 0) ∧ True) ∧ True ∧ (Prod.fst (Prod.fst (primT (clearXs (qL x3z)))),Prod.fst (Prod.snd (Prod.fst (primT (clearXs (qL x3z))))),Prod.fst (Prod.snd (Prod.snd (Prod.fst (primT (clearXs (qL x3z)))))),Prod.fst (Prod.snd (Prod.snd (Prod.snd (Prod.fst (primT (clearXs (qL x3z))))))),()) = Prod.fst (omT m) ∧ True ∧ Prod.fst (Prod.snd (primT (clearXs (qL x3z)))) = Prod.fst (Prod.snd (omT m)) ∧ True) ((asT Int 0 = 0 ∧ asT Int 0 = 0 ∧ asT Int 0 = 0 ∧ asT Int 0 = 0 ∧ True) ∧ asT Bool true = true ∧ (asT Int 0 ≤ 1 ∧ 1 < natI (List.length (x3z :: x0z :: x1z :: x2z :: nilT (List Rat))) ∧ True) ∧ ((List.length x0z = 4 ∧ ∀ (j : Nat),j < 4 → rsz (qL x0z j) ≤ 400000000) ∧ True) ∧ ifB (nzB (qL x0z)) (((List.length x0z = 4 ∧ (∀ (j : Nat),j < 4 → rsz (qL x0z j) ≤ 50000000) ∧ ∃ (j : Nat),j < 4 ∧ qL x0z j ≠ 0) ∧ True) ∧ True ∧ (Prod.fst (Prod.fst (primT (clearXs (qL x0z)))),Prod.fst (Prod.snd (Prod.fst (primT (clearXs (qL x0z))))),Prod.fst (Prod.snd (Prod.snd (Prod.fst (primT (clearXs (qL x0z)))))),Prod.fst (Prod.snd (Prod.snd (Prod.snd (Prod.fst (primT (clearXs (qL x0z))))))),()) = Prod.fst (omT m) ∧ True ∧ Prod.fst (Prod.snd (primT (clearXs (qL x0z)))) = Prod.fst (Prod.snd (omT m)) ∧ True) ((asT Int 0 = 0 ∧ asT Int 0 = 0 ∧ asT Int 0 = 0 ∧ asT Int 0 = 0 ∧ True) ∧ asT Bool true = true ∧ (asT Int 0 ≤ 2 ∧ 2 < natI (List.length (x3z :: x0z :: x1z :: x2z :: nilT (List Rat))) ∧ True) ∧ ((List.length x1z = 4 ∧ ∀ (j : Nat),j < 4 → rsz (qL x1z j) ≤ 400000000) ∧ True) ∧ ifB (nzB (qL x1z)) (((List.length x1z = 4 ∧ (∀ (j : Nat),j < 4 → rsz (qL x1z j) ≤ 50000000) ∧ ∃ (j : Nat),j < 4 ∧ qL x1z j ≠ 0) ∧ True) ∧ True ∧ (Prod.fst (Prod.fst (primT (clearXs (qL x1z)))),Prod.fst (Prod.snd (Prod.fst (primT (clearXs (qL x1z))))),Prod.fst (Prod.snd (Prod.snd (Prod.fst (primT (clearXs (qL x1z)))))),Prod.fst (Prod.snd (Prod.snd (Prod.snd (Prod.fst (primT (clearXs (qL x1z))))))),()) = Prod.fst (omT m) ∧ True ∧ Prod.fst (Prod.snd (primT (clearXs (qL x1z)))) = Prod.fst (Prod.snd (omT m)) ∧ True) ((asT Int 0 = 0 ∧ asT Int 0 = 0 ∧ asT Int 0 = 0 ∧ asT Int 0 = 0 ∧ True) ∧ asT Bool true = true ∧ (asT Int 0 ≤ 3 ∧ 3 < natI (List.length (x3z :: x0z :: x1z :: x2z :: nilT (List Rat))) ∧ True) ∧ ((List.length x2z = 4 ∧ ∀ (j : Nat),j < 4 → rsz (qL x2z j) ≤ 400000000) ∧ True) ∧ ifB (nzB (qL x2z)) (((List.length x2z = 4 ∧ (∀ (j : Nat),j < 4 → rsz (qL x2z j) ≤ 50000000) ∧ ∃ (j : Nat),j < 4 ∧ qL x2z j ≠ 0) ∧ True) ∧ True ∧ (Prod.fst (Prod.fst (primT (clearXs (qL x2z)))),Prod.fst (Prod.snd (Prod.fst (primT (clearXs (qL x2z))))),Prod.fst (Prod.snd (Prod.snd (Prod.fst (primT (clearXs (qL x2z)))))),Prod.fst (Prod.snd (Prod.snd (Prod.snd (Prod.fst (primT (clearXs (qL x2z))))))),()) = Prod.fst (omT m) ∧ True ∧ Prod.fst (Prod.snd (primT (clearXs (qL x2z)))) = Prod.fst (Prod.snd (omT m)) ∧ True) ((asT Int 0 = 0 ∧ asT Int 0 = 0 ∧ asT Int 0 = 0 ∧ asT Int 0 = 0 ∧ True) ∧ asT Bool true = true ∧ True ∧ (0,0,0,0,()) = Prod.fst (omT m) ∧ True ∧ 15 = Prod.fst (Prod.snd (omT m)) ∧ True))))))) (by kernel_rfl) ?_
  obtain ⟨hl,hlen⟩ := hp
  have hZ : (⟨false,0,0,0⟩ : RawQ) = rawZ := rfl
  dsimp only [natI,nilT,sval,asT,intQ] at *
  simp only [eta4]
  by_cases hf : rcode m = 0 ∧ m.length = 3 ∧ (m.getD 0 []).length = 3
  · obtain ⟨f1,f2,f3⟩ := hf
    have e3 : m3 m := ⟨hl,rcode_sq f1 f2 f3,rcode_ok f1⟩
    have nm : ∀ k,k < 4 → ∀ j,j < 4 → rsz (omRow (eR m) k j) ≤ 50000000 := fun k _ j hj => omRow_rsz (K := 700000) (fun i j hi hj => (m3_at e3 hi hj).2) (by omega) k j hj
    have g0 : qL [omSum (xsL [1,1,1]) (eR m) 3,eR m 2 1 - eR m 1 2,eR m 0 2 - eR m 2 0,eR m 1 0 - eR m 0 1] = qL ((List.range 4).map (omRow (eR m) 0)) := rfl
    have g1 : qL [eR m 2 1 - eR m 1 2,omSum (xsL [1,-1,-1]) (eR m) 3,eR m 0 1 + eR m 1 0,eR m 0 2 + eR m 2 0] = qL ((List.range 4).map (omRow (eR m) 1)) := rfl
    have g2 : qL [eR m 0 2 - eR m 2 0,eR m 0 1 + eR m 1 0,omSum (xsL [-1,1,-1]) (eR m) 3,eR m 1 2 + eR m 2 1] = qL ((List.range 4).map (omRow (eR m) 2)) := rfl
    have g3 : qL [eR m 1 0 - eR m 0 1,eR m 0 2 + eR m 2 0,eR m 1 2 + eR m 2 1,omSum (xsL [-1,-1,1]) (eR m) 3] = qL ((List.range 4).map (omRow (eR m) 3)) := rfl
    have hq : ∀ k j,j < 4 → qL ((List.range 4).map (omRow (eR m) k)) j = omRow (eR m) k j := fun k j hj => by
      match j,hj with
      | 0,_ => rfl
      | 1,_ => rfl
      | 2,_ => rfl
      | 3,_ => rfl
    have hc : ∀ k,primT (clearXs (qL ((List.range 4).map (omRow (eR m) k)))) = primT (clearXs (omRow (eR m) k)) := fun k => primT_congr (fun j hj => clearXs_congr (hq k) hj)
    have hz : ∀ k,nzB (qL ((List.range 4).map (omRow (eR m) k))) = nzB (omRow (eR m) k) := fun k => nzB_congr (hq k)
    rw [g0,g1,g2,g3,f1,f2,f3]
    have lr : ∀ k,k < 4 → ∀ K,50000000 ≤ K → ∀ j,j < 4 → rsz (qL ((List.range 4).map (omRow (eR m) k)) j) ≤ K := fun k hk K hK j hj => by rw [hq k j hj];exact Nat.le_trans (nm k hk j hj) hK
    have nx : ∀ k,nzB (omRow (eR m) k) = true → ∃ j,j < 4 ∧ qL ((List.range 4).map (omRow (eR m) k)) j ≠ 0 := fun k h => by
      obtain ⟨j,hj,hn⟩ := nzB_ex h
      exact ⟨j,hj,by rw [hq k j hj];exact hn⟩
    have s1 : ∀ k,k < 3 → xsL [1,1,1] k = 1 ∨ xsL [1,1,1] k = -1 := by decide
    have s2 : ∀ k,k < 3 → xsL [1,-1,-1] k = 1 ∨ xsL [1,-1,-1] k = -1 := by decide
    have s3 : ∀ k,k < 3 → xsL [-1,1,-1] k = 1 ∨ xsL [-1,1,-1] k = -1 := by decide
    have s4' : ∀ k,k < 3 → xsL [-1,-1,1] k = 1 ∨ xsL [-1,-1,1] k = -1 := by decide
    have t0 : (((3 : Nat) : Int) != 3) = false := rfl
    have t1 : ((0 : Int) != 0) = false := rfl
    have t2 : ∀ b : Bool,(b == b) = true := fun b => by cases b <;> rfl
    have ho : omT m = if turnB (eR m) = true then (if nzB (omRow (eR m) 0) = true then primT (clearXs (omRow (eR m) 0)) else if nzB (omRow (eR m) 1) = true then primT (clearXs (omRow (eR m) 1)) else if nzB (omRow (eR m) 2) = true then primT (clearXs (omRow (eR m) 2)) else if nzB (omRow (eR m) 3) = true then primT (clearXs (omRow (eR m) 3)) else ((0,0,0,0,()),15,())) else ((0,0,0,0,()),15,()) := if_pos ⟨f1,f2,f3⟩
    rw [ho]
    have q1 := e3.2.1
    have q2 := e3.2.2
    have l : ∀ k,k < 4 → (∀ j,j < 4 → rsz (qL ((List.range 4).map (omRow (eR m) k)) j) ≤ 400000000) ∧ (∀ j,j < 4 → rsz (qL ((List.range 4).map (omRow (eR m) k)) j) ≤ 50000000) := fun k hk => ⟨lr k hk _ (by omega),lr k hk _ (by omega)⟩
    obtain ⟨l0,l0'⟩ := l 0 (by omega)
    obtain ⟨l1,l1'⟩ := l 1 (by omega)
    obtain ⟨l2,l2'⟩ := l 2 (by omega)
    obtain ⟨l3,l3'⟩ := l 3 (by omega)
    have n0 := nx 0
    have n1 := nx 1
    have n2 := nx 2
    have n3 := nx 3
    simp only [hc,hz,t0,t1,t2,cond_false]
    clear g0 g1 g2 g3 ho
    cases ht : turnB (eR m)
    · simp [ifB,hl,q1,q2]
    · cases h0 : nzB (omRow (eR m) 0)
      · cases h1 : nzB (omRow (eR m) 1)
        · cases h2 : nzB (omRow (eR m) 2)
          · cases h3 : nzB (omRow (eR m) 3)
            · simp only [ifB,hl,q1,q2,e3,s1,s2,s3,s4',l0,l1,l2,l3,List.length_cons,List.length_nil,Bool.not_true,at3,Bool.false_eq_true,if_false,if_true,true_and,and_true,implies_true,imp_self]
              repeat' apply And.intro
              all_goals first | assumption | exact s1 | exact s2 | exact s3 | exact s4' | exact l0 | exact l0' | exact l1 | exact l1' | exact l2 | exact l2' | exact l3 | exact l3' | omega
            · have n3 := n3 h3
              simp only [ifB,hl,q1,q2,e3,s1,s2,s3,s4',l0,l1,l2,l3,l3',n3,List.length_cons,List.length_nil,Bool.not_true,at3,Bool.false_eq_true,if_false,if_true,true_and,and_true,implies_true,imp_self]
              repeat' apply And.intro
              all_goals first | assumption | exact s1 | exact s2 | exact s3 | exact s4' | exact l0 | exact l0' | exact l1 | exact l1' | exact l2 | exact l2' | exact l3 | exact l3' | omega
          · have n2 := n2 h2
            simp only [ifB,hl,q1,q2,e3,s1,s2,s3,s4',l0,l1,l2,l2',n2,List.length_cons,List.length_nil,Bool.not_true,at3,Bool.false_eq_true,if_false,if_true,true_and,and_true,implies_true,imp_self]
            repeat' apply And.intro
            all_goals first | assumption | exact s1 | exact s2 | exact s3 | exact s4' | exact l0 | exact l0' | exact l1 | exact l1' | exact l2 | exact l2' | exact l3 | exact l3' | omega
        · have n1 := n1 h1
          simp only [ifB,hl,q1,q2,e3,s1,s2,s3,s4',l0,l1,l1',n1,List.length_cons,List.length_nil,Bool.not_true,at3,Bool.false_eq_true,if_false,if_true,true_and,and_true,implies_true,imp_self]
          repeat' apply And.intro
          all_goals first | assumption | exact s1 | exact s2 | exact s3 | exact s4' | exact l0 | exact l0' | exact l1 | exact l1' | exact l2 | exact l2' | exact l3 | exact l3' | omega
      · have n0 := n0 h0
        simp only [ifB,hl,q1,q2,e3,s1,s2,s3,s4',l0,l0',n0,List.length_cons,List.length_nil,Bool.not_true,at3,Bool.false_eq_true,if_false,if_true,true_and,and_true,implies_true,imp_self]
        repeat' apply And.intro
        all_goals first | assumption | exact s1 | exact s2 | exact s3 | exact s4' | exact l0 | exact l0' | exact l1 | exact l1' | exact l2 | exact l2' | exact l3 | exact l3' | omega
  · have hm : omT m = ((0,0,0,0,()),1,()) := if_neg hf
    rw [hm]
    by_cases f2 : m.length = 3
    · have t0 : (((m.length : Nat) : Int) != 3) = false := by rw [f2];rfl
      rw [t0]
      by_cases f1 : rcode m = 0
      · have t1 : (rcode m != 0) = false := by rw [f1];rfl
        have f3 : ¬ (m.getD 0 []).length = 3 := fun h => hf ⟨f1,f2,h⟩
        have t3 : ((((m.getD 0 []).length : Nat) : Int) != 3) = true := bne_iff_ne.2 (fun h => f3 (by omega))
        rw [t1,t3,f2]
        simp [ifB,hl]
      · have t1 : (rcode m != 0) = true := by simpa using f1
        rw [t1]
        simp [ifB,hl]
    · have t0 : (((m.length : Nat) : Int) != 3) = true := bne_iff_ne.2 (fun h => f2 (by omega))
      rw [t0]
      simp [ifB]
end Go.Proofs.YtidfgdchcpmnfaaGreat
