/-
  Lemmas for the theorem vcayley_holds, part 20 of 33.
-/
import Derived.Test.YtidfgdchcpmnfaaGreatCy19
namespace Go.Proofs.YtidfgdchcpmnfaaGreat
open Go Go.RowKit
set_option linter.unusedSimpArgs false
set_option linter.unusedVariables false
set_option maxRecDepth 20000
def a4v (n:Gam→Rho→Prop) (Q:Exit→Gam→Rho→Prop):Exit→Gam→Rho→Prop
 | .normal,G,R=>n G R
 | e,G,R=>Q e G R
def a6y (id:Nat) (Q:Exit→Gam→Rho→Prop):Exit→Gam→Rho→Prop
 | .exit i,G,R=>if i=id then Q .normal G R else Q (.exit i) G R
 | e,G,R=>Q e G R
inductive Ann:Type 1 where
 | inv (ι:Type) (S:ι→Gam) (Z:ι→Rho) (m:ι→Nat) (i0:ι) (sub:ι→List Ann)
 | rounds (n:Nat) (l:List Nat) (sub:List Ann)
 | turns (n:Nat) (l k:List Nat) (sub:List Ann)
def nl:Code→Nat
 | .seq a b=>nl a+nl b
 | .cond _ a b=>nl a+nl b
 | .block _ c=>nl c
 | .loop _=>1
 | _=>0
def YC (F:(Exit→Gam→Rho→Prop)→Gam→Rho→Prop) (l:List Nat) (Q:Exit→Gam→Rho→Prop):Nat→Gam→Rho→Prop
 | 0,_,_=>False
 | n+1,G,R=>F (a4v (fun G R=>YC F l Q n (cut l G) R) Q) G R
def b2m:Res→Res
 | .row e t xs _=>.row e t xs 0
 | .fro t xs _=>.fro t xs 0
 | .mat e e2 t ids xss _=>.mat e e2 t ids xss 0
 | .kP k=>.kP (jE k)
 | x=>x
def VB (G:Gam):List Nat→Gam
 | []=>[]
 | s :: l=>match (dF G s).res with
  | []=>VB G l
  | _=>(s,jE (dF G s)) :: VB G l
def a8Q (R:Rho):List Nat→Rho
 | []=>[]
 | r :: k=>(r,b2m (aV R r)) :: a8Q R k
def less (l k:List Nat):List Nat:=l.filter fun s=>!k.contains s
def IB:K→Bool
 | .any=>true
 | _=>false
theorem IC {k:K}:IB k=true ↔ k=.any:=by cases k <;> simp [IB]
def b5p (S:Gam) (l:List Nat):Bool:=S.all fun p=>l.contains p.1 || IB p.2
def Res.IE:Res→Bool
 | .box _=>true
 | _=>false
def JQ (v:Nat):Res→Bool
 | .mat _ _ _ _ _ v'=>v' == v
 | _=>false
def Res.tH:Res→Bool
 | .kP _=>true
 | _=>false
def Res.a0h:Res→Bool
 | .kP _=>true
 | .gone=>true
 | _=>false
theorem Res.wB {x:Res}:x.tH=true ↔ x.lN:=by cases x <;> simp [Res.tH,Res.lN]
theorem Res.a0i {x:Res} (h:x.a0h=true):x.BF:=by cases x <;> simp_all [Res.a0h,Res.BF]
theorem EO {v:Nat} {x:Res} (h:JQ v x=true):Res.lU v x:=by cases x <;> simp_all [JQ,Res.lU]
theorem Res.AL {x:Res} (h:x.IE=true):x.fO:=by cases x <;> simp_all [Res.IE,Res.fO]
def a7N (R R':Rho):K→K→Bool
 | _,.any=>true
 | .nil,.nil=>true
 | .ptr r o,.ptr r' o'=>r == r' && o == o' && (aV R r).IE && (aV R' r).IE
 | .own r v,.own r' v'=>r == r' && v' == 0 && FB v (aV R r) && FB 0 (aV R' r)
 | .lD r,.lD r'=>r == r' && (aV R' r).a0h && (!(aV R' r).tH || (aV R r).tH)
 | _,_=>false
theorem a9O {R R':Rho}:∀ {k k':K},a7N R R' k k'=true→leK R R' k k'
 | k,.any,_=>by cases k <;> trivial
 | .nil,.nil,_=>trivial
 | .ptr r o,.ptr r' o',h=>by
  simp only [a7N,Bool.and_eq_true,beq_iff_eq] at h
  exact ⟨h.1.1.1,h.1.1.2,Res.AL h.1.2,Res.AL h.2⟩
 | .own r v,.own r' v',h=>by
  simp only [a7N,Bool.and_eq_true,beq_iff_eq] at h
  obtain ⟨⟨⟨h1,h2⟩,h3⟩,h4⟩:=h
  subst h2
  simp only [leK]
  exact ⟨h1,trivial,zB h3,zB h4⟩
 | .lD r,.lD r',h=>by
  simp only [a7N,Bool.and_eq_true,beq_iff_eq,Bool.or_eq_true,Bool.not_eq_true'] at h
  obtain ⟨⟨h1,h2⟩,h3⟩:=h
  refine ⟨h1,Res.a0i h2,fun hb=>?_⟩
  have:=Res.wB.2 hb
  rw [this] at h3
  exact Res.wB.1 (h3.resolve_left (by simp))
def eqC (t t':Ty) (x:t.den) (y:t'.den):List Prop:=if h:t=t' then [h ▸ x=y] else [False]
theorem yA {t t':Ty} {x:t.den} {y:t'.den} (h:fB (eqC t t' x y)):jJ t t' x=some y:=by
 unfold eqC at h
 split at h
 ·rename_i e
  subst e
  unfold jJ
  rw [dif_pos rfl]
  exact congrArg some h.1
 ·exact h.1.elim
def b1Q (ids oM:Option (List Nat)):List Prop:=match ids,oM with
 | none,none=>[]
 | some l,some l'=>[l=l']
 | _,_=>[False]
theorem a9I {ids oM:Option (List Nat)} (h:fB (b1Q ids oM)):ids=oM:=by
 unfold b1Q at h
 split at h
 ·rfl
 ·rw [h.1]
 ·exact h.1.elim
def a4q:Res→Res→List Prop
 | .mat _ _ _ ids xss _,.mat _ _ _ oM yss _=>(xss.length=yss.length) :: b1Q ids oM
 | _,_=>[False]
theorem a0W {x y:Res} (h:fB (a4q x y)):LM x y:=by
 unfold a4q at h
 split at h
 ·exact ⟨a9I h.2,h.1⟩
 ·exact h.1.elim
def OL (R R':Rho):List K0→List K0→List Prop
 | [],[]=>[]
 | .val t x :: ks,.val t' y :: ks'=>eqC t t' x y ++ OL R R' ks ks'
 | .ptr r o :: ks,.ptr r' o' :: ks'=>if r == r' && o == o' && (aV R r).IE && (aV R' r).IE then OL R R' ks ks' else [False]
 | .lD r :: ks,.lD r' :: ks'=>if r == r' && (aV R' r).a0h && (!(aV R' r).tH || (aV R r).tH) then OL R R' ks ks' else [False]
 | _,_=>[False]
theorem a9N {R R':Rho} {r r':Nat} (h:(r == r' && (aV R' r).a0h && (!(aV R' r).tH || (aV R r).tH))=true):r=r'∧(aV R' r).BF∧((aV R' r).lN→(aV R r).lN):=by
 simp only [Bool.and_eq_true,beq_iff_eq,Bool.or_eq_true,Bool.not_eq_true'] at h
 obtain ⟨⟨h1,h2⟩,h3⟩:=h
 refine ⟨h1,Res.a0i h2,fun hb=>?_⟩
 have:=Res.wB.2 hb
 rw [this] at h3
 exact Res.wB.1 (h3.resolve_left (by simp))
theorem EL {R R':Rho}:∀ {ks ks':List K0},fB (OL R R' ks ks')→OM R R' ks ks'
 | [],[],_=>trivial
 | k :: ks,[],h=>by cases k <;> exact h.1.elim
 | [],k :: ks,h=>h.1.elim
 | k :: ks,k' :: ks',h=>by
  cases k <;> cases k' <;> first | exact h.1.elim | skip
  ·exact ⟨yA (bI.1 h).1,EL (bI.1 h).2⟩
  ·simp only [OL] at h
   split at h <;> first | exact h.1.elim | skip
   rename_i hb
   simp only [Bool.and_eq_true,beq_iff_eq] at hb
   exact ⟨⟨hb.1.1.1,hb.1.1.2,Res.AL hb.1.2,Res.AL hb.2⟩,EL h⟩
  ·simp only [OL] at h
   split at h <;> first | exact h.1.elim | skip
   rename_i hb
   exact ⟨a9N hb,EL h⟩
def a7O (R R':Rho) (k k':K):List Prop:=if a7N R R' k k' then [] else match k,k' with
 | .val t x,.val t' y=>eqC t t' x y
 | .fn g ks,.fn g' ks'=>if g == g' then OL R R' ks ks' else [False]
 | .cell r v i,.cell r' v' i'=>if r == r' && v' == 0 && FB v (aV R r) && FB 0 (aV R' r) && (aV R r).esz == (aV R' r).esz then [i=i'] else [False]
 | .mrow r v i,.mrow r' v' i'=>if r == r' && v' == 0 && JQ v (aV R r) && JQ 0 (aV R' r) then (i=i') :: a4q (aV R r) (aV R' r) else [False]
 | .mpos r v i j,.mpos r' v' i' j'=>if r == r' && v' == 0 && JQ v (aV R r) && JQ 0 (aV R' r) && (aV R r).msz == (aV R' r).msz then (i=i') :: (j=j') :: a4q (aV R r) (aV R' r) else [False]
 | k,k'=>[leK R R' k k']
theorem WX {R R':Rho} {k k':K} (h:fB (a7O R R' k k')):leK R R' k k':=by
 unfold a7O at h
 split at h
 ·rename_i e;exact a9O e
 ·split at h
  ·exact yA h
  ·split at h <;> first | exact h.1.elim | skip
   rename_i hb
   exact ⟨by simpa using hb,EL h⟩
  ·split at h <;> first | exact h.1.elim | skip
   rename_i hb
   simp only [Bool.and_eq_true,beq_iff_eq] at hb
   obtain ⟨⟨⟨⟨h1,h2⟩,h3⟩,h4⟩,h5⟩:=hb
   exact ⟨h1,h.1,h2,zB h3,zB h4,h5⟩
  ·split at h <;> first | exact h.1.elim | skip
   rename_i hb
   simp only [Bool.and_eq_true,beq_iff_eq] at hb
   obtain ⟨⟨⟨h1,h2⟩,h3⟩,h4⟩:=hb
   exact ⟨h1,h.1,h2,EO h3,EO h4,a0W h.2⟩
  ·split at h <;> first | exact h.1.elim | skip
   rename_i hb
   simp only [Bool.and_eq_true,beq_iff_eq] at hb
   obtain ⟨⟨⟨⟨h1,h2⟩,h3⟩,h4⟩,h5⟩:=hb
   exact ⟨⟨h1,h.1,h.2.1,h2,EO h3,EO h4⟩,a0W h.2.2,h5⟩
  ·exact h.1
def b1X:List Part→List Part→List Prop
 | [],[]=>[]
 | p :: ps,q :: qs=>eqC p.t q.t p.x q.x ++ b1X ps qs
 | _,_=>[False]
theorem a3R:∀ {ps qs:List Part},fB (b1X ps qs)→leP ps qs
 | [],[],_=>trivial
 | p :: ps,q :: qs,h=>⟨yA (bI.1 h).1,a3R (bI.1 h).2⟩
 | [],_ :: _,h=>h.1.elim
 | _ :: _,[],h=>h.1.elim
def b1W {t t':Ty} (ids oM:Option (List Nat)) (xss:List (List t.den)) (yss:List (List t'.den)):List Prop:=match ids,oM with
 | some l,none=>l.Nodup :: eqC (.list (.list t)) (.list (.list t')) (l.map fun i=>xss.getD i []) yss
 | none,none=>eqC (.list (.list t)) (.list (.list t')) xss yss
 | some l,some l'=>(l=l') :: eqC (.list (.list t)) (.list (.list t')) xss yss
 | none,some _=>[False]
theorem a9Q {t t':Ty} {ids oM:Option (List Nat)} {xss:List (List t.den)} {yss:List (List t'.den)} (h:fB (b1W ids oM xss yss)):leM ids oM xss yss:=by
 cases ids <;> cases oM <;> simp only [b1W] at h
 ·exact ⟨rfl,yA h⟩
 ·exact h.1.elim
 ·exact ⟨h.1,yA h.2⟩
 ·exact ⟨by rw [h.1],yA h.2⟩
def b1Y (R R':Rho):Res→Res→List Prop
 | _,.none=>[]
 | .box ps,.box qs=>b1X ps qs
 | .row e t xs _,.row e' t' ys v=>if e=e'∧v=0 then eqC (.list t) (.list t') xs ys else [False]
 | .fro t xs _,.fro t' ys v=>if v=0 then eqC (.list t) (.list t') xs ys else [False]
 | .mat e e2 t ids xss _,.mat e' e2' t' oM yss v=>if e=e'∧e2=e2'∧v=0 then b1W ids oM xss yss else [False]
 | .kP k,.kP k'=>if k'.one then a7O R R' k k' else [False]
 | .kP _,.gone=>[]
 | .gone,.gone=>[]
 | x,y=>[leR R R' x y]
theorem a9R {R R':Rho} {x y:Res} (h:fB (b1Y R R' x y)):leR R R' x y:=by
 unfold b1Y at h
 split at h
 ·cases x <;> trivial
 ·exact a3R h
 ·split at h
  ·rename_i hh;exact ⟨hh.1,hh.2,yA h⟩
  ·exact h.1.elim
 ·split at h
  ·rename_i hh;exact ⟨hh,yA h⟩
  ·exact h.1.elim
 ·split at h
  ·rename_i hh;exact ⟨hh.1,hh.2.1,hh.2.2,a9Q h⟩
  ·exact h.1.elim
 ·split at h
  ·rename_i hh;exact ⟨hh,WX h⟩
  ·exact h.1.elim
 ·trivial
 ·trivial
 ·exact h.1
theorem a3j {α:Type} {f g:α→List Prop} (h:∀ a,fB (f a)→fB (g a)):∀ {l:List α},fB (l.flatMap f)→fB (l.flatMap g)
 | [],_=>trivial
 | a :: l,h1=>by
  rw [List.flatMap_cons] at h1 ⊢
  exact bI.2 ⟨h a (bI.1 h1).1,a3j h (bI.1 h1).2⟩
theorem LY {α:Type} {f:α→List Prop} {g:α→Prop} (h:∀ a,fB (f a)→g a):∀ {l:List α},fB (l.flatMap f)→fB (l.map g)
 | [],_=>trivial
 | a :: l,h1=>by
  rw [List.flatMap_cons] at h1
  exact ⟨h a (bI.1 h1).1,LY h (bI.1 h1).2⟩
def a9P (G:Gam) (R:Rho) (S:Gam) (Z:Rho) (l:List Nat):List Prop :=
 S.flatMap (fun p=>a7O R Z (dF G p.1) p.2) ++ (cut (S.map (·.1) ++ l) G).flatMap (fun p=>if (dF G p.1).res.isEmpty then [] else a7O R Z (dF G p.1) (jE (dF G p.1))) ++ Z.flatMap (fun p=>b1Y R Z (aV R p.1) p.2)
theorem WY {G:Gam} {R:Rho} {S:Gam} {Z:Rho} {l:List Nat} (h:fB (a9P G R S Z l)):fB (leL G R S Z l):=by
 obtain ⟨h12,h3⟩:=bI.1 h
 obtain ⟨h1,h2⟩:=bI.1 h12
 refine bI.2 ⟨bI.2 ⟨LY (fun p hp=>WX hp) h1,a3j (fun p hp=>?_) h2⟩,LY (fun p hp=>a9R hp) h3⟩
 by_cases e:(dF G p.1).res.isEmpty=true
 ·rw [if_pos e];trivial
 ·rw [if_neg e] at hp ⊢
  exact ⟨WX hp,trivial⟩
def b5o (R:Rho):K→Bool
 | .own r v=>!FB v (aV R r)
 | .cell r v _=>!FB v (aV R r)
 | .mrow r v _=>!JQ v (aV R r)
 | .mpos r v _ _=>!JQ v (aV R r)
 | _=>false
def NQ (G:Gam) (R:Rho) (zs:List Nat):List Nat:=(G.filter fun p=>(dF G p.1).res.any (fun r=>!zs.contains r) || b5o R (dF G p.1)).map (·.1)
def b0I (G G':Gam) (l:List Nat):Bool:=(cut l G).all fun p=>IB (jE (dF G p.1)) || !IB (jE (dF G' p.1))
def a7p (G G':Gam) (l:List Nat):List Prop:=if b0I G G' l then [] else [False]
def a2T (F:(Exit→Gam→Rho→Prop)→Gam→Rho→Prop) (L l k:List Nat) (Q:Exit→Gam→Rho→Prop):Nat→Gam→Rho→Prop
 | 0,_,_=>False
 | n+1,G,R=>F (a4v (fun G R=>fB (a9P G R (VB G l) (a8Q R k) (less L l ++ NQ G R k))∧b5p (VB G l) L=true∧a2T F L l k Q n (VB G l ++ oQ (cut ((VB G l).map (·.1) ++ (less L l ++ NQ G R k)) G)) (a8Q R k)) Q) G R
def ifB (b:Bool) (p q:Prop):Prop:=match b with
 | true=>p
 | false=>q
theorem iH {b:Bool} {p q:Prop}:ifB b p q ↔ (b=true→p)∧(b=false→q):=by cases b <;> simp [ifB]
def vwp (B:Book):Code→List Ann→(Exit→Gam→Rho→Prop)→Gam→Rho→Prop
 | .skip,_,Q,G,R=>Q .normal G R
 | .label _,_,Q,G,R=>Q .normal G R
 | .exit i,_,Q,G,R=>Q (.exit i) G R
 | .ret,_,Q,G,R=>Q .ret G R
 | .region _ ops draw,_,Q,G,R=>match rE B ops draw G R with
  | some ([],G',R')=>Q .normal G' R'
  | some (vc,G',R')=>fB vc∧Q .normal G' R'
  | none=>False
 | .seq a b,A,Q,G,R=>vwp B a (A.take (nl a)) (a4v (vwp B b (A.drop (nl a)) Q) Q) G R
 | .cond c t e,A,Q,G,R=>match opK (dF G) c with
  | .val .bool b=>ifB b (vwp B t (A.take (nl t)) Q G R) (vwp B e (A.drop (nl t)) Q G R)
  | _=>False
 | .block i c,A,Q,G,R=>vwp B c A (a6y i Q) G R
 | .loop c,A,Q,G,R=>match A with
  | .inv ι S Z m i0 sub :: _=>fB (a9P G R (S i0) (Z i0) (asg c ++ NQ G R ((Z i0).map (·.1)))) ∧
   ∀ i,b5p (S i) (asg c)=true∧vwp B c (sub i) (a4v (fun G' R'=>∃ i',m i' < m i∧fB (a7p G G' ((S i').map (·.1) ++ (asg c ++ NQ G R ((Z i0).map (·.1)))) ++ a9P G' R' (S i') (Z i') (asg c ++ NQ G R ((Z i0).map (·.1))))) Q) (S i ++ oQ (cut ((S i).map (·.1) ++ (asg c ++ NQ G R ((Z i0).map (·.1)))) G)) (Z i)
  | .rounds n l sub :: _=>YC (vwp B c sub) (less (asg c) l) Q n G R
  | .turns n l k sub :: _=>a2T (vwp B c sub) (asg c) l k Q n G R
  | []=>False
 | _,_,_,_,_=>False
section
variable {B:Book} {W:World} {base:Fix}
def Fr (l:List Nat) (G G':Gam):Prop:=∀ s,s ∉ l→jE (dF G' s)=.any ∨ jE (dF G' s)=jE (dF G s)
theorem Fr.trans {l m:List Nat} {G G' G'':Gam} (h:Fr l G G') (k:Fr m G' G''):Fr (l ++ m) G G'':=fun s hs=>by
 simp only [List.mem_append,not_or] at hs
 rcases k s hs.2 with e | e
 ·exact .inl e
 ·rcases h s hs.1 with e2 | e2
  ·exact .inl (e.trans e2)
  ·exact .inr (e.trans e2)
theorem Fr.refl (l:List Nat) (G:Gam):Fr l G G:=fun _ _=>.inr rfl
theorem Fr.more {l m:List Nat} {G G':Gam} (h:Fr l G G') (hl:∀ s ∈ l,s ∈ m):Fr m G G':=fun s hs=>h s (fun h'=>hs (hl s h'))
theorem Fr.two {l:List Nat} {G G' G'':Gam} (h:Fr l G G') (k:Fr l G' G''):Fr l G G'':=(h.trans k).more (fun s hs=>(List.mem_append.1 hs).elim id id)
theorem UO {ops:Array Oper}:∀ {l:List Oper} {G:Gam} {R:Rho} {vc:List Prop} {G':Gam} {R':Rho},zF B ops l G R=some (vc,G',R')→Fr (l.filterMap (·.dst)) G G'
 | [],G,R,vc,G',R',h=>by
  simp only [zF,Option.some.injEq,Prod.mk.injEq] at h
  obtain ⟨_,rfl,_⟩:=h
  exact Fr.refl _ _
 | o :: rest,G,R,vc,G',R',h=>by
  simp only [zF] at h
  split at h <;> first | (cases h;done) | skip
  rename_i vc1 k l1 h1
  split at h <;> first | (cases h;done) | skip
  rename_i vc2 G2 R2 h2
  simp only [Option.some.injEq,Prod.mk.injEq] at h
  obtain ⟨_,rfl,_⟩:=h
  intro s hs
  have ih:=UO h2
  cases hd:o.dst with
  | none =>
   rw [List.filterMap_cons_none hd] at hs
   exact (ih s hs).imp id (fun h=>h.trans (by rw [uU,hd];rfl))
  | some d =>
   rw [List.filterMap_cons_some hd] at hs
   simp only [List.mem_cons,not_or] at hs
   exact (ih s hs.2).imp id (fun h=>h.trans (by rw [uU,hd];exact congrArg jE (aT _ _ hs.1)))
theorem UU {ops:Array Oper}:∀ {l:List Oper} {G:Gam} {R:Rho} {vc:List Prop} {ss:List Sim} {G':Gam} {R':Rho},wL B ops l G R=some (vc,ss,G',R')→Fr (l.filterMap (·.dst)) G G'
 | [],G,R,vc,ss,G',R',h=>by
  simp only [wL,Option.some.injEq,Prod.mk.injEq] at h
  obtain ⟨_,_,rfl,_⟩:=h
  exact Fr.refl _ _
 | o :: rest,G,R,vc,ss,G',R',h=>by
  simp only [wL] at h
  split at h <;> first | (cases h;done) | skip
  rename_i vc1 k l1 h1
  split at h <;> first | (cases h;done) | skip
  rename_i vc2 ss2 G2 R2 h2
  simp only [Option.some.injEq,Prod.mk.injEq] at h
  obtain ⟨_,_,rfl,_⟩:=h
  intro s hs
  have ih:=UU h2
  cases hd:o.dst with
  | none =>
   rw [List.filterMap_cons_none hd] at hs
   exact (ih s hs).imp id (fun h=>h.trans (by rw [uU,hd];rfl))
  | some d =>
   rw [List.filterMap_cons_some hd] at hs
   simp only [List.mem_cons,not_or] at hs
   exact (ih s hs.2).imp id (fun h=>h.trans (by rw [uU,hd];exact congrArg jE (aT _ _ hs.1)))
theorem XQ {id:Nat} {ops:Array Oper} {draw:Bool} {G:Gam} {R:Rho} {vc:List Prop} {G':Gam} {R':Rho} (h:rE B ops draw G R=some (vc,G',R')):Fr (asg (.region id ops draw)) G G':=by
 unfold rE at h
 cases draw with
 | true =>
  simp only [if_true] at h
  split at h <;> first | (cases h;done) | skip
  rename_i vc1 ss G1 R1 b1L
  split at h <;> first | (cases h;done) | skip
  simp only [Option.some.injEq,Prod.mk.injEq] at h
  obtain ⟨_,rfl,_⟩:=h
  exact UU b1L
 | false =>
  simp only [Bool.false_eq_true,if_false] at h
  exact UO h
def PostF (B:Book) (W:World) (base:Fix) (Q:Exit→Gam→Rho→Prop) (l:List Nat) (G:Gam) (e:Exit) (a:Act) (w:World):Prop:=∃ G' R,Q e G' R∧Fr l G G'∧St B W base G' R a w
theorem tC {l:List Nat} {s:Nat} (h:s ∈ l):∀ (G:Gam),dF (cut l G) s=.any
 | []=>rfl
 | (q,k) :: G=>by
  unfold cut
  rw [List.filter_cons]
  have ih:=tC h G
  unfold cut at ih
  split
  ·rename_i hq
   simp only [dF]
   rw [if_neg]
   ·exact ih
   ·rintro rfl
    have:l.contains s=true:=by simpa using h
    rw [this] at hq;cases hq
  ·exact ih
theorem kZ {l:List Nat} {s:Nat} (h:s ∉ l):∀ (G:Gam),dF (cut l G) s=dF G s
 | []=>rfl
 | (q,k) :: G=>by
  unfold cut
  rw [List.filter_cons]
  have ih:=kZ h G
  unfold cut at ih
  split
  ·simp only [dF]
   split
   ·rfl
   ·exact ih
  ·rename_i hq
   simp only [dF]
   rw [if_neg]
   ·exact ih
   ·rintro rfl
    have:l.contains s=true:=by simpa using hq
    exact h (by simpa using this)
theorem a3H {S:Gam} {L l:List Nat} {G:Gam} (h:b5p S L=true):Fr L G (S ++ oQ (cut (S.map (·.1) ++ l) G)):=fun s hs=>by
 rcases NS S (oQ (cut (S.map (·.1) ++ l) G)) s with ⟨p,k1,rfl,k3⟩ | ⟨k1,k2⟩
 ·left
  obtain ⟨p',j1,j2,j3⟩:=vY ⟨p,k1,rfl⟩
  have:=List.all_eq_true.1 h p' j1
  rw [j2] at this
  simp only [Bool.or_eq_true,List.contains_eq_mem,decide_eq_true_eq,IC] at this
  rw [k3,j3,this.resolve_left hs]
  rfl
 ·rw [k2,rU,SC]
  by_cases hm:s ∈ S.map (·.1) ++ l
  ·left;rw [tC hm];rfl
  ·right;rw [kZ hm]
theorem a5c {S:Gam} {L l:List Nat} {G G':Gam} (h:Fr L G G') (hL:∀ s ∈ L,s ∈ S.map (·.1) ++ l) (hb:fB (a7p G G' (S.map (·.1) ++ l))) (s:Nat):dF (S ++ oQ (cut (S.map (·.1) ++ l) G)) s=dF (S ++ oQ (cut (S.map (·.1) ++ l) G')) s:=by
 have hb:b0I G G' (S.map (·.1) ++ l)=true:=by
  unfold a7p at hb
  split at hb
  ·assumption
  ·exact hb.1.elim
 have e:dF (oQ (cut (S.map (·.1) ++ l) G)) s=dF (oQ (cut (S.map (·.1) ++ l) G')) s:=by
  rw [rU,rU]
  by_cases hm:s ∈ S.map (·.1) ++ l
  ·rw [tC hm,tC hm]
  ·rw [kZ hm,kZ hm]
   rcases h s (fun h'=>hm (hL s h')) with e | e
   ·rcases NT (cut (S.map (·.1) ++ l) G) s with e2 | ⟨p,hp,rfl⟩
    ·rw [kZ hm] at e2
     rw [e,e2];rfl
    ·have:=List.all_eq_true.1 hb p hp
     rw [e] at this
     simp only [IB,Bool.not_true,Bool.or_false,IC] at this
     rw [e,IC.1 this]
   ·exact e.symm
 have:∀ (S:Gam) (X Y:Gam),dF X s=dF Y s→dF (S ++ X) s=dF (S ++ Y) s:=by
  intro S
  induction S with
  | nil=>intro X Y h;exact h
  | cons p S ih =>
   intro X Y h
   simp only [List.cons_append,dF]
   split
   ·rfl
   ·exact ih X Y h
 exact this S _ _ e
theorem b5u (hB:B.Ok) (hm:B.P.follows .mixedOrders=true):∀ (c:Code) {A:List Ann} {Q:Exit→Gam→Rho→Prop} {G:Gam} {R:Rho} {a:Act} {w:World},vwp B c A Q G R→St B W base G R a w→c.wp B.P (PostF B W base Q (asg c) G) a w:=by
 intro c
 induction c with
 | skip=>intro A Q G R a w h hs;exact wp_skip ⟨G,R,h,Fr.refl _ _,hs⟩
 | label l=>intro A Q G R a w h hs;exact wp_label ⟨G,R,h,Fr.refl _ _,hs⟩
 | exit i=>intro A Q G R a w h hs;exact wp_exit ⟨G,R,h,Fr.refl _ _,hs⟩
 | ret=>intro A Q G R a w h hs;exact wp_ret ⟨G,R,h,Fr.refl _ _,hs⟩
 | region id ops draw =>
  intro A Q G R a w h hs
  have key:∀ (vc:List Prop) (G':Gam) (R':Rho),rE B ops draw G R=some (vc,G',R')→fB vc→Q .normal G' R'→(Code.region id ops draw).wp B.P (PostF B W base Q (asg (.region id ops draw)) G) a w:=fun vc G' R' hr hv hq =>
   wp_mono (XR (id:=id) hB hm (Q:=fun e G2 R2=>e=.normal∧G2=G'∧R2=R') hr hv ⟨rfl,rfl,rfl⟩ hs) (fun e a' w' hp=>by
    obtain ⟨G2,R2,⟨rfl,rfl,rfl⟩,k2⟩:=hp
    exact ⟨_,_,hq,XQ (id:=id) hr,k2⟩)
  simp only [vwp] at h
  split at h
  ·rename_i G' R' hr;exact key [] G' R' hr trivial h
  ·rename_i vc G' R' _ hr;exact key vc G' R' hr h.1 h.2
  ·exact h.elim
 | seq x y ihx ihy =>
  intro A Q G R a w h hs
  refine wp_seq (wp_mono (ihx h hs) (fun e a' w' hq=>?_))
  obtain ⟨G',R',k1,k2,k3⟩:=hq
  have hfr:Fr (asg (.seq x y)) G G':=fun s hs'=>k2 s (fun h'=>hs' (List.mem_append_left _ h'))
  cases e with
  | normal =>
   refine wp_mono (ihy k1 k3) (fun e2 a2 w2 hq2=>?_)
   obtain ⟨G2,R2,j1,j2,j3⟩:=hq2
   exact ⟨G2,R2,j1,k2.trans j2,j3⟩
  | _=>exact ⟨G',R',k1,hfr,k3⟩
 | cond c t e iht ihe =>
  intro A Q G R a w h hs
  simp only [vwp] at h
  split at h <;> first | exact h.elim | skip
  rename_i b hk
  have h:=iH.1 h
  have hs2:=hs
  obtain ⟨E,h0,h1,h2⟩:=hs2
  have hv:=(PI h2).2 c
  rw [hk] at hv
  refine wp_cond_split (vI hv) (fun hb=>wp_mono (iht (h.1 hb) hs) (fun e a' w' hq=>?_)) (fun hb=>wp_mono (ihe (h.2 hb) hs) (fun e a' w' hq=>?_))
  all_goals
   obtain ⟨G',R',k1,k2,k3⟩:=hq
  ·exact ⟨G',R',k1,fun s hs'=>k2 s (fun h'=>hs' (List.mem_append_left _ h')),k3⟩
  ·exact ⟨G',R',k1,fun s hs'=>k2 s (fun h'=>hs' (List.mem_append_right _ h')),k3⟩
 | block id c ih =>
  intro A Q G R a w h hs
  refine wp_block (wp_mono (ih h hs) (fun e a' w' hq=>?_))
  obtain ⟨G',R',k1,k2,k3⟩:=hq
  cases e with
  | exit i =>
   simp only [a6y] at k1
   simp only [Exit.inBlock]
   split
   ·rename_i e;rw [if_pos e] at k1;exact ⟨G',R',k1,k2,k3⟩
   ·rename_i e;rw [if_neg e] at k1;exact ⟨G',R',k1,k2,k3⟩
  | _=>exact ⟨G',R',k1,k2,k3⟩
 | loop c ih =>
  intro A Q G R a w h hs
  simp only [vwp] at h
  split at h
  ·rename_i ι S Z m i0 sub rest
   obtain ⟨h1,h2⟩:=h
   refine wp_loop_rounds (m i0+1) (UK (B:=B) (fun i a w=>St B W base (S i ++ oQ (cut ((S i).map (·.1) ++ (asg c ++ NQ G R ((Z i0).map (·.1)))) G)) (Z i) a w) m (fun i a' w' hi=>?_) (m i0+1) i0 a w (by omega) (a2b hs (WY h1)))
   obtain ⟨h3,h4⟩:=h2 i
   refine wp_mono (ih h4 hi) (fun e a2 w2 hq=>?_)
   obtain ⟨G',R',k1,k2,k3⟩:=hq
   have hfr:Fr (asg c) G G':=(a3H h3).two k2
   cases e with
   | normal =>
    obtain ⟨i',k4,k5⟩:=k1
    obtain ⟨k6,k7⟩:=bI.1 k5
    exact ⟨i',k4,(a2b k3 (WY k7)).congr (fun s=>a5c hfr (fun s hs'=>List.mem_append_right _ (List.mem_append_left _ hs')) k6 s)⟩
   | _=>exact ⟨G',R',k1,hfr,k3⟩
  ·rename_i n l sub rest
   refine wp_loop_rounds n ?_
   have key:∀ n G1 R a w,Fr (asg c) G G1→YC (vwp B c sub) (less (asg c) l) Q n G1 R→St B W base G1 R a w→Code.rounds B.P c (PostF B W base Q (asg (.loop c)) G) n a w:=by
    intro n
    induction n with
    | zero=>intro G1 R a w _ h _;exact h.elim
    | succ n ihn =>
     intro G1 R a w hf h hs
     rw [rounds_succ]
     refine wp_mono (ih h hs) (fun e a2 w2 hq=>?_)
     obtain ⟨G',R',k1,k2,k3⟩:=hq
     have hfr:Fr (asg c) G G':=hf.two k2
     cases e with
     | normal =>
      refine ihn _ _ _ _ (fun s hs'=>?_) k1 (k3.cut (l:=less (asg c) l))
      have hns:s ∉ less (asg c) l:=fun h'=>hs' (List.mem_filter.1 h').1
      rw [kZ hns]
      exact hfr s hs'
     | _=>exact ⟨G',R',k1,hfr,k3⟩
   exact key n G R a w (Fr.refl _ _) h hs
  ·rename_i n l k sub rest
   refine wp_loop_rounds n ?_
   have key:∀ n G1 R a w,Fr (asg c) G G1→a2T (vwp B c sub) (asg c) l k Q n G1 R→St B W base G1 R a w→Code.rounds B.P c (PostF B W base Q (asg (.loop c)) G) n a w:=by
    intro n
    induction n with
    | zero=>intro G1 R a w _ h _;exact h.elim
    | succ n ihn =>
     intro G1 R a w hf h hs
     rw [rounds_succ]
     refine wp_mono (ih h hs) (fun e a2 w2 hq=>?_)
     obtain ⟨G',R',k1,k2,k3⟩:=hq
     have hfr:Fr (asg c) G G':=hf.two k2
     cases e with
     | normal =>
      obtain ⟨k4,k5,k6⟩:=k1
      refine ihn _ _ _ _ (fun s hs'=>?_) k6 (a2b k3 (WY k4))
      exact (hfr.two (a3H k5)) s hs'
     | _=>exact ⟨G',R',k1,hfr,k3⟩
   exact key n G R a w (Fr.refl _ _) h hs
  ·exact h.elim
 | scope c ih=>intro A Q G R a w h hs;simp only [vwp] at h
 | goto l=>intro A Q G R a w h hs;simp only [vwp] at h
 | rangeFunc f ps x y _ _=>intro A Q G R a w h hs;simp only [vwp] at h
 | refuse s=>intro A Q G R a w h hs;simp only [vwp] at h
end
attribute [irreducible] vwp
end Go.Proofs.YtidfgdchcpmnfaaGreat
namespace Go.Proofs.YtidfgdchcpmnfaaGreat
open Go Go.RowKit
set_option linter.unusedSimpArgs false
set_option linter.unusedVariables false
set_option maxRecDepth 20000
def a2z (B:Book) (G:Nat→K) (ρ:Nat→Res) (t:Ty):ResultVar→Option (Part × List (Nat × Res))
 | .tmp s=>vP ρ (some t) (G s)
 | .cell s ty=>match G s with
  | .ptr r o=>match ρ r with
   | .box ps=>(a3V B.P B.T ty ps o).map fun p=>(p,[])
   | _=>none
  | .val (.ref u) y=>if fitsT B.P ty u then some (⟨u,y⟩,[]) else none
  | .lD r=>match ρ r with
   | .kP k=>if rW B.P ty == some false then vP ρ (some t) k else none
   | _=>none
  | _=>none
def a0I (B:Book) (G:Nat→K):(Nat→Res)→(ts:List Ty)→List ResultVar→(nest ts).den→Prop
 | _,[],[],_=>True
 | ρ,t :: ts,r :: rs,y=>match a2z B G ρ t r with
  | some (p,l)=>match nV p.t t with
   | some q=>fB (q.c p.x)∧q.f p.x=y.1∧a0I B G (after ρ l) ts rs y.2
   | none=>False
  | none=>False
 | _,_,_,_=>False
def b2n (B:Book) (ts:List Ty) (rs:List ResultVar) (y:(nest ts).den):Exit→Gam→Rho→Prop
 | .normal,G,R=>a0I B (dF G) (aV R) ts rs y
 | .ret,G,R=>a0I B (dF G) (aV R) ts rs y
 | _,_,_=>False
def MF:Nat→(ts:List Ty)→(nest ts).den→Gam
 | _,[],_=>[]
 | i,t :: ts,x=>(i,.val t x.1) :: MF (i+1) ts x.2
section
variable {B:Book} {W:World}
def CX (P:Program) (a:Act):ResultVar→Sem Value
 | .tmp t=>pure (a.tmps.getD t undef)
 | .cell s t=>do loadVar t (← asAddr (a.tmps.getD s undef))
theorem a0o {P:Program} {w:World} {f:ResultVar→Sem Value}:∀ {rs:List ResultVar} {vs:List Value},kJ (fun r v=>(f r).run P w=.ok v w) rs vs→(rs.mapM f).run P w=.ok vs w
 | _,_,.nil=>by simp
 | _,_,.cons h1 h2=>by
  rw [List.mapM_cons,Sem.run_bind,h1]
  simp only [Result.andThen_ok,Sem.run_bind,a0o h2]
  rfl
theorem a0J {P:Program} {fn:Func} {a:Act} {w:World} {vs:List Value} (h:kJ (fun r v=>(CX P a r).run P w=.ok v w) fn.results.toList vs):(results fn a.tmps).run P w=.ok (if h:vs.toArray.size=1 then vs.toArray[0] else .tuple vs.toArray) w:=by
 have e:results fn a.tmps=(do let us ← fn.results.mapM (CX P a);pure (if h:us.size=1 then us[0] else .tuple us)):=by
  unfold results
  congr 2
 rw [e,Array.mapM_eq_mapM_toList]
 simp only [Sem.run_bind,map_eq_pure_bind,a0o h,Result.andThen_ok,Sem.run_pure]
theorem a5E {G:Nat→K} {ρ:Nat→Res} {E:Env} {w:World} {a:Act} {t:Ty} {r:ResultVar} {p:Part} {l:List (Nat × Res)} (h:a2z B G ρ t r=some (p,l)) (hM:Mem E ρ W w) (hf:Fits E ρ w B a G) :
  ∃ v E',(CX B.P a r).run B.P w=.ok v w∧Mem E' (after ρ l) W w∧Ext E ρ w E' (after ρ l) w∧iR (fz w E') w p.t v p.x:=by
 cases r with
 | tmp s =>
  obtain ⟨E',m1,m2,m3⟩:=qJ h hM (hf.wf s) (hf.holds s)
  exact ⟨_,E',rfl,m1,m2,m3⟩
 | cell s ty =>
  simp only [a2z] at h
  have hs:=hf.holds s
  have hs':a.tmps.getD s undef=a.eval (.tmp s):=rfl
  split at h <;> first | (cases h;done) | skip
  ·rename_i rr o hk
   rw [hk] at hs
   split at h <;> first | (cases h;done) | skip
   rename_i ps hr
   simp only [Option.map_eq_some_iff,Prod.mk.injEq] at h
   obtain ⟨p',h1,rfl,rfl⟩:=h
   obtain ⟨b,hb,hp⟩:=hs
   have hres:=hM.res rr
   rw [hr] at hres
   obtain ⟨b',cs,e,k1,k3,k4⟩:=hres
   rw [hb] at k1;cases k1
   obtain ⟨hft,c,hc,hrep⟩:=a0m h1 k4
   have hrg:w.rangeAt b o c:=fun j v hv=>by
    rw [cell_of_row _ _ _ _ _ _ k3,← hv]
    simp only [List.getElem?_toArray]
    rw [← hc,List.getElem?_take,if_pos (by have:=(List.getElem?_eq_some_iff.1 hv).1;exact this),List.getElem?_drop]
   refine ⟨p'.t.toV c,E,?_,hM,Ext.refl _ _ _,c,rfl,hrep⟩
   simp only [CX,hs',hp,asAddr,Sem.run_bind,Sem.run_pure,Result.andThen_ok]
   exact jL hft hrg hrep
  ·rename_i u y hk
   rw [hk] at hs
   split at h <;> first | (cases h;done) | skip
   rename_i hft
   simp only [Option.some.injEq,Prod.mk.injEq] at h
   obtain ⟨rfl,rfl⟩:=h
   obtain ⟨b,o,ds,hp,k1,k2,k3⟩:=AY hs
   refine ⟨u.toV ds,E,?_,hM,Ext.refl _ _ _,ds,rfl,k3⟩
   simp only [CX,hs',hp,asAddr,Sem.run_bind,Sem.run_pure,Result.andThen_ok]
   exact jL hft k2 k3
  ·rename_i rr hk
   rw [hk] at hs
   split at h <;> first | (cases h;done) | skip
   rename_i k9 hr
   split at h <;> first | (cases h;done) | skip
   rename_i ha
   obtain ⟨q1,q2,b,u,e,q3,q4,q5,q6⟩:=hM.kbx rr k9 hr
   obtain ⟨b',g1,g2⟩:=hs (by rw [hr];trivial)
   rw [g1] at q3;cases q3
   obtain ⟨E',m1,m2,m3⟩:=qJ h hM q1 q6
   refine ⟨u,E',?_,m1,m2,m3⟩
   simp only [CX,hs',g2,asAddr,Sem.run_bind,Sem.run_pure,Result.andThen_ok]
   exact OT (by simpa using ha) (by rw [cell_of_row w _ _ _ _ _ q4];rfl)
theorem a4m {G:Nat→K} {w:World} {a:Act}:∀ {ts:List Ty} {rs:List ResultVar} {y:(nest ts).den} {ρ:Nat→Res} {E:Env},a0I B G ρ ts rs y→Mem E ρ W w→Fits E ρ w B a G →
  ∃ vs E',kJ (fun r v=>(CX B.P a r).run B.P w=.ok v w) rs vs∧E'.fix=E.fix∧iZ (fz w E') w ts vs y∧∀ q,fz w E q→fz w E' q
 | [],[],y,ρ,E,h,hM,hf=>⟨[],E,.nil,rfl,rfl,fun _ h=>h⟩
 | t :: ts,r :: rs,y,ρ,E,h,hM,hf=>by
  simp only [a0I] at h
  split at h <;> first | exact h.elim | skip
  rename_i p l h1
  split at h <;> first | exact h.elim | skip
  rename_i q hq
  obtain ⟨hc,hy,h2⟩:=h
  obtain ⟨v,E1,k1,m1,m2,m3⟩:=a5E h1 hM hf
  obtain ⟨vs,E2,j1,j2,j3,j4⟩:=a4m h2 m1 ⟨hf.size,hf.defers,fun s=>m2.wf _ (hf.wf s),fun s=>m2.holds _ _ (hf.wf s) (hf.holds s),fun s hs=>by rw [m2.par];exact hf.par s hs⟩
  refine ⟨v :: vs,E2,.cons k1 j1,j2.trans m2.fix,⟨v,vs,rfl,?_,j3⟩,fun q hq=>j4 q (m2.fz q hq)⟩
  obtain ⟨cs,rfl,hr⟩:=gG j4 (jA.refl _ _) m3
  refine ⟨cs,by unfold Ty.toV;rw [xY _ _ _ hq],?_⟩
  rw [← hy]
  exact zS _ _ _ hq cs _ hr hc
 | [],_ :: _,y,ρ,E,h,hM,hf=>by simp [a0I] at h
 | _ :: _,[],y,ρ,E,h,hM,hf=>by simp [a0I] at h
theorem YA {F:Nat→Prop} {w:World}:∀ {ts:List Ty} {vs:List Value} {y:(nest ts).den},iZ F w ts vs y→vs.length=ts.length
 | [],vs,y,h=>by rw [show vs=[] from h];rfl
 | t :: ts,vs,y,⟨v,vs',h1,h2,h3⟩=>by rw [h1,List.length_cons,YA h3];rfl
theorem b2o {F:Nat→Prop} {w:World} {ts:List Ty} {vs:List Value} {y:(nest ts).den} (h:iZ F w ts vs y):qG F w ts (if h:vs.toArray.size=1 then vs.toArray[0] else .tuple vs.toArray) y:=by
 have hl:=YA h
 match ts,y,h with
 | [t],y,⟨v,vs',h1,h2,h3⟩ =>
  have h3:vs'=[]:=h3
  subst h3
  subst h1
  exact h2
 | [],y,h =>
  have h:vs=[]:=h
  subst h
  exact ⟨[],rfl,rfl⟩
 | t1 :: t2 :: ts,y,h =>
  refine ⟨vs,?_,h⟩
  rw [dif_neg (by simp [hl])]
theorem MG {F:Nat→Prop} {w:World} {E:Env} {ρ:Nat→Res} (hF:∀ q,F q→fz w E q):∀ {ts:List Ty} {vs:List Value} {x:(nest ts).den} (i s:Nat),iZ F w ts vs x→(dF (MF i ts x) s).wf ρ∧(i≤s→(dF (MF i ts x) s).holds E ρ w (vs.getD (s - i) undef))∧(s < i→dF (MF i ts x) s=.any)
 | [],vs,x,i,s,h=>⟨trivial,fun _=>trivial,fun _=>rfl⟩
 | t :: ts,vs,x,i,s,⟨v,vs',h1,h2,h3⟩=>by
  obtain ⟨k1,k2,k3⟩:=MG hF (i+1) s h3
  simp only [MF,dF]
  split
  ·rename_i e
   subst e
   refine ⟨trivial,fun _=>?_,fun h=>by omega⟩
   rw [h1,Nat.sub_self]
   exact gG hF (jA.refl _ _) h2
  ·rename_i e
   refine ⟨k1,fun h=>?_,fun h=>k3 (by omega)⟩
   have:=k2 (by omega)
   rw [h1]
   have e2:s - i=(s - (i+1))+1:=by omega
   rw [e2,List.getD_cons_succ]
   exact this
theorem b1n (hB:B.Ok) (hm:B.P.follows .mixedOrders=true) {f:FuncId} {fn:Func} {code:Code} {c:Ctr} (hf:B.P.funcs[f]?=some fn) (hb:fn.body=some code) (hN:fn.ntmps=B.N) (hkeep:B.keep=fun _=>false) (hargs:c.args.length≤fn.ntmps) (A:(nest c.args).den→List Ann)
  (h:∀ x,c.pre x→vwp B code (A x) (b2n B c.res fn.results.toList (c.fn x)) (MF 0 c.args x) []):dL B.P f c:=by
 intro F w vs x hF hvs hpre
 have hl:=YA hvs
 let E:Env:=⟨fun _=>none,fun _=>undef,fun q=>F q ∨ w.heap.size≤q,fun _ _=>undef,fun _=>False,fun _=>undef⟩
 have hhas:∀ r j q,¬ E.has r j q:=fun r j q h=>by cases j <;> cases h
 have hFz:∀ q,F q→fz w E q:=fun q hq=>yF (hF q hq) (.inl hq) (fun r j=>hhas r j q)
 have hM:Mem E (aV []) w w:=⟨⟨rfl,rfl,rfl,Nat.le_refl _,fun _ _ _=>rfl⟩,fun r=>rfl,fun r j r' j' b e=>(hhas r j b e).elim,fun r j b e=>(hhas r j b e).elim,fun q hq=>hq.elim (fun h=>h.elim) .inr,fun r i _=>rfl,fun r k e=>(by cases e),fun b o n h=>h⟩
 refine calls_of_wp hf hb (wp_mono (b5u (W:=w) (base:=E.fix) hB hm code (h x hpre) ⟨E,rfl,hM,?_⟩) (fun e a w' hq=>?_))
 ·refine ⟨by simp [hN];omega,rfl,fun s=>(MG hFz 0 s hvs).1,fun s=>?_,fun s hs=>by rw [hkeep] at hs;cases hs⟩
  have h1:=(MG (ρ:=aV []) hFz 0 s hvs).2.1 (Nat.zero_le _)
  rw [Nat.sub_zero] at h1
  by_cases hs:s < vs.length
  ·have:(({ tmps:=vs.toArray ++ Array.replicate (fn.ntmps - vs.toArray.size) undef,defers:=[] }:Act).eval (.tmp s))=vs.getD s undef:=by
    simp [Act.eval,Array.getD_eq_getD_getElem?,Array.getElem?_append,hs]
   rw [this];exact h1
  ·have hany:dF (MF 0 c.args x) s=.any:=by
    have:∀ (ts:List Ty) (x:(nest ts).den) (i:Nat),i+ts.length≤s→dF (MF i ts x) s=.any:=by
     intro ts
     induction ts with
     | nil=>intro x i _;rfl
     | cons t ts ih =>
      intro x i hi
      simp only [List.length_cons] at hi
      simp only [MF,dF]
      rw [if_neg (by omega)]
      exact ih x.2 (i+1) (by omega)
    exact this c.args x 0 (by omega)
   rw [hany];trivial
 ·obtain ⟨G',R',k1,_,E',k2,k3,k4⟩:=hq
  have fin:a0I B (dF G') (aV R') c.res fn.results.toList (c.fn x)→a.defers=[]∧∃ v,(results fn a.tmps).run B.P w'=.ok v w'∧∃ v',Ending.returned v=.returned v'∧qG (newF F w w') w' c.res v' (c.fn x)∧Below w.heap.size w w':=fun hr=>by
   obtain ⟨us,E2,j1,j2,j3,_⟩:=a4m hr k3 k4
   refine ⟨k4.defers,_,a0J j1,_,rfl,b2o (jP (fun q hq=>⟨?_,hq.1.1⟩) (jA.refl _ _) _ _ _ j3),k3.below.below (fun q=>by rw [show E'.sO=E.sO from congrArg Fix.sO k2];exact id)⟩
   have:=hq.1.2
   rw [show E2.base=E.base from (congrArg Fix.base j2).trans (congrArg Fix.base k2)] at this
   exact this
  cases e with
  | normal=>exact fin k1
  | ret=>exact fin k1
  | exit i=>exact k1.elim
  | goto l=>exact k1.elim
  | panic ch=>exact k1.elim
  | outgrown=>exact k1.elim
end
end Go.Proofs.YtidfgdchcpmnfaaGreat
namespace Go.Proofs.YtidfgdchcpmnfaaGreat
open Go Go.RowKit
set_option linter.unusedSimpArgs false
set_option linter.unusedVariables false
set_option maxRecDepth 20000
noncomputable def a8R (rt:Ty):Nat→TypeId→Option Ty
 | 0,_=>none
 | n+1,t=>if t=30 then some rt else if t=28 then some (.lf .big) else match Tryz.prog.underlying t with
  | some .bool=>some .bool
  | some (.int k)=>some (.int k)
  | some .string=>some (.lf .str)
  | some (.slice e)=>(a8R rt n e).map .list
  | some (.array m e)=>(a8R rt n e).map (.arr m)
  | some (.struct fs)=>fs.toList.foldr (fun f acc=>match a8R rt n f.type,acc with
   | some a,some b=>some (.pair a b)
   | _,_=>none) (some .unit)
  | _=>none
structure Hint where
 wr:List Nat
 kb:List Nat:=[]
 mt:List (Nat × Ty):=[]
def b0H:List (Nat × Ty)→Nat→Option Ty
 | [],_=>none
 | (s,t) :: l,q=>if q=s then some t else b0H l q
noncomputable def told (h:Hint) (nc:FuncId→List YK):Told:=⟨a8R (.lf .iE) 8,a8R (.lf .rat) 8,fun s=>h.wr.contains s || h.kb.contains s,fun s=>h.kb.contains s,b0H h.mt,nc⟩
structure Lib where
 l:List (FuncId × Ctr)
 ok:∀ p ∈ l,dL Tryz.prog p.1 p.2
 n:List (FuncId × YK)
 okn:∀ p ∈ n,NOk Tryz.prog p.1 p.2
def TD {γ:Type}:List (FuncId × γ)→FuncId→List γ
 | [],_=>[]
 | (f,c) :: l,g=>if g=f then c :: TD l g else TD l g
theorem zU {γ:Type}:∀ {l:List (FuncId × γ)} {g:FuncId} {c:γ},c ∈ TD l g→(g,c) ∈ l
 | (f,c') :: l,g,c,h=>by
  simp only [TD] at h
  split at h
  ·rename_i e
   rcases List.mem_cons.1 h with rfl | h
   ·rw [e];exact List.mem_cons_self ..
   ·exact List.mem_cons_of_mem _ (zU h)
  ·exact List.mem_cons_of_mem _ (zU h)
 | [],g,c,h=>by cases h
def Lib.nil:Lib:=⟨[],(fun p hp=>by cases hp),[],fun p hp=>by cases hp⟩
def Lib.add (L:Lib) (f:FuncId) (c:Ctr) (h:dL Tryz.prog f c):Lib:=⟨(f,c) :: L.l,fun p hp=>(List.mem_cons.1 hp).elim (fun e=>by subst e;exact h) (fun hp=>L.ok p hp),L.n,L.okn⟩
noncomputable def Lib.book (L:Lib) (N:Nat) (h:Hint):Book:=⟨Tryz.prog,TD L.l,told h (TD L.n),N,fun _=>false⟩
theorem Lib.good (L:Lib) (N:Nat) (wr:Hint):(L.book N wr).Ok:=⟨fun g c h=>L.ok (g,c) (zU h),fun g c h=>L.okn (g,c) (zU h)⟩
theorem mixed:Tryz.prog.follows .mixedOrders=true:=by kernel_rfl
theorem a9k (L:Lib) {f:FuncId} {fn:Func} {code:Code} {c:Ctr} (hint:Hint) (hf:Tryz.prog.funcs[f]?=some fn) (hb:fn.body=some code) (hargs:c.args.length≤fn.ntmps) (A:(nest c.args).den→List Ann)
  (h:∀ x,c.pre x→vwp (L.book fn.ntmps hint) code (A x) (b2n (L.book fn.ntmps hint) c.res fn.results.toList (c.fn x)) (MF 0 c.args x) []):dL Tryz.prog f c :=
 b1n (B:=L.book fn.ntmps hint) (L.good fn.ntmps hint) mixed hf hb rfl rfl hargs A h
theorem gK (L:Lib) {f:FuncId} {fn:Func} {code:Code} {c:Ctr} (wr:List Nat) (hf:Tryz.prog.funcs[f]?=some fn) (hb:fn.body=some code) (hargs:c.args.length≤fn.ntmps) (A:(nest c.args).den→List Ann)
  (h:∀ x,c.pre x→vwp (L.book fn.ntmps ⟨wr,[],[]⟩) code (A x) (b2n (L.book fn.ntmps ⟨wr,[],[]⟩) c.res fn.results.toList (c.fn x)) (MF 0 c.args x) []):dL Tryz.prog f c :=
 a9k L ⟨wr,[],[]⟩ hf hb hargs A h
theorem vC {F:Nat→Prop} {w:World} {v:Value} {x:Rat} (h:iR F w (.lf .rat) v x):RQ w v x:=by
 obtain ⟨cs,rfl,h2⟩:=h
 exact h2
theorem a4w {F:Nat→Prop} {w:World} {v:Value} {x:Rat} (h:RQ w v x):iR F w (.lf .rat) v x:=by
 obtain ⟨b,p,n,c,b',p',n',c',rfl⟩:=h.form
 exact ⟨_,rfl,h⟩
theorem QT {F:Nat→Prop} {w:World} (b:Bool):iR F w .bool (.bool b) b:=⟨_,rfl,rfl⟩
theorem b1g {F:Nat→Prop} {w:World} {v:Value} {b:Bool} (h:iR F w .bool v b):v=.bool b:=by
 obtain ⟨cs,rfl,h2⟩:=h
 rw [show cs=_ from h2];rfl
theorem tY {F:Nat→Prop} {w:World} {k:IntKind} (b:Int):iR F w (.int k) (.int k b) b:=⟨_,rfl,rfl⟩
theorem a0f {F:Nat→Prop} {w:World} {k:IntKind} {v:Value} {b:Int} (h:iR F w (.int k) v b):v=.int k b:=by
 obtain ⟨cs,rfl,h2⟩:=h
 rw [show cs=_ from h2];rfl
abbrev tQ:Ty:=.lf .rat
abbrev tI:Ty:=.int .i64
def cQ2 (pre:Rat→Rat→Prop) (g:Rat→Rat→Rat):Ctr:=⟨[tQ,tQ],[tQ],fun x=>pre x.1 x.2.1,fun x=>(g x.1 x.2.1,())⟩
theorem MN {f:FuncId} {pre:Rat→Rat→Prop} {g:Rat→Rat→Rat} (h:∀ (v u:Value) (x y:Rat) (w:World),RQ w v x→RQ w u y→pre x y→Calls Tryz.prog f #[v,u] w (GQ (g x y) w)):dL Tryz.prog f (cQ2 pre g):=by
 intro F w vs x hF hvs hp
 obtain ⟨v,vs',rfl,h1,u,vs'',rfl,h2,h3⟩:=hvs
 have h3:vs''=[]:=h3
 subst h3
 refine (h v u x.1 x.2.1 w (vC h1) (vC h2) hp).mono ?_
 rintro e w' ⟨r,rfl,hr,hb⟩
 exact ⟨r,rfl,a4w hr,hb⟩
def cQ1 (pre:Rat→Prop) (g:Rat→Rat):Ctr:=⟨[tQ],[tQ],fun x=>pre x.1,fun x=>(g x.1,())⟩
theorem a6H {f:FuncId} {pre:Rat→Prop} {g:Rat→Rat} (h:∀ (v:Value) (x:Rat) (w:World),RQ w v x→pre x→Calls Tryz.prog f #[v] w (GQ (g x) w)):dL Tryz.prog f (cQ1 pre g):=by
 intro F w vs x hF hvs hp
 obtain ⟨v,vs',rfl,h1,h3⟩:=hvs
 have h3:vs'=[]:=h3
 subst h3
 refine (h v x.1 w (vC h1) hp).mono ?_
 rintro e w' ⟨r,rfl,hr,hb⟩
 exact ⟨r,rfl,a4w hr,hb⟩
def cIQ (pre:Int→Prop) (g:Int→Rat):Ctr:=⟨[tI],[tQ],fun x=>pre x.1,fun x=>(g x.1,())⟩
theorem a6D {f:FuncId} {pre:Int→Prop} {g:Int→Rat} (h:∀ (x:Int) (w:World),pre x→Calls Tryz.prog f #[.int .i64 x] w (GQ (g x) w)):dL Tryz.prog f (cIQ pre g):=by
 intro F w vs x hF hvs hp
 obtain ⟨v,vs',rfl,h1,h3⟩:=hvs
 have h3:vs'=[]:=h3
 subst h3
 rw [a0f h1]
 refine (h x.1 w hp).mono ?_
 rintro e w' ⟨r,rfl,hr,hb⟩
 exact ⟨r,rfl,a4w hr,hb⟩
end Go.Proofs.YtidfgdchcpmnfaaGreat
