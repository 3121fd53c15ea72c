/-
  Lemmas for the theorem vnulls_holds, part 19 of 36.
-/
import Derived.Test.YtgplhbhfdgempaaGreatNu18
namespace Go.Proofs.YtgplhbhfdgempaaGreat
open Go Go.RowKit
section
set_option linter.unusedSimpArgs false
set_option linter.unusedVariables false
set_option maxRecDepth 20000
def a5y (n:Gam->Rho->Prop) (Q:Exit->Gam->Rho->Prop):Exit->Gam->Rho->Prop
 | .normal,G,R=>n G R
 | e,G,R=>Q e G R
def a7r (id:Nat) (Q:Exit->Gam->Rho->Prop):Exit->Gam->Rho->Prop
 | .exit i,G,R=>if i=id then Q .normal G R else Q (.exit i) G R
 | e,G,R=>Q e G R
inductive Ann:Type 1 where
 | inv (ι:Type) (S:ι->Gam) (Z:ι->Rho) (m:ι->Nat) (i0:ι) (sub:ι->List Ann)
 | rounds (n:Nat) (l:List Nat) (sub:List Ann)
 | turns (n:Nat) (l k:List Nat) (sub:List Ann)
def nl:Code->Nat
 | .seq a b=>nl a+nl b
 | .cond _ a b=>nl a+nl b
 | .block _ c=>nl c
 | .loop _=>1
 | _=>0
def a0h (F:(Exit->Gam->Rho->Prop)->Gam->Rho->Prop) (l:List Nat) (Q:Exit->Gam->Rho->Prop):Nat->Gam->Rho->Prop
 | 0,_,_=>False
 | n+1,G,R=>F (a5y (fun G R=>a0h F l Q n (cut l G) R) Q) G R
def b4N:Res->Res
 | .row e t xs _=>.row e t xs 0
 | .fro t xs _=>.fro t xs 0
 | .mat e e2 t ids xss _=>.mat e e2 t ids xss 0
 | .lH k=>.lH (jX k)
 | x=>x
def XE (G:Gam):List Nat->Gam
 | []=>[]
 | s::l=>match (dF G s).res with
  | []=>XE G l
  | _=>(s,jX (dF G s))::XE G l
def b0B (R:Rho):List Nat->Rho
 | []=>[]
 | r::k=>(r,b4N (aQ R r))::b0B R k
def less (l k:List Nat):List Nat:=l.filter fun s=>!k.contains s
def KN:K->Bool
 | .any=>true
 | _=>false
theorem KO {k:K}:KN k=true↔k=.any:=by cases k<;>simp[KN]
def b7V (S:Gam) (l:List Nat):Bool:=S.all fun p=>l.contains p.1 || KN p.2
def Res.KP:Res->Bool
 | .box _=>true
 | _=>false
def MO (v:Nat):Res->Bool
 | .mat _ _ _ _ _ v'=>v'==v
 | _=>false
def Res.uP:Res->Bool
 | .lH _=>true
 | _=>false
def Res.a1k:Res->Bool
 | .lH _=>true
 | .gone=>true
 | _=>false
theorem Res.xB {x:Res}:x.uP=true↔x.mF:=by cases x<;>simp[Res.uP,Res.mF]
theorem Res.a1l {x:Res} (h:x.a1k=true):x.CZ:=by cases x<;>simp_all [Res.a1k,Res.CZ]
theorem GX {v:Nat} {x:Res} (h:MO v x=true):Res.mP v x:=by cases x<;>simp_all [MO,Res.mP]
theorem Res.CB {x:Res} (h:x.KP=true):x.nK:=by cases x<;>simp_all [Res.KP,Res.nK]
def a8I (R R':Rho):K->K->Bool
 | _,.any=>true
 | .nil,.nil=>true
 | .ptr r o,.ptr r' o'=>r==r'&&o==o'&&(aQ R r).KP&&(aQ R' r).KP
 | .own r v,.own r' v'=>r==r'&&v'==0&&IV v (aQ R r)&&IV 0 (aQ R' r)
 | .lY r,.lY r'=>r==r'&&(aQ R' r).a1k&&(!(aQ R' r).uP || (aQ R r).uP)
 | _,_=>false
theorem b1H {R R':Rho}:∀ {k k':K},a8I R R' k k'=true->leK R R' k k'
 | k,.any,_=>by cases k<;>trivial
 | .nil,.nil,_=>trivial
 | .ptr r o,.ptr r' o',h=>by
  simp only[a8I,Bool.and_eq_true,beq_iff_eq] at h
  exact⟨h.1.1.1,h.1.1.2,Res.CB h.1.2,Res.CB h.2⟩
 | .own r v,.own r' v',h=>by
  simp only[a8I,Bool.and_eq_true,beq_iff_eq] at h
  obtain⟨⟨⟨h1,h2⟩,h3⟩,h4⟩:=h
  subst h2
  simp only[leK]
  exact⟨h1,trivial,AU h3,AU h4⟩
 | .lY r,.lY r',h=>by
  simp only[a8I,Bool.and_eq_true,beq_iff_eq,Bool.or_eq_true,Bool.not_eq_true'] at h
  obtain⟨⟨h1,h2⟩,h3⟩:=h
  refine⟨h1,Res.a1l h2,fun hb=>?_⟩
  have:=Res.xB.2 hb
  rw[this] at h3
  exact Res.xB.1 (h3.resolve_left (by simp))
def eqC (t t':Ty) (x:t.den) (y:t'.den):List Prop:=if h:t=t' then [h ▸ x=y] else [False]
theorem zH {t t':Ty} {x:t.den} {y:t'.den} (h:aV (eqC t t' x y)):jT t t' x=some y:=by
 unfold eqC at h
 split at h
 ·rename_i e
  subst e
  unfold jT
  rw[dif_pos rfl]
  exact congrArg some h.1
 ·exact h.1.elim
def b4l (ids pU:Option (List Nat)):List Prop:=match ids,pU with
 | none,none=>[]
 | some l,some l'=>[l=l']
 | _,_=>[False]
theorem b1y {ids pU:Option (List Nat)} (h:aV (b4l ids pU)):ids=pU:=by
 unfold b4l at h
 split at h
 ·rfl
 ·rw[h.1]
 ·exact h.1.elim
def a5o:Res->Res->List Prop
 | .mat _ _ _ ids xss _,.mat _ _ _ pU yss _=>(xss.length=yss.length)::b4l ids pU
 | _,_=>[False]
theorem a1Z {x y:Res} (h:aV (a5o x y)):OT x y:=by
 unfold a5o at h
 split at h
 ·exact⟨b1y h.2,h.1⟩
 ·exact h.1.elim
def RN (R R':Rho):List K0->List K0->List Prop
 | [],[]=>[]
 | .val t x::ks,.val t' y::ks'=>eqC t t' x y++RN R R' ks ks'
 | .ptr r o::ks,.ptr r' o'::ks'=>if r==r'&&o==o'&&(aQ R r).KP&&(aQ R' r).KP then RN R R' ks ks' else [False]
 | .lY r::ks,.lY r'::ks'=>if r==r'&&(aQ R' r).a1k&&(!(aQ R' r).uP || (aQ R r).uP) then RN R R' ks ks' else [False]
 | _,_=>[False]
theorem b1G {R R':Rho} {r r':Nat} (h:(r==r'&&(aQ R' r).a1k&&(!(aQ R' r).uP || (aQ R r).uP))=true):r=r'/\(aQ R' r).CZ/\((aQ R' r).mF->(aQ R r).mF):=by
 simp only[Bool.and_eq_true,beq_iff_eq,Bool.or_eq_true,Bool.not_eq_true'] at h
 obtain⟨⟨h1,h2⟩,h3⟩:=h
 refine⟨h1,Res.a1l h2,fun hb=>?_⟩
 have:=Res.xB.2 hb
 rw[this] at h3
 exact Res.xB.1 (h3.resolve_left (by simp))
theorem GV {R R':Rho}:∀ {ks ks':List K0},aV (RN R R' ks ks')->RP R R' ks ks'
 | [],[],_=>trivial
 | k::ks,[],h=>by cases k<;>exact h.1.elim
 | [],k::ks,h=>h.1.elim
 | k::ks,k'::ks',h=>by
  cases k<;>cases k'<;>first|exact h.1.elim|skip
  ·exact⟨zH (bM.1 h).1,GV (bM.1 h).2⟩
  ·simp only[RN] at h
   split at h<;>first|exact h.1.elim|skip
   rename_i hb
   simp only[Bool.and_eq_true,beq_iff_eq] at hb
   exact⟨⟨hb.1.1.1,hb.1.1.2,Res.CB hb.1.2,Res.CB hb.2⟩,GV h⟩
  ·simp only[RN] at h
   split at h<;>first|exact h.1.elim|skip
   rename_i hb
   exact⟨b1G hb,GV h⟩
def a8J (R R':Rho) (k k':K):List Prop:=if a8I R R' k k' then [] else match k,k' with
 | .val t x,.val t' y=>eqC t t' x y
 | .fn g ks,.fn g' ks'=>if g==g' then RN R R' ks ks' else [False]
 | .cell r v i,.cell r' v' i'=>if r==r'&&v'==0&&IV v (aQ R r)&&IV 0 (aQ R' r)&&(aQ R r).esz==(aQ R' r).esz then [i=i'] else [False]
 | .mrow r v i,.mrow r' v' i'=>if r==r'&&v'==0&&MO v (aQ R r)&&MO 0 (aQ R' r) then (i=i')::a5o (aQ R r) (aQ R' r) else [False]
 | .mpos r v i j,.mpos r' v' i' j'=>if r==r'&&v'==0&&MO v (aQ R r)&&MO 0 (aQ R' r)&&(aQ R r).msz==(aQ R' r).msz then (i=i')::(j=j')::a5o (aQ R r) (aQ R' r) else [False]
 | k,k'=>[leK R R' k k']
theorem YZ {R R':Rho} {k k':K} (h:aV (a8J R R' k k')):leK R R' k k':=by
 unfold a8J at h
 split at h
 ·rename_i e;exact b1H e
 ·split at h
  ·exact zH h
  ·split at h<;>first|exact h.1.elim|skip
   rename_i hb
   exact⟨by simpa using hb,GV h⟩
  ·split at h<;>first|exact h.1.elim|skip
   rename_i hb
   simp only[Bool.and_eq_true,beq_iff_eq] at hb
   obtain⟨⟨⟨⟨h1,h2⟩,h3⟩,h4⟩,h5⟩:=hb
   exact⟨h1,h.1,h2,AU h3,AU h4,h5⟩
  ·split at h<;>first|exact h.1.elim|skip
   rename_i hb
   simp only[Bool.and_eq_true,beq_iff_eq] at hb
   obtain⟨⟨⟨h1,h2⟩,h3⟩,h4⟩:=hb
   exact⟨h1,h.1,h2,GX h3,GX h4,a1Z h.2⟩
  ·split at h<;>first|exact h.1.elim|skip
   rename_i hb
   simp only[Bool.and_eq_true,beq_iff_eq] at hb
   obtain⟨⟨⟨⟨h1,h2⟩,h3⟩,h4⟩,h5⟩:=hb
   exact⟨⟨h1,h.1,h.2.1,h2,GX h3,GX h4⟩,a1Z h.2.2,h5⟩
  ·exact h.1
def b4r:List Part->List Part->List Prop
 | [],[]=>[]
 | p::ps,q::qs=>eqC p.t q.t p.x q.x++b4r ps qs
 | _,_=>[False]
theorem a4J:∀ {ps qs:List Part},aV (b4r ps qs)->leP ps qs
 | [],[],_=>trivial
 | p::ps,q::qs,h=>⟨zH (bM.1 h).1,a4J (bM.1 h).2⟩
 | [],_::_,h=>h.1.elim
 | _::_,[],h=>h.1.elim
def b4q {t t':Ty} (ids pU:Option (List Nat)) (xss:List (List t.den)) (yss:List (List t'.den)):List Prop:=match ids,pU with
 | some l,none=>l.Nodup::eqC (.list (.list t)) (.list (.list t')) (l.map fun i=>xss.getD i []) yss
 | none,none=>eqC (.list (.list t)) (.list (.list t')) xss yss
 | some l,some l'=>(l=l')::eqC (.list (.list t)) (.list (.list t')) xss yss
 | none,some _=>[False]
theorem b1J {t t':Ty} {ids pU:Option (List Nat)} {xss:List (List t.den)} {yss:List (List t'.den)} (h:aV (b4q ids pU xss yss)):leM ids pU xss yss:=by
 cases ids<;>cases pU<;>simp only[b4q] at h
 ·exact⟨rfl,zH h⟩
 ·exact h.1.elim
 ·exact⟨h.1,zH h.2⟩
 ·exact⟨by rw[h.1],zH h.2⟩
def b4s (R R':Rho):Res->Res->List Prop
 | _,.none=>[]
 | .box ps,.box qs=>b4r ps qs
 | .row e t xs _,.row e' t' ys v=>if e=e'/\v=0 then eqC (.list t) (.list t') xs ys else [False]
 | .fro t xs _,.fro t' ys v=>if v=0 then eqC (.list t) (.list t') xs ys else [False]
 | .mat e e2 t ids xss _,.mat e' e2' t' pU yss v=>if e=e'/\e2=e2'/\v=0 then b4q ids pU xss yss else [False]
 | .lH k,.lH k'=>if k'.one then a8J R R' k k' else [False]
 | .lH _,.gone=>[]
 | .gone,.gone=>[]
 | x,y=>[leR R R' x y]
theorem b1K {R R':Rho} {x y:Res} (h:aV (b4s R R' x y)):leR R R' x y:=by
 unfold b4s at h
 split at h
 ·cases x<;>trivial
 ·exact a4J h
 ·split at h
  ·rename_i hh;exact⟨hh.1,hh.2,zH h⟩
  ·exact h.1.elim
 ·split at h
  ·rename_i hh;exact⟨hh,zH h⟩
  ·exact h.1.elim
 ·split at h
  ·rename_i hh;exact⟨hh.1,hh.2.1,hh.2.2,b1J h⟩
  ·exact h.1.elim
 ·split at h
  ·rename_i hh;exact⟨hh,YZ h⟩
  ·exact h.1.elim
 ·trivial
 ·trivial
 ·exact h.1
theorem a4g {α:Type} {f g:α->List Prop} (h:∀ a,aV (f a)->aV (g a)):∀ {l:List α},aV (l.flatMap f)->aV (l.flatMap g)
 | [],_=>trivial
 | a::l,h1=>by
  rw[List.flatMap_cons] at h1 ⊢
  exact bM.2 ⟨h a (bM.1 h1).1,a4g h (bM.1 h1).2⟩
theorem OZ {α:Type} {f:α->List Prop} {g:α->Prop} (h:∀ a,aV (f a)->g a):∀ {l:List α},aV (l.flatMap f)->aV (l.map g)
 | [],_=>trivial
 | a::l,h1=>by
  rw[List.flatMap_cons] at h1
  exact⟨h a (bM.1 h1).1,OZ h (bM.1 h1).2⟩
def b1I (G:Gam) (R:Rho) (S:Gam) (Z:Rho) (l:List Nat):List Prop :=
 S.flatMap (fun p=>a8J R Z (dF G p.1) p.2)++(cut (S.map (·.1)++l) G).flatMap (fun p=>if (dF G p.1).res.isEmpty then [] else a8J R Z (dF G p.1) (jX (dF G p.1)))++Z.flatMap (fun p=>b4s R Z (aQ R p.1) p.2)
theorem ZA {G:Gam} {R:Rho} {S:Gam} {Z:Rho} {l:List Nat} (h:aV (b1I G R S Z l)):aV (leL G R S Z l):=by
 obtain⟨h12,h3⟩:=bM.1 h
 obtain⟨h1,h2⟩:=bM.1 h12
 refine bM.2 ⟨bM.2 ⟨OZ (fun p hp=>YZ hp) h1,a4g (fun p hp=>?_) h2⟩,OZ (fun p hp=>b1K hp) h3⟩
 by_cases e:(dF G p.1).res.isEmpty=true
 ·rw[if_pos e];trivial
 ·rw[if_neg e] at hp ⊢
  exact⟨YZ hp,trivial⟩
def b7U (R:Rho):K->Bool
 | .own r v=>!IV v (aQ R r)
 | .cell r v _=>!IV v (aQ R r)
 | .mrow r v _=>!MO v (aQ R r)
 | .mpos r v _ _=>!MO v (aQ R r)
 | _=>false
def QM (G:Gam) (R:Rho) (zs:List Nat):List Nat:=(G.filter fun p=>(dF G p.1).res.any (fun r=>!zs.contains r) || b7U R (dF G p.1)).map (·.1)
def b3e (G G':Gam) (l:List Nat):Bool:=(cut l G).all fun p=>KN (jX (dF G p.1)) || !KN (jX (dF G' p.1))
def a8p (G G':Gam) (l:List Nat):List Prop:=if b3e G G' l then [] else [False]
def a3S (F:(Exit->Gam->Rho->Prop)->Gam->Rho->Prop) (L l k:List Nat) (Q:Exit->Gam->Rho->Prop):Nat->Gam->Rho->Prop
 | 0,_,_=>False
 | n+1,G,R=>F (a5y (fun G R=>aV (b1I G R (XE G l) (b0B R k) (less L l++QM G R k))/\b7V (XE G l) L=true/\a3S F L l k Q n (XE G l++pY (cut ((XE G l).map (·.1)++(less L l++QM G R k)) G)) (b0B R k)) Q) G R
def ifB (b:Bool) (p q:Prop):Prop:=match b with
 | true=>p
 | false=>q
theorem bG {b:Bool} {p q:Prop}:ifB b p q↔(b=true->p)/\(b=false->q):=by cases b<;>simp[ifB]
def vwp (B:Book):Code->List Ann->(Exit->Gam->Rho->Prop)->Gam->Rho->Prop
 | .skip,_,Q,G,R=>Q .normal G R
 | .label _,_,Q,G,R=>Q .normal G R
 | .exit i,_,Q,G,R=>Q (.exit i) G R
 | .ret,_,Q,G,R=>Q .ret G R
 | .region _ ops draw,_,Q,G,R=>match sN B ops draw G R with
  | some ([],G',R')=>Q .normal G' R'
  | some (vc,G',R')=>aV vc/\Q .normal G' R'
  | none=>False
 | .seq a b,A,Q,G,R=>vwp B a (A.take (nl a)) (a5y (vwp B b (A.drop (nl a)) Q) Q) G R
 | .cond c t e,A,Q,G,R=>match opK (dF G) c with
  | .val .bool b=>ifB b (vwp B t (A.take (nl t)) Q G R) (vwp B e (A.drop (nl t)) Q G R)
  | _=>False
 | .block i c,A,Q,G,R=>vwp B c A (a7r i Q) G R
 | .loop c,A,Q,G,R=>match A with
  | .inv ι S Z m i0 sub::_=>aV (b1I G R (S i0) (Z i0) (asg c++QM G R ((Z i0).map (·.1)))) /\
   ∀ i,b7V (S i) (asg c)=true/\vwp B c (sub i) (a5y (fun G' R'=>∃ i',m i'<m i/\aV (a8p G G' ((S i').map (·.1)++(asg c++QM G R ((Z i0).map (·.1))))++b1I G' R' (S i') (Z i') (asg c++QM G R ((Z i0).map (·.1))))) Q) (S i++pY (cut ((S i).map (·.1)++(asg c++QM G R ((Z i0).map (·.1)))) G)) (Z i)
  | .rounds n l sub::_=>a0h (vwp B c sub) (less (asg c) l) Q n G R
  | .turns n l k sub::_=>a3S (vwp B c sub) (asg c) l k Q n G R
  | []=>False
 | _,_,_,_,_=>False
section
variable {B:Book} {W:World} {base:Fix}
def Fr (l:List Nat) (G G':Gam):Prop:=∀ s,s ∉ l->jX (dF G' s)=.any\/jX (dF G' s)=jX (dF G s)
theorem Fr.trans {l m:List Nat} {G G' G'':Gam} (h:Fr l G G') (k:Fr m G' G''):Fr (l++m) G G'':=fun s hs=>by
 simp only[List.mem_append,not_or] at hs
 rcases k s hs.2 with e|e
 ·exact .inl e
 ·rcases h s hs.1 with e2|e2
  ·exact .inl (e.trans e2)
  ·exact .inr (e.trans e2)
theorem Fr.refl (l:List Nat) (G:Gam):Fr l G G:=fun _ _=>.inr rfl
theorem Fr.more {l m:List Nat} {G G':Gam} (h:Fr l G G') (hl:∀ s ∈ l,s ∈ m):Fr m G G':=fun s hs=>h s (fun h'=>hs (hl s h'))
theorem Fr.two {l:List Nat} {G G' G'':Gam} (h:Fr l G G') (k:Fr l G' G''):Fr l G G'':=(h.trans k).more (fun s hs=>(List.mem_append.1 hs).elim id id)
theorem WW {ops:Array Oper}:∀ {l:List Oper} {G:Gam} {R:Rho} {vc:List Prop} {G':Gam} {R':Rho},AY B ops l G R=some (vc,G',R')->Fr (l.filterMap (·.dst)) G G'
 | [],G,R,vc,G',R',h=>by
  simp only[AY,Option.some.injEq,Prod.mk.injEq] at h
  obtain⟨_,rfl,_⟩:=h
  exact Fr.refl _ _
 | o::rest,G,R,vc,G',R',h=>by
  simp only[AY] at h
  split at h<;>first|(cases h;done)|skip
  rename_i vc1 k l1 h1
  split at h<;>first|(cases h;done)|skip
  rename_i vc2 G2 R2 h2
  simp only[Option.some.injEq,Prod.mk.injEq] at h
  obtain⟨_,rfl,_⟩:=h
  intro s hs
  have ih:=WW h2
  cases hd:o.dst with
  | none =>
   rw[List.filterMap_cons_none hd] at hs
   exact(ih s hs).imp id (fun h=>h.trans (by rw[vV,hd];rfl))
  | some d =>
   rw[List.filterMap_cons_some hd] at hs
   simp only[List.mem_cons,not_or] at hs
   exact(ih s hs.2).imp id (fun h=>h.trans (by rw[vV,hd];exact congrArg jX (aP _ _ hs.1)))
theorem WZ {ops:Array Oper}:∀ {l:List Oper} {G:Gam} {R:Rho} {vc:List Prop} {ss:List Sim} {G':Gam} {R':Rho},xU B ops l G R=some (vc,ss,G',R')->Fr (l.filterMap (·.dst)) G G'
 | [],G,R,vc,ss,G',R',h=>by
  simp only[xU,Option.some.injEq,Prod.mk.injEq] at h
  obtain⟨_,_,rfl,_⟩:=h
  exact Fr.refl _ _
 | o::rest,G,R,vc,ss,G',R',h=>by
  simp only[xU] at h
  split at h<;>first|(cases h;done)|skip
  rename_i vc1 k l1 h1
  split at h<;>first|(cases h;done)|skip
  rename_i vc2 ss2 G2 R2 h2
  simp only[Option.some.injEq,Prod.mk.injEq] at h
  obtain⟨_,_,rfl,_⟩:=h
  intro s hs
  have ih:=WZ h2
  cases hd:o.dst with
  | none =>
   rw[List.filterMap_cons_none hd] at hs
   exact(ih s hs).imp id (fun h=>h.trans (by rw[vV,hd];rfl))
  | some d =>
   rw[List.filterMap_cons_some hd] at hs
   simp only[List.mem_cons,not_or] at hs
   exact(ih s hs.2).imp id (fun h=>h.trans (by rw[vV,hd];exact congrArg jX (aP _ _ hs.1)))
theorem ZV {id:Nat} {ops:Array Oper} {draw:Bool} {G:Gam} {R:Rho} {vc:List Prop} {G':Gam} {R':Rho} (h:sN B ops draw G R=some (vc,G',R')):Fr (asg (.region id ops draw)) G G':=by
 unfold sN at h
 cases draw with
 | true =>
  simp only[if_true] at h
  split at h<;>first|(cases h;done)|skip
  rename_i vc1 ss G1 R1 b4h
  split at h<;>first|(cases h;done)|skip
  simp only[Option.some.injEq,Prod.mk.injEq] at h
  obtain⟨_,rfl,_⟩:=h
  exact WZ b4h
 | false =>
  simp only[Bool.false_eq_true,if_false] at h
  exact WW h
def PostF (B:Book) (W:World) (base:Fix) (Q:Exit->Gam->Rho->Prop) (l:List Nat) (G:Gam) (e:Exit) (a:Act) (w:World):Prop:=∃ G' R,Q e G' R/\Fr l G G'/\St B W base G' R a w
theorem uO {l:List Nat} {s:Nat} (h:s ∈ l):∀ (G:Gam),dF (cut l G) s=.any
 | []=>rfl
 | (q,k)::G=>by
  unfold cut
  rw[List.filter_cons]
  have ih:=uO h G
  unfold cut at ih
  split
  ·rename_i hq
   simp only[dF]
   rw[if_neg]
   ·exact ih
   ·rintro rfl
    have:l.contains s=true:=by simpa using h
    rw[this] at hq;cases hq
  ·exact ih
theorem lV {l:List Nat} {s:Nat} (h:s ∉ l):∀ (G:Gam),dF (cut l G) s=dF G s
 | []=>rfl
 | (q,k)::G=>by
  unfold cut
  rw[List.filter_cons]
  have ih:=lV h G
  unfold cut at ih
  split
  ·simp only[dF]
   split
   ·rfl
   ·exact ih
  ·rename_i hq
   simp only[dF]
   rw[if_neg]
   ·exact ih
   ·rintro rfl
    have:l.contains s=true:=by simpa using hq
    exact h (by simpa using this)
theorem a4B {S:Gam} {L l:List Nat} {G:Gam} (h:b7V S L=true):Fr L G (S++pY (cut (S.map (·.1)++l) G)):=fun s hs=>by
 rcases QO S (pY (cut (S.map (·.1)++l) G)) s with⟨p,k1,rfl,k3⟩|⟨k1,k2⟩
 ·left
  obtain⟨p',j1,j2,j3⟩:=wZ ⟨p,k1,rfl⟩
  have:=List.all_eq_true.1 h p' j1
  rw[j2] at this
  simp only[Bool.or_eq_true,List.contains_eq_mem,decide_eq_true_eq,KO] at this
  rw[k3,j3,this.resolve_left hs]
  rfl
 ·rw[k2,sZ,UO]
  by_cases hm:s ∈ S.map (·.1)++l
  ·left;rw[uO hm];rfl
  ·right;rw[lV hm]
theorem a5Z {S:Gam} {L l:List Nat} {G G':Gam} (h:Fr L G G') (hL:∀ s ∈ L,s ∈ S.map (·.1)++l) (hb:aV (a8p G G' (S.map (·.1)++l))) (s:Nat):dF (S++pY (cut (S.map (·.1)++l) G)) s=dF (S++pY (cut (S.map (·.1)++l) G')) s:=by
 have hb:b3e G G' (S.map (·.1)++l)=true:=by
  unfold a8p at hb
  split at hb
  ·assumption
  ·exact hb.1.elim
 have e:dF (pY (cut (S.map (·.1)++l) G)) s=dF (pY (cut (S.map (·.1)++l) G')) s:=by
  rw[sZ,sZ]
  by_cases hm:s ∈ S.map (·.1)++l
  ·rw[uO hm,uO hm]
  ·rw[lV hm,lV hm]
   rcases h s (fun h'=>hm (hL s h')) with e|e
   ·rcases QS (cut (S.map (·.1)++l) G) s with e2|⟨p,hp,rfl⟩
    ·rw[lV hm] at e2
     rw[e,e2];rfl
    ·have:=List.all_eq_true.1 hb p hp
     rw[e] at this
     simp only[KN,Bool.not_true,Bool.or_false,KO] at this
     rw[e,KO.1 this]
   ·exact e.symm
 have:∀ (S:Gam) (X Y:Gam),dF X s=dF Y s->dF (S++X) s=dF (S++Y) s:=by
  intro S
  induction S with
  | nil=>intro X Y h;exact h
  | cons p S ih =>
   intro X Y h
   simp only[List.cons_append,dF]
   split
   ·rfl
   ·exact ih X Y h
 exact this S _ _ e
theorem a3Z (hB:B.Ok) (hm:B.P.follows .mixedOrders=true):∀ (c:Code) {A:List Ann} {Q:Exit->Gam->Rho->Prop} {G:Gam} {R:Rho} {a:Act} {w:World},vwp B c A Q G R->St B W base G R a w->c.wp B.P (PostF B W base Q (asg c) G) a w:=by
 intro c
 induction c with
 | skip=>intro A Q G R a w h hs;exact wp_skip ⟨G,R,h,Fr.refl _ _,hs⟩
 | label l=>intro A Q G R a w h hs;exact wp_label ⟨G,R,h,Fr.refl _ _,hs⟩
 | exit i=>intro A Q G R a w h hs;exact wp_exit ⟨G,R,h,Fr.refl _ _,hs⟩
 | ret=>intro A Q G R a w h hs;exact wp_ret ⟨G,R,h,Fr.refl _ _,hs⟩
 | region id ops draw =>
  intro A Q G R a w h hs
  have key:∀ (vc:List Prop) (G':Gam) (R':Rho),sN B ops draw G R=some (vc,G',R')->aV vc->Q .normal G' R'->(Code.region id ops draw).wp B.P (PostF B W base Q (asg (.region id ops draw)) G) a w:=fun vc G' R' hr hv hq =>
   wp_mono (ZW (id:=id) hB hm (Q:=fun e G2 R2=>e=.normal/\G2=G'/\R2=R') hr hv ⟨rfl,rfl,rfl⟩ hs) (fun e a' w' hp=>by
    obtain⟨G2,R2,⟨rfl,rfl,rfl⟩,k2⟩:=hp
    exact⟨_,_,hq,ZV (id:=id) hr,k2⟩)
  simp only[vwp] at h
  split at h
  ·rename_i G' R' hr;exact key [] G' R' hr trivial h
  ·rename_i vc G' R' _ hr;exact key vc G' R' hr h.1 h.2
  ·exact h.elim
 | seq x y ihx ihy =>
  intro A Q G R a w h hs
  refine wp_seq (wp_mono (ihx h hs) (fun e a' w' hq=>?_))
  obtain⟨G',R',k1,k2,k3⟩:=hq
  have hfr:Fr (asg (.seq x y)) G G':=fun s hs'=>k2 s (fun h'=>hs' (List.mem_append_left _ h'))
  cases e with
  | normal =>
   refine wp_mono (ihy k1 k3) (fun e2 a2 w2 hq2=>?_)
   obtain⟨G2,R2,j1,j2,j3⟩:=hq2
   exact⟨G2,R2,j1,k2.trans j2,j3⟩
  | _=>exact⟨G',R',k1,hfr,k3⟩
 | cond c t e iht ihe =>
  intro A Q G R a w h hs
  simp only[vwp] at h
  split at h<;>first|exact h.elim|skip
  rename_i b hk
  have h:=bG.1 h
  have hs2:=hs
  obtain⟨E,h0,h1,h2⟩:=hs2
  have hv:=(SE h2).2 c
  rw[hk] at hv
  refine wp_cond_split (uD hv) (fun hb=>wp_mono (iht (h.1 hb) hs) (fun e a' w' hq=>?_)) (fun hb=>wp_mono (ihe (h.2 hb) hs) (fun e a' w' hq=>?_))
  all_goals
   obtain⟨G',R',k1,k2,k3⟩:=hq
  ·exact⟨G',R',k1,fun s hs'=>k2 s (fun h'=>hs' (List.mem_append_left _ h')),k3⟩
  ·exact⟨G',R',k1,fun s hs'=>k2 s (fun h'=>hs' (List.mem_append_right _ h')),k3⟩
 | block id c ih =>
  intro A Q G R a w h hs
  refine wp_block (wp_mono (ih h hs) (fun e a' w' hq=>?_))
  obtain⟨G',R',k1,k2,k3⟩:=hq
  cases e with
  | exit i =>
   simp only[a7r] at k1
   simp only[Exit.inBlock]
   split
   ·rename_i e;rw[if_pos e] at k1;exact⟨G',R',k1,k2,k3⟩
   ·rename_i e;rw[if_neg e] at k1;exact⟨G',R',k1,k2,k3⟩
  | _=>exact⟨G',R',k1,k2,k3⟩
 | loop c ih =>
  intro A Q G R a w h hs
  simp only[vwp] at h
  split at h
  ·rename_i ι S Z m i0 sub rest
   obtain⟨h1,h2⟩:=h
   refine wp_loop_rounds (m i0+1) (WS (B:=B) (fun i a w=>St B W base (S i++pY (cut ((S i).map (·.1)++(asg c++QM G R ((Z i0).map (·.1)))) G)) (Z i) a w) m (fun i a' w' hi=>?_) (m i0+1) i0 a w (by omega) (a3b hs (ZA h1)))
   obtain⟨h3,h4⟩:=h2 i
   refine wp_mono (ih h4 hi) (fun e a2 w2 hq=>?_)
   obtain⟨G',R',k1,k2,k3⟩:=hq
   have hfr:Fr (asg c) G G':=(a4B h3).two k2
   cases e with
   | normal =>
    obtain⟨i',k4,k5⟩:=k1
    obtain⟨k6,k7⟩:=bM.1 k5
    exact⟨i',k4,(a3b k3 (ZA k7)).congr (fun s=>a5Z hfr (fun s hs'=>List.mem_append_right _ (List.mem_append_left _ hs')) k6 s)⟩
   | _=>exact⟨G',R',k1,hfr,k3⟩
  ·rename_i n l sub rest
   refine wp_loop_rounds n ?_
   have key:∀ n G1 R a w,Fr (asg c) G G1->a0h (vwp B c sub) (less (asg c) l) Q n G1 R->St B W base G1 R a w->Code.rounds B.P c (PostF B W base Q (asg (.loop c)) G) n a w:=by
    intro n
    induction n with
    | zero=>intro G1 R a w _ h _;exact h.elim
    | succ n ihn =>
     intro G1 R a w hf h hs
     rw[rounds_succ]
     refine wp_mono (ih h hs) (fun e a2 w2 hq=>?_)
     obtain⟨G',R',k1,k2,k3⟩:=hq
     have hfr:Fr (asg c) G G':=hf.two k2
     cases e with
     | normal =>
      refine ihn _ _ _ _ (fun s hs'=>?_) k1 (k3.cut (l:=less (asg c) l))
      have hns:s ∉ less (asg c) l:=fun h'=>hs' (List.mem_filter.1 h').1
      rw[lV hns]
      exact hfr s hs'
     | _=>exact⟨G',R',k1,hfr,k3⟩
   exact key n G R a w (Fr.refl _ _) h hs
  ·rename_i n l k sub rest
   refine wp_loop_rounds n ?_
   have key:∀ n G1 R a w,Fr (asg c) G G1->a3S (vwp B c sub) (asg c) l k Q n G1 R->St B W base G1 R a w->Code.rounds B.P c (PostF B W base Q (asg (.loop c)) G) n a w:=by
    intro n
    induction n with
    | zero=>intro G1 R a w _ h _;exact h.elim
    | succ n ihn =>
     intro G1 R a w hf h hs
     rw[rounds_succ]
     refine wp_mono (ih h hs) (fun e a2 w2 hq=>?_)
     obtain⟨G',R',k1,k2,k3⟩:=hq
     have hfr:Fr (asg c) G G':=hf.two k2
     cases e with
     | normal =>
      obtain⟨k4,k5,k6⟩:=k1
      refine ihn _ _ _ _ (fun s hs'=>?_) k6 (a3b k3 (ZA k4))
      exact(hfr.two (a4B k5)) s hs'
     | _=>exact⟨G',R',k1,hfr,k3⟩
   exact key n G R a w (Fr.refl _ _) h hs
  ·exact h.elim
 | scope c ih=>intro A Q G R a w h hs;simp only[vwp] at h
 | goto l=>intro A Q G R a w h hs;simp only[vwp] at h
 | rangeFunc f ps x y _ _=>intro A Q G R a w h hs;simp only[vwp] at h
 | refuse s=>intro A Q G R a w h hs;simp only[vwp] at h
end
attribute [irreducible] vwp
end
section
set_option linter.unusedSimpArgs false
set_option linter.unusedVariables false
set_option maxRecDepth 20000
def ZR (B:Book) (G:Nat->K) (ρ:Nat->Res) (t:Ty):ResultVar->Option (Part × List (Nat × Res))
 | .tmp s=>wQ ρ (some t) (G s)
 | .cell s ty=>match G s with
  | .ptr r o=>match ρ r with
   | .box ps=>(a4N B.P B.T ty ps o).map fun p=>(p,[])
   | _=>none
  | .val (.ref u) y=>if fitsT B.P ty u then some (⟨u,y⟩,[]) else none
  | .lY r=>match ρ r with
   | .lH k=>if tH B.P ty==some false then wQ ρ (some t) k else none
   | _=>none
  | _=>none
def a1N (B:Book) (G:Nat->K):(Nat->Res)->(ts:List Ty)->List ResultVar->(nest ts).den->Prop
 | _,[],[],_=>True
 | ρ,t::ts,r::rs,y=>match ZR B G ρ t r with
  | some (p,l)=>match nV p.t t with
   | some q=>aV (q.c p.x)/\q.f p.x=y.1/\a1N B G (after ρ l) ts rs y.2
   | none=>False
  | none=>False
 | _,_,_,_=>False
def b4O (B:Book) (ts:List Ty) (rs:List ResultVar) (y:(nest ts).den):Exit->Gam->Rho->Prop
 | .normal,G,R=>a1N B (dF G) (aQ R) ts rs y
 | .ret,G,R=>a1N B (dF G) (aQ R) ts rs y
 | _,_,_=>False
def wP:Nat->(ts:List Ty)->(nest ts).den->Gam
 | _,[],_=>[]
 | i,t::ts,x=>(i,.val t x.1)::wP (i+1) ts x.2
section
variable {B:Book} {W:World}
def AL (P:Program) (a:Act):ResultVar->Sem Value
 | .tmp t=>pure (a.tmps.getD t undef)
 | .cell s t=>do loadVar t (<-asAddr (a.tmps.getD s undef))
theorem a1u {P:Program} {w:World} {f:ResultVar->Sem Value}:∀ {rs:List ResultVar} {vs:List Value},kZ (fun r v=>(f r).run P w=.ok v w) rs vs->(rs.mapM f).run P w=.ok vs w
 | _,_,.nil=>by simp
 | _,_,.cons h1 h2=>by
  rw[List.mapM_cons,Sem.run_bind,h1]
  simp only[Result.andThen_ok,Sem.run_bind,a1u h2]
  rfl
theorem AP {P:Program} {fn:Func} {a:Act} {w:World} {vs:List Value} (h:kZ (fun r v=>(AL P a r).run P w=.ok v w) fn.results.toList vs):(results fn a.tmps).run P w=.ok (if h:vs.toArray.size=1 then vs.toArray[0] else .tuple vs.toArray) w:=by
 have e:results fn a.tmps=(do let us <-fn.results.mapM (AL P a);pure (if h:us.size=1 then us[0] else .tuple us)):=by
  unfold results
  congr 2
 rw[e,Array.mapM_eq_mapM_toList]
 simp only[Sem.run_bind,map_eq_pure_bind,a1u h,Result.andThen_ok,Sem.run_pure]
theorem WQ {G:Nat->K} {ρ:Nat->Res} {E:Env} {w:World} {a:Act} {t:Ty} {r:ResultVar} {p:Part} {l:List (Nat × Res)} (h:ZR B G ρ t r=some (p,l)) (hM:Mem E ρ W w) (hf:Fits E ρ w B a G) :
  ∃ v E',(AL B.P a r).run B.P w=.ok v w/\Mem E' (after ρ l) W w/\Ext E ρ w E' (after ρ l) w/\jY (fz w E') w p.t v p.x:=by
 cases r with
 | tmp s =>
  obtain⟨E',m1,m2,m3⟩:=qG h hM (hf.wf s) (hf.holds s)
  exact⟨_,E',rfl,m1,m2,m3⟩
 | cell s ty =>
  simp only[ZR] at h
  have hs:=hf.holds s
  have hs':a.tmps.getD s undef=a.eval (.tmp s):=rfl
  split at h<;>first|(cases h;done)|skip
  ·rename_i rr o hk
   rw[hk] at hs
   split at h<;>first|(cases h;done)|skip
   rename_i ps hr
   simp only[Option.map_eq_some_iff,Prod.mk.injEq] at h
   obtain⟨p',h1,rfl,rfl⟩:=h
   obtain⟨b,hb,hp⟩:=hs
   have hres:=hM.res rr
   rw[hr] at hres
   obtain⟨b',cs,e,k1,k3,k4⟩:=hres
   rw[hb] at k1;cases k1
   obtain⟨hft,c,hc,hrep⟩:=a1q h1 k4
   have hrg:w.rangeAt b o c:=fun j v hv=>by
    rw[cell_of_row _ _ _ _ _ _ k3,<-hv]
    simp only[List.getElem?_toArray]
    rw[<-hc,List.getElem?_take,if_pos (by have:=(List.getElem?_eq_some_iff.1 hv).1;exact this),List.getElem?_drop]
   refine⟨p'.t.toV c,E,?_,hM,Ext.refl _ _ _,c,rfl,hrep⟩
   simp only[AL,hs',hp,asAddr,Sem.run_bind,Sem.run_pure,Result.andThen_ok]
   exact kG hft hrg hrep
  ·rename_i u y hk
   rw[hk] at hs
   split at h<;>first|(cases h;done)|skip
   rename_i hft
   simp only[Option.some.injEq,Prod.mk.injEq] at h
   obtain⟨rfl,rfl⟩:=h
   obtain⟨b,o,ds,hp,k1,k2,k3⟩:=CV hs
   refine⟨u.toV ds,E,?_,hM,Ext.refl _ _ _,ds,rfl,k3⟩
   simp only[AL,hs',hp,asAddr,Sem.run_bind,Sem.run_pure,Result.andThen_ok]
   exact kG hft k2 k3
  ·rename_i rr hk
   rw[hk] at hs
   split at h<;>first|(cases h;done)|skip
   rename_i k9 hr
   split at h<;>first|(cases h;done)|skip
   rename_i ha
   obtain⟨q1,q2,b,u,e,q3,q4,q5,q6⟩:=hM.kbx rr k9 hr
   obtain⟨b',g1,g2⟩:=hs (by rw[hr];trivial)
   rw[g1] at q3;cases q3
   obtain⟨E',m1,m2,m3⟩:=qG h hM q1 q6
   refine⟨u,E',?_,m1,m2,m3⟩
   simp only[AL,hs',g2,asAddr,Sem.run_bind,Sem.run_pure,Result.andThen_ok]
   exact RV (by simpa using ha) (by rw[cell_of_row w _ _ _ _ _ q4];rfl)
theorem a5i {G:Nat->K} {w:World} {a:Act}:∀ {ts:List Ty} {rs:List ResultVar} {y:(nest ts).den} {ρ:Nat->Res} {E:Env},a1N B G ρ ts rs y->Mem E ρ W w->Fits E ρ w B a G ->
  ∃ vs E',kZ (fun r v=>(AL B.P a r).run B.P w=.ok v w) rs vs/\E'.fix=E.fix/\jO (fz w E') w ts vs y/\∀ q,fz w E q->fz w E' q
 | [],[],y,ρ,E,h,hM,hf=>⟨[],E,.nil,rfl,rfl,fun _ h=>h⟩
 | t::ts,r::rs,y,ρ,E,h,hM,hf=>by
  simp only[a1N] at h
  split at h<;>first|exact h.elim|skip
  rename_i p l h1
  split at h<;>first|exact h.elim|skip
  rename_i q hq
  obtain⟨hc,hy,h2⟩:=h
  obtain⟨v,E1,k1,m1,m2,m3⟩:=WQ h1 hM hf
  obtain⟨vs,E2,j1,j2,j3,j4⟩:=a5i h2 m1 ⟨hf.size,hf.defers,fun s=>m2.wf _ (hf.wf s),fun s=>m2.holds _ _ (hf.wf s) (hf.holds s),fun s hs=>by rw[m2.par];exact hf.par s hs⟩
  refine⟨v::vs,E2,.cons k1 j1,j2.trans m2.fix,⟨v,vs,rfl,?_,j3⟩,fun q hq=>j4 q (m2.fz q hq)⟩
  obtain⟨cs,rfl,hr⟩:=gB j4 (jQ.refl _ _) m3
  refine⟨cs,by unfold Ty.toV;rw[vP _ _ _ hq],?_⟩
  rw[<-hy]
  exact wS _ _ _ hq cs _ hr hc
 | [],_::_,y,ρ,E,h,hM,hf=>by simp[a1N] at h
 | _::_,[],y,ρ,E,h,hM,hf=>by simp[a1N] at h
theorem JC {F:Nat->Prop} {w:World}:∀ {ts:List Ty} {vs:List Value} {y:(nest ts).den},jO F w ts vs y->vs.length=ts.length
 | [],vs,y,h=>by rw[show vs=[] from h];rfl
 | t::ts,vs,y,⟨v,vs',h1,h2,h3⟩=>by rw[h1,List.length_cons,JC h3];rfl
theorem a9H {F:Nat->Prop} {w:World} {ts:List Ty} {vs:List Value} {y:(nest ts).den} (h:jO F w ts vs y):qA F w ts (if h:vs.toArray.size=1 then vs.toArray[0] else .tuple vs.toArray) y:=by
 have hl:=JC h
 match ts,y,h with
 | [t],y,⟨v,vs',h1,h2,h3⟩ =>
  have h3:vs'=[]:=h3
  subst h3
  subst h1
  exact h2
 | [],y,h =>
  have h:vs=[]:=h
  subst h
  exact⟨[],rfl,rfl⟩
 | t1::t2::ts,y,h =>
  refine⟨vs,?_,h⟩
  rw[dif_neg (by simp[hl])]
theorem sQ {F:Nat->Prop} {w:World} {E:Env} {ρ:Nat->Res} (hF:∀ q,F q->fz w E q):∀ {ts:List Ty} {vs:List Value} {x:(nest ts).den} (i s:Nat),jO F w ts vs x->(dF (wP i ts x) s).wf ρ/\(i<=s->(dF (wP i ts x) s).holds E ρ w (vs.getD (s-i) undef))/\(s<i->dF (wP i ts x) s=.any)
 | [],vs,x,i,s,h=>⟨trivial,fun _=>trivial,fun _=>rfl⟩
 | t::ts,vs,x,i,s,⟨v,vs',h1,h2,h3⟩=>by
  obtain⟨k1,k2,k3⟩:=sQ hF (i+1) s h3
  simp only[wP,dF]
  split
  ·rename_i e
   subst e
   refine⟨trivial,fun _=>?_,fun h=>by omega⟩
   rw[h1,Nat.sub_self]
   exact gB hF (jQ.refl _ _) h2
  ·rename_i e
   refine⟨k1,fun h=>?_,fun h=>k3 (by omega)⟩
   have:=k2 (by omega)
   rw[h1]
   have e2:s-i=(s-(i+1))+1:=by omega
   rw[e2,List.getD_cons_succ]
   exact this
theorem b3L (hB:B.Ok) (hm:B.P.follows .mixedOrders=true) {f:FuncId} {fn:Func} {code:Code} {c:Ctr} (hf:B.P.funcs[f]?=some fn) (hb:fn.body=some code) (hN:fn.ntmps=B.N) (hkeep:B.keep=fun _=>false) (hargs:c.args.length<=fn.ntmps) (A:(nest c.args).den->List Ann)
  (h:∀ x,c.pre x->vwp B code (A x) (b4O B c.res fn.results.toList (c.fn x)) (wP 0 c.args x) []):aT B.P f c:=by
 intro F w vs x hF hvs hpre
 have hl:=JC hvs
 let E:Env:=⟨fun _=>none,fun _=>undef,fun q=>F q\/w.heap.size<=q,fun _ _=>undef,fun _=>False,fun _=>undef⟩
 have hhas:∀ r j q,¬ E.has r j q:=fun r j q h=>by cases j<;>cases h
 have hFz:∀ q,F q->fz w E q:=fun q hq=>vT (hF q hq) (.inl hq) (fun r j=>hhas r j q)
 have hM:Mem E (aQ []) w w:=⟨⟨rfl,rfl,rfl,Nat.le_refl _,fun _ _ _=>rfl⟩,fun r=>rfl,fun r j r' j' b e=>(hhas r j b e).elim,fun r j b e=>(hhas r j b e).elim,fun q hq=>hq.elim (fun h=>h.elim) .inr,fun r i _=>rfl,fun r k e=>(by cases e),fun b o n h=>h⟩
 refine calls_of_wp hf hb (wp_mono (a3Z (W:=w) (base:=E.fix) hB hm code (h x hpre) ⟨E,rfl,hM,?_⟩) (fun e a w' hq=>?_))
 ·refine⟨by simp[hN];omega,rfl,fun s=>(sQ hFz 0 s hvs).1,fun s=>?_,fun s hs=>by rw[hkeep] at hs;cases hs⟩
  have h1:=(sQ (ρ:=aQ []) hFz 0 s hvs).2.1 (Nat.zero_le _)
  rw[Nat.sub_zero] at h1
  by_cases hs:s<vs.length
  ·have:(({ tmps:=vs.toArray++Array.replicate (fn.ntmps-vs.toArray.size) undef,defers:=[] }:Act).eval (.tmp s))=vs.getD s undef:=by
    simp[Act.eval,Array.getD_eq_getD_getElem?,Array.getElem?_append,hs]
   rw[this];exact h1
  ·have hany:dF (wP 0 c.args x) s=.any:=by
    have:∀ (ts:List Ty) (x:(nest ts).den) (i:Nat),i+ts.length<=s->dF (wP i ts x) s=.any:=by
     intro ts
     induction ts with
     | nil=>intro x i _;rfl
     | cons t ts ih =>
      intro x i hi
      simp only[List.length_cons] at hi
      simp only[wP,dF]
      rw[if_neg (by omega)]
      exact ih x.2 (i+1) (by omega)
    exact this c.args x 0 (by omega)
   rw[hany];trivial
 ·obtain⟨G',R',k1,_,E',k2,k3,k4⟩:=hq
  have fin:a1N B (dF G') (aQ R') c.res fn.results.toList (c.fn x)->a.defers=[]/\∃ v,(results fn a.tmps).run B.P w'=.ok v w'/\∃ v',Ending.returned v=.returned v'/\qA (newF F w w') w' c.res v' (c.fn x)/\Below w.heap.size w w':=fun hr=>by
   obtain⟨us,E2,j1,j2,j3,_⟩:=a5i hr k3 k4
   refine⟨k4.defers,_,AP j1,_,rfl,a9H (kJ (fun q hq=>⟨?_,hq.1.1⟩) (jQ.refl _ _) _ _ _ j3),k3.below.below (fun q=>by rw[show E'.oO=E.oO from congrArg Fix.oO k2];exact id)⟩
   have:=hq.1.2
   rw[show E2.base=E.base from(congrArg Fix.base j2).trans (congrArg Fix.base k2)] at this
   exact this
  cases e with
  | normal=>exact fin k1
  | ret=>exact fin k1
  | exit i=>exact k1.elim
  | goto l=>exact k1.elim
  | panic ch=>exact k1.elim
  | outgrown=>exact k1.elim
end
end
section
set_option linter.unusedSimpArgs false
set_option linter.unusedVariables false
set_option maxRecDepth 20000
def lkP:(k:LK)->k.ty.den->Nat->Res->Prop
 | .row e t,y,v,.row e' t' xs v'=>match jT (.list t') (.list t) xs with
  | some ys=>if e'==e&&gv v'==gv v then y=ys else False
  | none=>False
 | .mat e e2 t,y,v,.mat e' e2' t' none xss v'=>match jT (.list (.list t')) (.list (.list t)) xss with
  | some yss=>if e'==e&&e2'==e2&&gv v'==gv v then y=yss else False
  | none=>False
 | _,_,_,_=>False
def lkG (k:LK) (y:k.ty.den) (ρ:Nat->Res) (only:Option Nat):K->Prop
 | .own r v=>if only.all (fun q=>q==r) then lkP k y v (ρ r) else False
 | _=>False
def mkP (k:LK) (y:k.ty.den) (G:Nat->K) (ρ:Nat->Res):List ResultVar->Prop
 | [.tmp s]=>lkG k y ρ none (G s)
 | _=>False
def b9Q (k:LK) (y:k.ty.den) (rs:List ResultVar):Exit->Gam->Rho->Prop
 | .normal,G,R=>mkP k y (dF G) (aQ R) rs
 | .ret,G,R=>mkP k y (dF G) (aQ R) rs
 | _,_,_=>False
def a1M (B:Book) (k:LK) (x:k.ty.den) (G:Nat->K):(Nat->Res)->(ts:List Ty)->List ResultVar->(nest ts).den->Prop
 | ρ,[],[],_=>lkG k x ρ (some 0) (G 0)
 | ρ,t::ts,r::rs,y=>match ZR B G ρ t r with
  | some (p,l)=>match nV p.t t with
   | some q=>aV (q.c p.x)/\q.f p.x=y.1/\a1M B k x G (after ρ l) ts rs y.2
   | none=>False
  | none=>False
 | _,_,_,_=>False
def b9R (B:Book) (k:LK) (x:k.ty.den) (ts:List Ty) (rs:List ResultVar) (y:(nest ts).den):Exit->Gam->Rho->Prop
 | .normal,G,R=>a1M B k x (dF G) (aQ R) ts rs y
 | .ret,G,R=>a1M B k x (dF G) (aQ R) ts rs y
 | _,_,_=>False
section
variable {B:Book} {W:World}
theorem b4v {k:LK} {y:k.ty.den} {v:Nat} {x:Res} (h:lkP k y v x):∃ v0,x=k.res y v0/\Res.isRow v x:=by
 cases k with
 | row e t =>
  cases x<;>first|exact h.elim|skip
  rename_i e' t' xs v'
  simp only[lkP] at h
  split at h<;>first|exact h.elim|skip
  rename_i ys hc
  split at h<;>first|exact h.elim|skip
  rename_i hb
  simp only[Bool.and_eq_true,beq_iff_eq] at hb
  obtain⟨rfl,hb⟩:=hb
  obtain⟨e9,hc⟩:=fH hc
  simp only[Ty.list.injEq] at e9
  subst e9
  have hc:xs=ys:=hc
  subst hc
  subst h
  exact⟨v',rfl,hb⟩
 | mat e e2 t =>
  cases x<;>first|exact h.elim|skip
  rename_i e' e2' t' ids xss v'
  cases ids<;>first|exact h.elim|skip
  simp only[lkP] at h
  split at h<;>first|exact h.elim|skip
  rename_i yss hc
  split at h<;>first|exact h.elim|skip
  rename_i hb
  simp only[Bool.and_eq_true,beq_iff_eq] at hb
  obtain⟨⟨rfl,rfl⟩,hb⟩:=hb
  obtain⟨e9,hc⟩:=fH hc
  simp only[Ty.list.injEq] at e9
  subst e9
  have hc:xss=yss:=hc
  subst hc
  subst h
  exact⟨v',rfl,hb⟩
theorem a8L {k:LK} {y:k.ty.den} {ρ:Nat->Res} {o:Option Nat} {k0:K} {E:Env} {w:World} {v:Value} (h:lkG k y ρ o k0) (hk:k0.holds E ρ w v):∃ r v0,o.all (fun q=>q==r)=true/\ρ r=k.res y v0/\v=E.sl r:=by
 cases k0<;>first|exact h.elim|skip
 rename_i r ver
 simp only[lkG] at h
 split at h<;>first|exact h.elim|skip
 rename_i ho
 obtain⟨v0,h1,h2⟩:=b4v h
 exact⟨r,v0,ho,h1,hk h2⟩
theorem a5h {G:Nat->K} {w:World} {a:Act} {k:LK} {x:k.ty.den}:∀ {ts:List Ty} {rs:List ResultVar} {y:(nest ts).den} {ρ:Nat->Res} {E:Env},a1M B k x G ρ ts rs y->Mem E ρ W w->Fits E ρ w B a G ->
  ∃ vs E' ρ' v0,kZ (fun r v=>(AL B.P a r).run B.P w=.ok v w) rs vs/\E'.fix=E.fix/\Mem E' ρ' W w/\jO (fz w E') w ts vs y/\ρ' 0=k.res x v0/\a.eval (.tmp 0)=E'.sl 0/\∀ q,fz w E q->fz w E' q
 | [],[],y,ρ,E,h,hM,hf=>by
  obtain⟨r,v0,h1,h2,h3⟩:=a8L h (hf.holds 0)
  have h1:0=r:=by simpa using h1
  subst h1
  exact⟨[],E,ρ,v0,.nil,rfl,hM,rfl,h2,h3,fun _ h=>h⟩
 | t::ts,r::rs,y,ρ,E,h,hM,hf=>by
  simp only[a1M] at h
  split at h<;>first|exact h.elim|skip
  rename_i p l h1
  split at h<;>first|exact h.elim|skip
  rename_i q hq
  obtain⟨hc,hy,h2⟩:=h
  obtain⟨v,E1,k1,m1,m2,m3⟩:=WQ h1 hM hf
  obtain⟨vs,E2,ρ2,v0,j1,j2,j5,j3,j6,j7,j4⟩:=a5h h2 m1 ⟨hf.size,hf.defers,fun s=>m2.wf _ (hf.wf s),fun s=>m2.holds _ _ (hf.wf s) (hf.holds s),fun s hs=>by rw[m2.par];exact hf.par s hs⟩
  refine⟨v::vs,E2,ρ2,v0,.cons k1 j1,j2.trans m2.fix,j5,⟨v,vs,rfl,?_,j3⟩,j6,j7,fun q hq=>j4 q (m2.fz q hq)⟩
  obtain⟨cs,rfl,hr⟩:=gB j4 (jQ.refl _ _) m3
  refine⟨cs,by unfold Ty.toV;rw[vP _ _ _ hq],?_⟩
  rw[<-hy]
  exact wS _ _ _ hq cs _ hr hc
 | [],_::_,y,ρ,E,h,hM,hf=>by simp[a1M] at h
 | _::_,[],y,ρ,E,h,hM,hf=>by simp[a1M] at h
theorem PG:∀ (ts:List Ty) (x:(nest ts).den) (i s:Nat),i+ts.length<=s->dF (wP i ts x) s=.any
 | [],x,i,s,_=>rfl
 | t::ts,x,i,s,hi=>by
  simp only[List.length_cons] at hi
  simp only[wP,dF]
  rw[if_neg (by omega)]
  exact PG ts x.2 (i+1) s (by omega)
theorem b4E (hB:B.Ok) (hm:B.P.follows .mixedOrders=true) {f:FuncId} {fn:Func} {code:Code} {k:LK} {args:List Ty} {pre:(nest args).den->Prop} {made:(nest args).den->k.ty.den} (hf:B.P.funcs[f]?=some fn) (hb:fn.body=some code) (hN:fn.ntmps=B.N) (hkeep:B.keep=fun _=>false) (hargs:args.length<=fn.ntmps) (A:(nest args).den->List Ann)
  (h:∀ x,pre x->vwp B code (A x) (b9Q k (made x) fn.results.toList) (wP 0 args x) []):NOk B.P f (.mk k args pre made):=by
 intro F w vs x hF hvs hpre
 have hl:=JC hvs
 let E:Env:=⟨fun _=>none,fun _=>undef,fun q=>F q\/w.heap.size<=q,fun _ _=>undef,fun _=>False,fun _=>undef⟩
 have hhas:∀ r j q,¬ E.has r j q:=fun r j q h=>by cases j<;>cases h
 have hFz:∀ q,F q->fz w E q:=fun q hq=>vT (hF q hq) (.inl hq) (fun r j=>hhas r j q)
 have hM:Mem E (aQ []) w w:=⟨⟨rfl,rfl,rfl,Nat.le_refl _,fun _ _ _=>rfl⟩,fun r=>rfl,fun r j r' j' b e=>(hhas r j b e).elim,fun r j b e=>(hhas r j b e).elim,fun q hq=>hq.elim (fun h=>h.elim) .inr,fun r i _=>rfl,fun r k e=>(by cases e),fun b o n h=>h⟩
 refine calls_of_wp hf hb (wp_mono (a3Z (W:=w) (base:=E.fix) hB hm code (h x hpre) ⟨E,rfl,hM,?_⟩) (fun e a w' hq=>?_))
 ·refine⟨by simp[hN];omega,rfl,fun s=>(sQ hFz 0 s hvs).1,fun s=>?_,fun s hs=>by rw[hkeep] at hs;cases hs⟩
  have h1:=(sQ (ρ:=aQ []) hFz 0 s hvs).2.1 (Nat.zero_le _)
  rw[Nat.sub_zero] at h1
  by_cases hs:s<vs.length
  ·have:(({ tmps:=vs.toArray++Array.replicate (fn.ntmps-vs.toArray.size) undef,defers:=[] }:Act).eval (.tmp s))=vs.getD s undef:=by
    simp[Act.eval,Array.getD_eq_getD_getElem?,Array.getElem?_append,hs]
   rw[this];exact h1
  ·rw[PG args x 0 s (by omega)];trivial
 ·obtain⟨G',R',k1,_,E',k2,k3,k4⟩:=hq
  have fin:mkP k (made x) (dF G') (aQ R') fn.results.toList->a.defers=[]/\∃ v,(results fn a.tmps).run B.P w'=.ok v w'/\∃ v' E1 ρ1 q v0,Ending.returned v=.returned v'/\Mem E1 ρ1 w w'/\(∀ q,¬ E1.oO q)/\ρ1 q=k.res (made x) v0/\v'=E1.sl q:=fun hr=>by
   match hrs:fn.results.toList,hr with
   | [.tmp s],hr =>
    obtain⟨r,v0,_,h2,h3⟩:=a8L hr (k4.holds s)
    refine⟨k4.defers,_,AP (vs:=[a.eval (.tmp s)]) (by rw[hrs];exact .cons rfl .nil),_,E',aQ R',r,v0,rfl,k3,fun q=>?_,h2,h3⟩
    rw[show E'.oO=E.oO from congrArg Fix.oO k2]
    exact id
  cases e with
  | normal=>exact fin k1
  | ret=>exact fin k1
  | exit i=>exact k1.elim
  | goto l=>exact k1.elim
  | panic ch=>exact k1.elim
  | outgrown=>exact k1.elim
theorem b1S (hB:B.Ok) (hm:B.P.follows .mixedOrders=true) {f:FuncId} {fn:Func} {code:Code} {k:LK} {args res:List Ty} {pre:k.ty.den->(nest args).den->Prop} {out:k.ty.den->(nest args).den->k.ty.den} {g:k.ty.den->(nest args).den->(nest res).den} (hf:B.P.funcs[f]?=some fn) (hb:fn.body=some code) (hN:fn.ntmps=B.N) (hkeep:B.keep=fun s=>s==0) (hargs:args.length+1<=fn.ntmps) (A:k.ty.den->(nest args).den->List Ann)
  (h:∀ x y,pre x y->vwp B code (A x y) (b9R B k (out x y) res fn.results.toList (g x y)) ((0,.own 0 0)::wP 1 args y) [(0,k.res x 0)]):NOk B.P f (.chg k args res pre out g):=by
 intro F w s I vs x y hF hM hvs hpre
 have hl:=JC hvs
 have hR:aQ [(0,k.res x 0)]=a1B (k.res x 0):=by
  funext r
  simp only[aQ,a1B]
 have hhas:∀ r j q,(Env.of F w s I).has r j q->zU s I q:=fun r j q h=>by
  cases j with
  | zero =>
   have h:(if r=0 then bV s else none)=some q:=h
   split at h
   ·exact .inl h
   ·cases h
  | succ i =>
   have h:bV (if r=0 then I i else undef)=some q:=h
   split at h
   ·exact .inr ⟨i,h⟩
   ·cases h
 have hFz:∀ q,F q->fz w (Env.of F w s I) q:=fun q hq=>vT (hF q hq).1 (.inl hq) (fun r j h=>(hF q hq).2 (hhas r j q h))
 have hev:∀ q,q<(s::vs).length->(({ tmps:=(s::vs).toArray++Array.replicate (fn.ntmps-(s::vs).toArray.size) undef,defers:=[] }:Act).eval (.tmp q))=(s::vs).getD q undef:=fun q hq=>by
  simp only[Act.eval,Array.getD_eq_getD_getElem?,List.getD_eq_getElem?_getD]
  rw[Array.getElem?_append_left (by simpa using hq)]
  simp
 refine calls_of_wp hf hb (wp_mono (a3Z (W:=w) (base:=(Env.of F w s I).fix) hB hm code (h x y hpre) ⟨Env.of F w s I,rfl,by rw[hR];exact hM,?_⟩) (fun e a w' hq=>?_))
 ·refine⟨by simp[hN];omega,rfl,fun q=>?_,fun q=>?_,fun q hq=>?_⟩
  ·by_cases e:q=0
   ·subst e
    show Res.fB 0 (aQ [(0,k.res x 0)] 0)
    cases k<;>exact Nat.zero_le _
   ·show (dF ((0,.own 0 0)::wP 1 args y) q).wf _
    simp only[dF]
    rw[if_neg e]
    exact(sQ hFz 1 q hvs).1
  ·by_cases e:q=0
   ·subst e
    rw[hev 0 (by simp)]
    intro _
    rfl
   ·show (dF ((0,.own 0 0)::wP 1 args y) q).holds _ _ _ _
    simp only[dF]
    rw[if_neg e]
    by_cases hs:q<(s::vs).length
    ·rw[hev q hs]
     have h1:=(sQ (ρ:=aQ [(0,k.res x 0)]) hFz 1 q hvs).2.1 (by omega)
     have e2:q=(q-1)+1:=by omega
     rw[e2,List.getD_cons_succ]
     rw[<-e2]
     exact h1
    ·simp only[List.length_cons] at hs
     rw[PG args y 1 q (by omega)];trivial
  ·rw[hkeep] at hq
   have hq:q=0:=by simpa using hq
   subst hq
   exact hev 0 (by simp)
 ·obtain⟨G',R',k1,_,E',k2,k3,k4⟩:=hq
  have fin:a1M B k (out x y) (dF G') (aQ R') res fn.results.toList (g x y)->a.defers=[]/\∃ v,(results fn a.tmps).run B.P w'=.ok v w'/\∃ v' E1 ρ1 v0,Ending.returned v=.returned v'/\Mem E1 ρ1 w w'/\E1.base=(Env.of F w s I).base/\E1.oO=zU s I/\ρ1 0=k.res (out x y) v0/\E1.sl 0=s/\qA (fz w' E1) w' res v' (g x y):=fun hr=>by
   obtain⟨us,E2,ρ2,v0,j1,j2,j5,j3,j6,j7,_⟩:=a5h hr k3 k4
   have hp:=k4.par 0 (by rw[hkeep];rfl)
   refine⟨k4.defers,_,AP j1,_,E2,ρ2,v0,rfl,j5,congrArg Fix.base (j2.trans k2),congrArg Fix.oO (j2.trans k2),j6,?_,a9H j3⟩
   rw[<-j7,hp,show E'.par=(Env.of F w s I).par from congrArg Fix.par k2]
   rfl
  cases e with
  | normal=>exact fin k1
  | ret=>exact fin k1
  | exit i=>exact k1.elim
  | goto l=>exact k1.elim
  | panic ch=>exact k1.elim
  | outgrown=>exact k1.elim
end
end
end Go.Proofs.YtgplhbhfdgempaaGreat
