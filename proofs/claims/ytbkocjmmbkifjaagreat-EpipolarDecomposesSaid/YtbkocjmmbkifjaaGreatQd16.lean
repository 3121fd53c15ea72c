/-
  Lemmas for the theorem vdecomposes28_holds, part 16 of 34.
-/
import Derived.Test.YtbkocjmmbkifjaaGreatQd15
namespace Go.Proofs.YtbkocjmmbkifjaaGreat
open Go Go.RowKit
section
set_option linter.unusedSimpArgs false
set_option linter.unusedVariables false
set_option maxRecDepth 20000
def a6h (n:Gam->Rho->Prop) (Q:Exit->Gam->Rho->Prop):Exit->Gam->Rho->Prop
 | .normal,G,R=>n G R
 | e,G,R=>Q e G R
def a8k (id:Nat) (Q:Exit->Gam->Rho->Prop):Exit->Gam->Rho->Prop
 | .exit i,G,R=>if i=id then Q .normal G R else Q (.exit i) G R
 | e,G,R=>Q e G R
inductive Ann:Type 1 where
 | inv (ι:Type) (S:ι->Gam) (Z:ι->Rho) (m:ι->Nat) (i0:ι) (sub:ι->List Ann)
 | rounds (n:Nat) (l:List Nat) (sub:List Ann)
 | turns (n:Nat) (l k:List Nat) (sub:List Ann)
def nl:Code->Nat
 | .seq a b=>nl a+nl b
 | .cond _ a b=>nl a+nl b
 | .block _ c=>nl c
 | .loop _=>1
 | _=>0
def a0H (F:(Exit->Gam->Rho->Prop)->Gam->Rho->Prop) (l:List Nat) (Q:Exit->Gam->Rho->Prop):Nat->Gam->Rho->Prop
 | 0,_,_=>False
 | n+1,G,R=>F (a6h (fun G R=>a0H F l Q n (cut l G) R) Q) G R
def b1j:Res->Res
 | .row e t xs _=>.row e t xs 0
 | .fro t xs _=>.fro t xs 0
 | .mat e e2 t ids xss _=>.mat e e2 t ids xss 0
 | .kJ k=>.kJ (iW k)
 | x=>x
def YR (G:Gam):List Nat->Gam
 | []=>[]
 | s::l=>match (aY G s).res with
  | []=>YR G l
  | _=>(s,iW (aY G s))::YR G l
def b2l (R:Rho):List Nat->Rho
 | []=>[]
 | r::k=>(r,b1j (aS R r))::b2l R k
def less (l k:List Nat):List Nat:=l.filter fun s=>!k.contains s
def LV:K->Bool
 | .any=>true
 | _=>false
theorem LW {k:K}:LV k=true↔k=.any:=by cases k<;>simp[LV]
def c1n (S:Gam) (l:List Nat):Bool:=S.all fun p=>l.contains p.1 || LV p.2
def Res.AL:Res->Bool
 | .box _=>true
 | _=>false
def NP (v:Nat):Res->Bool
 | .mat _ _ _ _ _ v'=>v'==v
 | _=>false
def Res.vV:Res->Bool
 | .kJ _=>true
 | _=>false
def Res.a1N:Res->Bool
 | .kJ _=>true
 | .gone=>true
 | _=>false
theorem Res.xY {x:Res}:x.vV=true↔x.mJ:=by cases x<;>simp[Res.vV,Res.mJ]
theorem Res.a1O {x:Res} (h:x.a1N=true):x.EI:=by cases x<;>simp_all [Res.a1N,Res.EI]
theorem JI {v:Nat} {x:Res} (h:NP v x=true):Res.mY v x:=by cases x<;>simp_all [NP,Res.mY]
theorem Res.sU {x:Res} (h:x.AL=true):x.nV:=by cases x<;>simp_all [Res.AL,Res.nV]
def b0i (R R':Rho):K->K->Bool
 | _,.any=>true
 | .nil,.nil=>true
 | .ptr r o,.ptr r' o'=>r==r'&&o==o'&&(aS R r).AL&&(aS R' r).AL
 | .own r v,.own r' v'=>r==r'&&v'==0&&BL v (aS R r)&&BL 0 (aS R' r)
 | .lY r,.lY r'=>r==r'&&(aS R' r).a1N&&(!(aS R' r).vV || (aS R r).vV)
 | _,_=>false
theorem b3P {R R':Rho}:∀ {k k':K},b0i R R' k k'=true->leK R R' k k'
 | k,.any,_=>by cases k<;>trivial
 | .nil,.nil,_=>trivial
 | .ptr r o,.ptr r' o',h=>by
  simp only[b0i,ay,jl] at h
  exact⟨h.1.1.1,h.1.1.2,Res.sU h.1.2,Res.sU h.2⟩
 | .own r v,.own r' v',h=>by
  simp only[b0i,ay,jl] at h
  obtain⟨⟨⟨h1,h2⟩,h3⟩,h4⟩:=h
  subst h2
  simp only[leK]
  exact⟨h1,trivial,uV h3,uV h4⟩
 | .lY r,.lY r',h=>by
  simp only[b0i,ay,jl,Bool.or_eq_true,yc] at h
  obtain⟨⟨h1,h2⟩,h3⟩:=h
  refine⟨h1,Res.a1O h2,fun hb=>?_⟩
  have:=Res.xY.2 hb
  rw[this] at h3
  exact Res.xY.1 (h3.resolve_left (by simp))
noncomputable def eqC (t t':Ty) (x:t.den) (y:t'.den):List Cd:=if h:t=t' then [h ▸ x=y] else [False]
theorem xQ {t t':Ty} {x:t.den} {y:t'.den} (h:dH (eqC t t' x y)):fZ t t' x=some y:=by
 unfold eqC at h
 split at h
 ·rename_i e
  subst e
  unfold fZ
  rw[dif_pos rfl]
  exact ql some h.1
 ·exact h.1.elim
def b7C (ids qJ:Option (List Nat)):List Cd:=match ids,qJ with
 | none,none=>[]
 | some l,some l'=>[l=l']
 | _,_=>[False]
theorem b3H {ids qJ:Option (List Nat)} (h:dH (b7C ids qJ)):ids=qJ:=by
 unfold b7C at h
 split at h
 ·rfl
 ·rw[h.1]
 ·exact h.1.elim
def a5V:Res->Res->List Cd
 | .mat _ _ _ ids xss _,.mat _ _ _ qJ yss _=>(xss.length=yss.length)::b7C ids qJ
 | _,_=>[False]
theorem a2t {x y:Res} (h:dH (a5V x y)):QC x y:=by
 unfold a5V at h
 split at h
 ·exact⟨b3H h.2,h.1⟩
 ·exact h.1.elim
noncomputable def SV (R R':Rho):List K0->List K0->List Cd
 | [],[]=>[]
 | .val t x::ks,.val t' y::ks'=>eqC t t' x y++SV R R' ks ks'
 | .ptr r o::ks,.ptr r' o'::ks'=>if r==r'&&o==o'&&(aS R r).AL&&(aS R' r).AL then SV R R' ks ks' else [False]
 | .lY r::ks,.lY r'::ks'=>if r==r'&&(aS R' r).a1N&&(!(aS R' r).vV || (aS R r).vV) then SV R R' ks ks' else [False]
 | _,_=>[False]
theorem b3O {R R':Rho} {r r':Nat} (h:(r==r'&&(aS R' r).a1N&&(!(aS R' r).vV || (aS R r).vV))=true):r=r'/\(aS R' r).EI/\((aS R' r).mJ->(aS R r).mJ):=by
 simp only[ay,jl,Bool.or_eq_true,yc] at h
 obtain⟨⟨h1,h2⟩,h3⟩:=h
 refine⟨h1,Res.a1O h2,fun hb=>?_⟩
 have:=Res.xY.2 hb
 rw[this] at h3
 exact Res.xY.1 (h3.resolve_left (by simp))
theorem JF {R R':Rho}:∀ {ks ks':List K0},dH (SV R R' ks ks')->SX R R' ks ks'
 | [],[],_=>trivial
 | k::ks,[],h=>by cases k<;>exact h.1.elim
 | [],k::ks,h=>h.1.elim
 | k::ks,k'::ks',h=>by
  cases k<;>cases k'<;>first|exact h.1.elim|skip
  ·exact⟨xQ (dG.1 h).1,JF (dG.1 h).2⟩
  ·simp only[SV] at h
   split at h<;>first|exact h.1.elim|skip
   rename_i hb
   simp only[ay,jl] at hb
   exact⟨⟨hb.1.1.1,hb.1.1.2,Res.sU hb.1.2,Res.sU hb.2⟩,JF h⟩
  ·simp only[SV] at h
   split at h<;>first|exact h.1.elim|skip
   rename_i hb
   exact⟨b3O hb,JF h⟩
noncomputable def a7d (R R':Rho) (k k':K):List Cd:=if b0i R R' k k' then [] else match k,k' with
 | .val t x,.val t' y=>eqC t t' x y
 | .fn g ks,.fn g' ks'=>if g==g' then SV R R' ks ks' else [False]
 | .cell r v i,.cell r' v' i'=>if r==r'&&v'==0&&BL v (aS R r)&&BL 0 (aS R' r)&&(aS R r).esz==(aS R' r).esz then [i=i'] else [False]
 | .mrow r v i,.mrow r' v' i'=>if r==r'&&v'==0&&NP v (aS R r)&&NP 0 (aS R' r) then (i=i')::a5V (aS R r) (aS R' r) else [False]
 | .mpos r v i j,.mpos r' v' i' j'=>if r==r'&&v'==0&&NP v (aS R r)&&NP 0 (aS R' r)&&(aS R r).msz==(aS R' r).msz then (i=i')::(j=j')::a5V (aS R r) (aS R' r) else [False]
 | k,k'=>[leK R R' k k']
theorem a0i {R R':Rho} {k k':K} (h:dH (a7d R R' k k')):leK R R' k k':=by
 unfold a7d at h
 split at h
 ·rename_i e;exact b3P e
 ·split at h
  ·exact xQ h
  ·split at h<;>first|exact h.1.elim|skip
   rename_i hb
   exact⟨by simpa using hb,JF h⟩
  ·split at h<;>first|exact h.1.elim|skip
   rename_i hb
   simp only[ay,jl] at hb
   obtain⟨⟨⟨⟨h1,h2⟩,h3⟩,h4⟩,h5⟩:=hb
   exact⟨h1,h.1,h2,uV h3,uV h4,h5⟩
  ·split at h<;>first|exact h.1.elim|skip
   rename_i hb
   simp only[ay,jl] at hb
   obtain⟨⟨⟨h1,h2⟩,h3⟩,h4⟩:=hb
   exact⟨h1,h.1,h2,JI h3,JI h4,a2t h.2⟩
  ·split at h<;>first|exact h.1.elim|skip
   rename_i hb
   simp only[ay,jl] at hb
   obtain⟨⟨⟨⟨h1,h2⟩,h3⟩,h4⟩,h5⟩:=hb
   exact⟨⟨h1,h.1,h.2.1,h2,JI h3,JI h4⟩,a2t h.2.2,h5⟩
  ·exact h.1
noncomputable def b7F:List Part->List Part->List Cd
 | [],[]=>[]
 | p::ps,q::qs=>eqC p.t q.t p.x q.x++b7F ps qs
 | _,_=>[False]
theorem a5n:∀ {ps qs:List Part},dH (b7F ps qs)->leP ps qs
 | [],[],_=>trivial
 | p::ps,q::qs,h=>⟨xQ (dG.1 h).1,a5n (dG.1 h).2⟩
 | [],_::_,h=>h.1.elim
 | _::_,[],h=>h.1.elim
noncomputable def b7E {t t':Ty} (ids qJ:Option (List Nat)) (xss:List (List t.den)) (yss:List (List t'.den)):List Cd:=match ids,qJ with
 | some l,none=>l.Nodup::eqC (.list (.list t)) (.list (.list t')) (l.map fun i=>xss.getD i []) yss
 | none,none=>eqC (.list (.list t)) (.list (.list t')) xss yss
 | some l,some l'=>(l=l')::eqC (.list (.list t)) (.list (.list t')) xss yss
 | none,some _=>[False]
theorem b3R {t t':Ty} {ids qJ:Option (List Nat)} {xss:List (List t.den)} {yss:List (List t'.den)} (h:dH (b7E ids qJ xss yss)):leM ids qJ xss yss:=by
 cases ids<;>cases qJ<;>simp only[b7E] at h
 ·exact⟨rfl,xQ h⟩
 ·exact h.1.elim
 ·exact⟨h.1,xQ h.2⟩
 ·exact⟨by rw[h.1],xQ h.2⟩
noncomputable def b3S (R R':Rho):Res->Res->List Cd
 | _,.none=>[]
 | .box ps,.box qs=>b7F ps qs
 | .row e t xs _,.row e' t' ys v=>if e=e'/\v=0 then eqC (.list t) (.list t') xs ys else [False]
 | .mat e _ t none xss _,.row e' t' ys v=>if e=e'/\v=0 then eqC (.list (.list t)) (.list t') xss ys else [False]
 | .fro t xs _,.fro t' ys v=>if v=0 then eqC (.list t) (.list t') xs ys else [False]
 | .mat e e2 t ids xss _,.mat e' e2' t' qJ yss v=>if e=e'/\e2=e2'/\v=0 then b7E ids qJ xss yss else [False]
 | .kJ k,.kJ k'=>if k'.one then a7d R R' k k' else [False]
 | .kJ _,.gone=>[]
 | .gone,.gone=>[]
 | x,y=>[leR R R' x y]
theorem b3T {R R':Rho} {x y:Res} (h:dH (b3S R R' x y)):leR R R' x y:=by
 unfold b3S at h
 split at h
 ·cases x<;>trivial
 ·exact a5n h
 ·split at h
  ·rename_i hh;exact⟨hh.1,hh.2,xQ h⟩
  ·exact h.1.elim
 ·split at h
  ·rename_i hh;exact⟨hh.1,hh.2,xQ h⟩
  ·exact h.1.elim
 ·split at h
  ·rename_i hh;exact⟨hh,xQ h⟩
  ·exact h.1.elim
 ·split at h
  ·rename_i hh;exact⟨hh.1,hh.2.1,hh.2.2,b3R h⟩
  ·exact h.1.elim
 ·split at h
  ·rename_i hh;exact⟨hh,a0i h⟩
  ·exact h.1.elim
 ·trivial
 ·trivial
 ·exact h.1
noncomputable def b3Q (G:Gam) (R:Rho) (S:Gam) (Z:Rho) (l:List Nat):List Cd :=
 S.flatMap (fun p=>a7d R Z (aY G p.1) p.2)++(cut (S.map (·.1)++l) G).flatMap (fun p=>if (aY G p.1).res.isEmpty then [] else a7d R Z (aY G p.1) (iW (aY G p.1)))++Z.flatMap (fun p=>b3S R Z (aS R p.1) p.2)
theorem a0j {G:Gam} {R:Rho} {S:Gam} {Z:Rho} {l:List Nat} (h:dH (b3Q G R S Z l)):leL G R S Z l:=by
 obtain⟨h12,h3⟩:=dG.1 h
 obtain⟨h1,h2⟩:=dG.1 h12
 refine⟨fun p hp=>a0i (sO (f:=fun p=>a7d R Z (aY G p.1) p.2) h1 hp),fun p hp=>?_,fun p hp=>b3T (sO (f:=fun p=>b3S R Z (aS R p.1) p.2) h3 hp)⟩
 by_cases e:(aY G p.1).res.isEmpty=true
 ·exact .inl e
 ·have:=sO h2 hp
  rw[eu e] at this
  exact .inr (a0i this)
def c1m (R:Rho):K->Bool
 | .own r v=>!BL v (aS R r)
 | .cell r v _=>!BL v (aS R r)
 | .mrow r v _=>!NP v (aS R r)
 | .mpos r v _ _=>!NP v (aS R r)
 | _=>false
def RP (G:Gam) (R:Rho) (zs:List Nat):List Nat:=(G.filter fun p=>(aY G p.1).res.any (fun r=>!zs.contains r) || c1m R (aY G p.1)).map (·.1)
def b6a (G G':Gam) (l:List Nat):Bool:=(cut l G).all fun p=>LV (iW (aY G p.1)) || !LV (iW (aY G' p.1))
def a9A (G G':Gam) (l:List Nat):List Cd:=if b6a G G' l then [] else [False]
noncomputable def a4l (F:(Exit->Gam->Rho->Prop)->Gam->Rho->Prop) (L l k:List Nat) (Q:Exit->Gam->Rho->Prop):Nat->Gam->Rho->Prop
 | 0,_,_=>False
 | n+1,G,R=>F (a6h (fun G R=>dH (b3Q G R (YR G l) (b2l R k) (less L l++RP G R k))/\c1n (YR G l) L=true/\a4l F L l k Q n (YR G l++qN (cut ((YR G l).map (·.1)++(less L l++RP G R k)) G)) (b2l R k)) Q) G R
def ifB (b:Bool) (p q:Prop):Prop:=match b with
 | true=>p
 | false=>q
theorem jS {b:Bool} {p q:Prop}:ifB b p q↔(b=true->p)/\(b=false->q):=by cases b<;>simp[ifB]
def one1 (B:Book) (G:Gam):Code->Option (Option (Nat × K))
 | .skip=>some none
 | .region _ ops false=>match ops.toList with
  | [o]=>match o.op,o.dst,o.guard with
   | .assign x,some d,none=>if a8Y B (some d) then some (some (d,opK (jH (tmpsOf (.assign x)) (aY G)) x)) else none
   | _,_,_=>none
  | _=>none
 | _=>none
def a1Y (b:Bool):K->K->K
 | .val t x,.val t' y=>match fZ t t' x with
  | some x=>.val t' (bif b then x else y)
  | none=>.any
 | _,_=>.any
def XJ (b:Bool) (G:Gam):Option (Nat × K)->Option (Nat × K)->Option (Nat × K)
 | some (d,k),none=>some (d,a1Y b k (aY G d))
 | none,some (d,k)=>some (d,a1Y b (aY G d) k)
 | some (d,k),some (d',k')=>if d=d' then some (d,a1Y b k k') else none
 | none,none=>none
def named (Q:Gam->Prop) (G:Gam) (d:Nat):K->Prop
 | .val t y=>∀ z:t.den,z=y->Q ((d,.val t z)::G)
 | k=>Q ((d,k)::G)
theorem named_ok {Q:Gam->Prop} {G:Gam} {d:Nat} {k:K} (h:named Q G d k):Q ((d,k)::G):=by
 cases k<;>first|exact h|exact h _ rfl
def b6n (B:Book) (G:Gam) (b:Bool) (t e:Code):Operand->Option (Nat × K)
 | .tmp s=>if B.T.kb (1000000+s) then (match one1 B G t,one1 B G e with
  | some l1,some l2=>XJ b G l1 l2
  | _,_=>none) else none
 | _=>none
def c3S (ops:Array Oper):List Nat:=ops.toList.flatMap fun o=>tmpsOf o.op
def a9l (G:Gam):Rho->List Nat->Rho
 | R,[]=>R
 | R,s::l=>match rX (aS R) (aY G s) with
  | some (_,q)=>a9l G (aft R q) l
  | none=>a9l G R l
noncomputable def vwp (B:Book):Code->List Ann->(Exit->Gam->Rho->Prop)->Gam->Rho->Prop
 | .skip,_,Q,G,R=>Q .normal G R
 | .label _,_,Q,G,R=>Q .normal G R
 | .exit i,_,Q,G,R=>Q (.exit i) G R
 | .ret,_,Q,G,R=>Q .ret G R
 | .region _ ops draw,_,Q,G,R=>match iZ B ops draw G R with
  | some ([],G',R')=>Q .normal G' R'
  | some (vc,G',R')=>dH vc/\Q .normal G' R'
  | none=>match iZ B ops draw G (a9l G R (c3S ops)) with
   | some ([],G',R')=>Q .normal G' R'
   | some (vc,G',R')=>dH vc/\Q .normal G' R'
   | none=>False
 | .seq a b,A,Q,G,R=>vwp B a (A.take (nl a)) (a6h (vwp B b (A.drop (nl a)) Q) Q) G R
 | .cond c t e,A,Q,G,R=>match opK (aY G) c with
  | .val .bool b=>match b6n B G b t e c with
   | some (d,k)=>named (fun G'=>Q .normal G' R) G d k
   | none=>ifB b (vwp B t (A.take (nl t)) Q G R) (vwp B e (A.drop (nl t)) Q G R)
  | _=>False
 | .block i c,A,Q,G,R=>vwp B c A (a8k i Q) G R
 | .loop c,A,Q,G,R=>match A with
  | .inv ι S Z m i0 sub::_=>dH (b3Q G R (S i0) (Z i0) (asg c++RP G R ((Z i0).map (·.1)))) /\
   ∀ i,c1n (S i) (asg c)=true/\vwp B c (sub i) (a6h (fun G' R'=>∃ i',m i'<m i/\dH (a9A G G' ((S i').map (·.1)++(asg c++RP G R ((Z i0).map (·.1))))++b3Q G' R' (S i') (Z i') (asg c++RP G R ((Z i0).map (·.1))))) Q) (S i++qN (cut ((S i).map (·.1)++(asg c++RP G R ((Z i0).map (·.1)))) G)) (Z i)
  | .rounds n l sub::_=>a0H (vwp B c sub) (less (asg c) l) Q n G R
  | .turns n l k sub::_=>a4l (vwp B c sub) (asg c) l k Q n G R
  | []=>False
 | _,_,_,_,_=>False
section
variable {B:Book} {W:World} {base:Fix}
def Fr (l:List Nat) (G G':Gam):Prop:=∀ s,s ∉ l->iW (aY G' s)=.any\/iW (aY G' s)=iW (aY G s)
theorem Fr.trans {l m:List Nat} {G G' G'':Gam} (h:Fr l G G') (k:Fr m G' G''):Fr (l++m) G G'':=fun s hs=>by
 simp only[tu,not_or] at hs
 rcases k s hs.2 with e|e
 ·exact .inl e
 ·rcases h s hs.1 with e2|e2
  ·exact .inl (e.trans e2)
  ·exact .inr (e.trans e2)
theorem Fr.refl (l:List Nat) (G:Gam):Fr l G G:=fun _ _=>.inr rfl
theorem Fr.more {l m:List Nat} {G G':Gam} (h:Fr l G G') (hl:∀ s ∈ l,s ∈ m):Fr m G G':=fun s hs=>h s (fun h'=>hs (hl s h'))
theorem Fr.two {l:List Nat} {G G' G'':Gam} (h:Fr l G G') (k:Fr l G' G''):Fr l G G'':=(h.trans k).more (fun s hs=>(tu.1 hs).elim id id)
theorem YH {ops:Array Oper}:∀ {l:List Oper} {G:Gam} {R:Rho} {vc:List Cd} {G':Gam} {R':Rho},yK B ops l G R=some (vc,G',R')->Fr (l.filterMap (·.dst)) G G'
 | [],G,R,vc,G',R',h=>by
  simp only[yK,ah,au] at h
  obtain⟨_,rfl,_⟩:=h
  exact Fr.refl _ _
 | o::rest,G,R,vc,G',R',h=>by
  simp only[yK] at h
  split at h<;>try(cases h;done)
  rename_i vc1 k l1 h1
  split at h<;>try(cases h;done)
  rename_i vc2 G2 R2 h2
  simp only[ah,au] at h
  obtain⟨_,rfl,_⟩:=h
  intro s hs
  have ih:=YH h2
  cases hd:o.dst with
  | none =>
   rw[List.filterMap_cons_none hd] at hs
   exact(ih s hs).imp id (fun h=>h.trans (by rw[wU,hd];rfl))
  | some d =>
   rw[List.filterMap_cons_some hd] at hs
   simp only[jw,not_or] at hs
   exact(ih s hs.2).imp id (fun h=>h.trans (by rw[wU,hd];exact ql iW (aP _ _ hs.1)))
theorem YK {ops:Array Oper}:∀ {l:List Oper} {G:Gam} {R:Rho} {vc:List Cd} {ss:List Sim} {G':Gam} {R':Rho},yM B ops l G R=some (vc,ss,G',R')->Fr (l.filterMap (·.dst)) G G'
 | [],G,R,vc,ss,G',R',h=>by
  simp only[yM,ah,au] at h
  obtain⟨_,_,rfl,_⟩:=h
  exact Fr.refl _ _
 | o::rest,G,R,vc,ss,G',R',h=>by
  simp only[yM] at h
  split at h<;>try(cases h;done)
  rename_i vc1 k l1 h1
  split at h<;>try(cases h;done)
  rename_i vc2 ss2 G2 R2 h2
  simp only[ah,au] at h
  obtain⟨_,_,rfl,_⟩:=h
  intro s hs
  have ih:=YK h2
  cases hd:o.dst with
  | none =>
   rw[List.filterMap_cons_none hd] at hs
   exact(ih s hs).imp id (fun h=>h.trans (by rw[wU,hd];rfl))
  | some d =>
   rw[List.filterMap_cons_some hd] at hs
   simp only[jw,not_or] at hs
   exact(ih s hs.2).imp id (fun h=>h.trans (by rw[wU,hd];exact ql iW (aP _ _ hs.1)))
theorem a0y {id:Nat} {ops:Array Oper} {draw:Bool} {G:Gam} {R:Rho} {vc:List Cd} {G':Gam} {R':Rho} (h:iZ B ops draw G R=some (vc,G',R')):Fr (asg (.region id ops draw)) G G':=by
 unfold iZ at h
 cases draw with
 | true =>
  simp only[Dq] at h
  split at h<;>try(cases h;done)
  rename_i vc1 ss G1 R1 b7z
  split at h<;>try(cases h;done)
  simp only[ah,au] at h
  obtain⟨_,rfl,_⟩:=h
  exact YK b7z
 | false =>
  simp only[xg,if_false] at h
  exact YH h
def PostF (B:Book) (W:World) (base:Fix) (Q:Exit->Gam->Rho->Prop) (l:List Nat) (G:Gam) (e:Exit) (a:Act) (w:World):Prop:=∃ G' R,Q e G' R/\Fr l G G'/\St B W base G' R a w
theorem vT {l:List Nat} {s:Nat} (h:s ∈ l):∀ (G:Gam),aY (cut l G) s=.any
 | []=>rfl
 | (q,k)::G=>by
  unfold cut
  rw[List.filter_cons]
  have ih:=vT h G
  unfold cut at ih
  split
  ·rename_i hq
   simp only[aY]
   rw[eu]
   ·exact ih
   ·rintro rfl
    have:l.contains s=true:=by simpa using h
    rw[this] at hq;cases hq
  ·exact ih
theorem lW {l:List Nat} {s:Nat} (h:s ∉ l):∀ (G:Gam),aY (cut l G) s=aY G s
 | []=>rfl
 | (q,k)::G=>by
  unfold cut
  rw[List.filter_cons]
  have ih:=lW h G
  unfold cut at ih
  split
  ·simp only[aY]
   split
   ·rfl
   ·exact ih
  ·rename_i hq
   simp only[aY]
   rw[eu]
   ·exact ih
   ·rintro rfl
    have:l.contains s=true:=by simpa using hq
    exact h (by simpa using this)
theorem a5h {S:Gam} {L l:List Nat} {G:Gam} (h:c1n S L=true):Fr L G (S++qN (cut (S.map (·.1)++l) G)):=fun s hs=>by
 rcases RX S (qN (cut (S.map (·.1)++l) G)) s with⟨p,k1,rfl,k3⟩|⟨k1,k2⟩
 ·left
  obtain⟨p',j1,j2,j3⟩:=xU ⟨p,k1,rfl⟩
  have:=qg.1 h p' j1
  rw[j2] at this
  simp only[Bool.or_eq_true,List.contains_eq_mem,gy,LW] at this
  rw[k3,j3,this.resolve_left hs]
  rfl
 ·rw[k2,uK,VY]
  by_cases hm:s ∈ S.map (·.1)++l
  ·left;rw[vT hm];rfl
  ·right;rw[lW hm]
theorem a6U {S:Gam} {L l:List Nat} {G G':Gam} (h:Fr L G G') (hL:∀ s ∈ L,s ∈ S.map (·.1)++l) (hb:dH (a9A G G' (S.map (·.1)++l))) (s:Nat):aY (S++qN (cut (S.map (·.1)++l) G)) s=aY (S++qN (cut (S.map (·.1)++l) G')) s:=by
 have hb:b6a G G' (S.map (·.1)++l)=true:=by
  unfold a9A at hb
  split at hb
  ·assumption
  ·exact hb.1.elim
 have e:aY (qN (cut (S.map (·.1)++l) G)) s=aY (qN (cut (S.map (·.1)++l) G')) s:=by
  rw[uK,uK]
  by_cases hm:s ∈ S.map (·.1)++l
  ·rw[vT hm,vT hm]
  ·rw[lW hm,lW hm]
   rcases h s (fun h'=>hm (hL s h')) with e|e
   ·rcases RY (cut (S.map (·.1)++l) G) s with e2|⟨p,hp,rfl⟩
    ·rw[lW hm] at e2
     rw[e,e2];rfl
    ·have:=qg.1 hb p hp
     rw[e] at this
     simp only[LV,Bool.not_true,Bool.or_false,LW] at this
     rw[e,LW.1 this]
   ·exact e.symm
 have:∀ (S:Gam) (X Y:Gam),aY X s=aY Y s->aY (S++X) s=aY (S++Y) s:=by
  intro S
  induction S with
  | nil=>intro X Y h;exact h
  | cons p S ih =>
   intro X Y h
   simp only[List.cons_append,aY]
   split
   ·rfl
   ·exact ih X Y h
 exact this S _ _ e
def b7Z (l:Option (Nat × K)) (G:Gam):Gam:=match l with
 | some p=>p::G
 | none=>G
theorem a5E {c:Code} {l:Option (Nat × K)} {A:List Ann} {G:Gam} {R:Rho} (h:one1 B G c=some l):vwp B c A (fun e G' R'=>e=.normal/\G'=b7Z l G/\R'=R) G R:=by
 cases c<;>try (simp[one1] at h;done)
 case skip =>
  simp only[one1,ah] at h
  subst h
  exact⟨rfl,rfl,rfl⟩
 case region id ops draw =>
  cases draw<;>try (simp[one1] at h;done)
  simp only[one1] at h
  split at h<;>try(cases h;done)
  rename_i o ho
  split at h<;>try(cases h;done)
  rename_i x d h1 h2 h3
  split at h<;>try(cases h;done)
  rename_i hd
  simp only[ah] at h
  subst h
  have hr:iZ B ops false G R=some ([],(d,opK (jH (tmpsOf (.assign x)) (aY G)) x)::G,R):=by
   simp only[iZ,xg,if_false,ho,yK,xA,h1,h2,h3,hd,Dq,pW,fD,Ai,b4K,aft]
  simp only[vwp,hr]
  exact⟨trivial,rfl,trivial⟩
theorem DI {b:Bool} {k k':K}:(b=true->a1Y b k k'=k\/a1Y b k k'=.any)/\(b=false->a1Y b k k'=k'\/a1Y b k k'=.any):=by
 cases k<;>try exact⟨fun _=>.inr rfl,fun _=>.inr rfl⟩
 cases k'<;>try exact⟨fun _=>.inr rfl,fun _=>.inr rfl⟩
 rename_i t x t' y
 simp only[a1Y]
 split
 ·rename_i x' hc
  obtain⟨rfl,rfl⟩:=dQ hc
  exact⟨fun h=>.inl (by rw[h];rfl),fun h=>.inl (by rw[h];rfl)⟩
 ·exact⟨fun _=>.inr rfl,fun _=>.inr rfl⟩
theorem a9X {b:Bool} {G:Gam} {l1 l2:Option (Nat × K)} {p:Nat × K} (h:XJ b G l1 l2=some p):(b=true->∀ s,aY (p::G) s=aY (b7Z l1 G) s\/aY (p::G) s=.any)/\(b=false->∀ s,aY (p::G) s=aY (b7Z l2 G) s\/aY (p::G) s=.any):=by
 have hc:∀ (d:Nat) (k:K) (s:Nat),aY ((d,k)::G) s=if s=d then k else aY G s:=fun _ _ _=>rfl
 have hs:∀ (s d:Nat),s=d->aY G s=aY G d:=fun s d h=>by rw[h]
 cases l1 with
 | none =>
  cases l2 with
  | none=>simp[XJ] at h
  | some q =>
   obtain⟨d,k⟩:=q
   simp only[XJ,ah] at h
   subst h
   refine⟨fun hb s=>?_,fun hb s=>?_⟩
   ·show aY ((d,_)::G) s=aY G s\/_
    rw[hc]
    split
    ·rename_i e;rw[hs s d e];exact DI.1 hb
    ·exact .inl rfl
   ·show aY ((d,_)::G) s=aY ((d,k)::G) s\/_
    rw[hc,hc]
    split
    ·exact DI.2 hb
    ·exact .inl rfl
 | some p1 =>
  obtain⟨d,k⟩:=p1
  cases l2 with
  | none =>
   simp only[XJ,ah] at h
   subst h
   refine⟨fun hb s=>?_,fun hb s=>?_⟩
   ·show aY ((d,_)::G) s=aY ((d,k)::G) s\/_
    rw[hc,hc]
    split
    ·exact DI.1 hb
    ·exact .inl rfl
   ·show aY ((d,_)::G) s=aY G s\/_
    rw[hc]
    split
    ·rename_i e;rw[hs s d e];exact DI.2 hb
    ·exact .inl rfl
  | some q =>
   obtain⟨d',k'⟩:=q
   simp only[XJ] at h
   split at h<;>try(cases h;done)
   rename_i e
   subst e
   simp only[ah] at h
   subst h
   refine⟨fun hb s=>?_,fun hb s=>?_⟩
   ·show aY ((d,_)::G) s=aY ((d,k)::G) s\/_
    rw[hc,hc]
    split
    ·exact DI.1 hb
    ·exact .inl rfl
   ·show aY ((d,_)::G) s=aY ((d,k')::G) s\/_
    rw[hc,hc]
    split
    ·exact DI.2 hb
    ·exact .inl rfl
theorem St.less {G G':Gam} {R:Rho} {a:Act} {w:World} (h:St B W base G R a w) (hk:∀ s,aY G' s=aY G s\/aY G' s=.any):St B W base G' R a w:=by
 obtain⟨E,h0,h1,h2⟩:=h
 refine⟨E,h0,h1,h2.size,h2.defers,fun s=>?_,fun s=>?_,h2.par⟩
 ·rcases hk s with e|e
  ·rw[e];exact h2.wf s
  ·rw[e];trivial
 ·rcases hk s with e|e
  ·rw[e];exact h2.holds s
  ·rw[e];trivial
theorem Fr.less {l:List Nat} {G G1 G':Gam} (h:Fr l G G1) (hk:∀ s,aY G' s=aY G1 s\/aY G' s=.any):Fr l G G':=fun s hs=>by
 rcases hk s with e|e
 ·rw[e];exact h s hs
 ·exact .inl (by rw[e];rfl)
theorem OQ {a:Act} {w:World} {G:Gam}:∀ {l:List Nat} {R:Rho},St B W base G R a w->St B W base G (a9l G R l) a w
 | [],_,h=>h
 | s::l,R,h=>by
  unfold a9l
  split
  ·rename_i p q hp
   refine OQ (l:=l) ?_
   obtain⟨E,h0,h1,h2⟩:=h
   have hp2:wE (aS R) none (aY G s)=some (p,q):=by
    cases hk:aY G s<;>rw[hk] at hp<;>first|exact hp|cases hp
   obtain⟨E',m1,m2,m3⟩:=nJ hp2 h1 (h2.wf s) (h2.holds s)
   refine⟨E',m2.fix.trans h0,by rw[oO];exact m1,h2.size,h2.defers,fun x=>?_,fun x=>?_,fun x hx=>by rw[m2.par];exact h2.par x hx⟩
   ·rw[oO];exact m2.wf _ (h2.wf x)
   ·rw[oO];exact m2.holds _ _ (h2.wf x) (h2.holds x)
  ·exact OQ (l:=l) h
theorem a4p (hB:B.Ok) (hm:B.P.follows .mixedOrders=true):∀ (c:Code) {A:List Ann} {Q:Exit->Gam->Rho->Prop} {G:Gam} {R:Rho} {a:Act} {w:World},vwp B c A Q G R->St B W base G R a w->c.wp B.P (PostF B W base Q (asg c) G) a w:=by
 intro c
 induction c with
 | skip=>intro A Q G R a w h hs;exact wp_skip ⟨G,R,h,Fr.refl _ _,hs⟩
 | label l=>intro A Q G R a w h hs;exact wp_label ⟨G,R,h,Fr.refl _ _,hs⟩
 | exit i=>intro A Q G R a w h hs;exact wp_exit ⟨G,R,h,Fr.refl _ _,hs⟩
 | ret=>intro A Q G R a w h hs;exact wp_ret ⟨G,R,h,Fr.refl _ _,hs⟩
 | region id ops draw =>
  intro A Q G R a w h hs
  have key:∀ {R:Rho} (vc:List Cd) (G':Gam) (R':Rho),St B W base G R a w->iZ B ops draw G R=some (vc,G',R')->dH vc->Q .normal G' R'->(Code.region id ops draw).wp B.P (PostF B W base Q (asg (.region id ops draw)) G) a w:=fun vc G' R' hs hr hv hq =>
   Bq (KA (id:=id) hB hm (Q:=fun e G2 R2=>e=.normal/\G2=G'/\R2=R') hr hv ⟨rfl,rfl,rfl⟩ hs) (fun e a' w' hp=>by
    obtain⟨G2,R2,⟨rfl,rfl,rfl⟩,k2⟩:=hp
    exact⟨_,_,hq,a0y (id:=id) hr,k2⟩)
  simp only[vwp] at h
  split at h
  ·rename_i G' R' hr;exact key [] G' R' hs hr trivial h
  ·rename_i vc G' R' _ hr;exact key vc G' R' hs hr h.1 h.2
  ·split at h
   ·rename_i G' R' hr;exact key [] G' R' (OQ hs) hr trivial h
   ·rename_i vc G' R' _ hr;exact key vc G' R' (OQ hs) hr h.1 h.2
   ·exact h.elim
 | seq x y ihx ihy =>
  intro A Q G R a w h hs
  refine wp_seq (Bq (ihx h hs) (fun e a' w' hq=>?_))
  obtain⟨G',R',k1,k2,k3⟩:=hq
  have hfr:Fr (asg (.seq x y)) G G':=fun s hs'=>k2 s (fun h'=>hs' (zh _ h'))
  cases e with
  | normal =>
   refine Bq (ihy k1 k3) (fun e2 a2 w2 hq2=>?_)
   obtain⟨G2,R2,j1,j2,j3⟩:=hq2
   exact⟨G2,R2,j1,k2.trans j2,j3⟩
  | _=>exact⟨G',R',k1,hfr,k3⟩
 | cond c t e iht ihe =>
  intro A Q G R a w h hs
  simp only[vwp] at h
  split at h<;>first|exact h.elim|skip
  rename_i b hk
  have hs2:=hs
  obtain⟨E,h0,h1,h2⟩:=hs2
  have hv:=(JR h2).2 c
  rw[hk] at hv
  split at h
  ·rename_i d9 k9 hj
   have h:=named_ok h
   unfold b6n at hj
   split at hj<;>first|(cases hj;done)|skip
   split at hj<;>first|(cases hj;done)|skip
   split at hj<;>first|(cases hj;done)|skip
   rename_i l1 l2 hl1 hl2
   obtain⟨j1,j2⟩:=a9X hj
   refine wp_cond_split (pY hv) (fun hb=>Bq (iht (A:=[]) (a5E hl1) hs) (fun e a' w' hq=>?_)) (fun hb=>Bq (ihe (A:=[]) (a5E hl2) hs) (fun e a' w' hq=>?_))
   ·obtain⟨G1,R1,⟨rfl,rfl,rfl⟩,k2,k3⟩:=hq
    exact⟨_,_,h,(k2.less (j1 hb)).more (fun s hs'=>zh _ hs'),k3.less (j1 hb)⟩
   ·obtain⟨G1,R1,⟨rfl,rfl,rfl⟩,k2,k3⟩:=hq
    exact⟨_,_,h,(k2.less (j2 hb)).more (fun s hs'=>Bg _ hs'),k3.less (j2 hb)⟩
  have h:=jS.1 h
  refine wp_cond_split (pY hv) (fun hb=>Bq (iht (h.1 hb) hs) (fun e a' w' hq=>?_)) (fun hb=>Bq (ihe (h.2 hb) hs) (fun e a' w' hq=>?_))
  all_goals
   obtain⟨G',R',k1,k2,k3⟩:=hq
  ·exact⟨G',R',k1,fun s hs'=>k2 s (fun h'=>hs' (zh _ h')),k3⟩
  ·exact⟨G',R',k1,fun s hs'=>k2 s (fun h'=>hs' (Bg _ h')),k3⟩
 | block id c ih =>
  intro A Q G R a w h hs
  refine wp_block (Bq (ih h hs) (fun e a' w' hq=>?_))
  obtain⟨G',R',k1,k2,k3⟩:=hq
  cases e with
  | exit i =>
   simp only[a8k] at k1
   simp only[Exit.inBlock]
   split
   ·rename_i e;rw[iw e] at k1;exact⟨G',R',k1,k2,k3⟩
   ·rename_i e;rw[eu e] at k1;exact⟨G',R',k1,k2,k3⟩
  | _=>exact⟨G',R',k1,k2,k3⟩
 | loop c ih =>
  intro A Q G R a w h hs
  simp only[vwp] at h
  split at h
  ·rename_i ι S Z m i0 sub rest
   obtain⟨h1,h2⟩:=h
   refine wp_loop_rounds (m i0+1) (YC (B:=B) (fun i a w=>St B W base (S i++qN (cut ((S i).map (·.1)++(asg c++RP G R ((Z i0).map (·.1)))) G)) (Z i) a w) m (fun i a' w' hi=>?_) (m i0+1) i0 a w (by omega) (a3p hs (a0j h1)))
   obtain⟨h3,h4⟩:=h2 i
   refine Bq (ih h4 hi) (fun e a2 w2 hq=>?_)
   obtain⟨G',R',k1,k2,k3⟩:=hq
   have hfr:Fr (asg c) G G':=(a5h h3).two k2
   cases e with
   | normal =>
    obtain⟨i',k4,k5⟩:=k1
    obtain⟨k6,k7⟩:=dG.1 k5
    exact⟨i',k4,(a3p k3 (a0j k7)).congr (fun s=>a6U hfr (fun s hs'=>Bg _ (zh _ hs')) k6 s)⟩
   | _=>exact⟨G',R',k1,hfr,k3⟩
  ·rename_i n l sub rest
   refine wp_loop_rounds n ?_
   have key:∀ n G1 R a w,Fr (asg c) G G1->a0H (vwp B c sub) (less (asg c) l) Q n G1 R->St B W base G1 R a w->Code.rounds B.P c (PostF B W base Q (asg (.loop c)) G) n a w:=by
    intro n
    induction n with
    | zero=>intro G1 R a w _ h _;exact h.elim
    | succ n ihn =>
     intro G1 R a w hf h hs
     rw[rounds_succ]
     refine Bq (ih h hs) (fun e a2 w2 hq=>?_)
     obtain⟨G',R',k1,k2,k3⟩:=hq
     have hfr:Fr (asg c) G G':=hf.two k2
     cases e with
     | normal =>
      refine ihn _ _ _ _ (fun s hs'=>?_) k1 (k3.cut (l:=less (asg c) l))
      have hns:s ∉ less (asg c) l:=fun h'=>hs' (List.mem_filter.1 h').1
      rw[lW hns]
      exact hfr s hs'
     | _=>exact⟨G',R',k1,hfr,k3⟩
   exact key n G R a w (Fr.refl _ _) h hs
  ·rename_i n l k sub rest
   refine wp_loop_rounds n ?_
   have key:∀ n G1 R a w,Fr (asg c) G G1->a4l (vwp B c sub) (asg c) l k Q n G1 R->St B W base G1 R a w->Code.rounds B.P c (PostF B W base Q (asg (.loop c)) G) n a w:=by
    intro n
    induction n with
    | zero=>intro G1 R a w _ h _;exact h.elim
    | succ n ihn =>
     intro G1 R a w hf h hs
     rw[rounds_succ]
     refine Bq (ih h hs) (fun e a2 w2 hq=>?_)
     obtain⟨G',R',k1,k2,k3⟩:=hq
     have hfr:Fr (asg c) G G':=hf.two k2
     cases e with
     | normal =>
      obtain⟨k4,k5,k6⟩:=k1
      refine ihn _ _ _ _ (fun s hs'=>?_) k6 (a3p k3 (a0j k4))
      exact(hfr.two (a5h k5)) s hs'
     | _=>exact⟨G',R',k1,hfr,k3⟩
   exact key n G R a w (Fr.refl _ _) h hs
  ·exact h.elim
 | scope c ih=>intro A Q G R a w h hs;simp only[vwp] at h
 | goto l=>intro A Q G R a w h hs;simp only[vwp] at h
 | rangeFunc f ps x y _ _=>intro A Q G R a w h hs;simp only[vwp] at h
 | refuse s=>intro A Q G R a w h hs;simp only[vwp] at h
end
attribute [irreducible] vwp
end
section
set_option linter.unusedSimpArgs false
set_option linter.unusedVariables false
set_option maxRecDepth 20000
def MG (B:Book) (G:Nat->K) (ρ:Nat->Res) (t:Ty):ResultVar->Option (Part × List (Nat × Res))
 | .tmp s=>wE ρ (some t) (G s)
 | .cell s ty=>match G s with
  | .ptr r o=>match ρ r with
   | .box ps=>(a5q B.P B.T ty ps o).map fun p=>(p,[])
   | _=>none
  | .val (.ref u) y=>if fitsT B.P ty u then some (⟨u,y⟩,[]) else none
  | .lY r=>match ρ r with
   | .kJ k=>if rU B.P ty==some false then wE ρ (some t) k else none
   | _=>none
  | _=>none
def VX (B:Book) (G:Nat->K):(Nat->Res)->(ts:List Ty)->List ResultVar->(nest ts).den->Prop
 | _,[],[],_=>True
 | ρ,t::ts,r::rs,y=>match MG B G ρ t r with
  | some (p,l)=>match jO p.t t with
   | some q=>dH (q.c p.x)/\q.f p.x=y.1/\VX B G (after ρ l) ts rs y.2
   | none=>False
  | none=>False
 | _,_,_,_=>False
def a7x (B:Book) (ts:List Ty) (rs:List ResultVar) (y:(nest ts).den):Exit->Gam->Rho->Prop
 | .normal,G,R=>VX B (aY G) (aS R) ts rs y
 | .ret,G,R=>VX B (aY G) (aS R) ts rs y
 | _,_,_=>False
def rO:Nat->(ts:List Ty)->(nest ts).den->Gam
 | _,[],_=>[]
 | i,t::ts,x=>(i,.val t x.1)::rO (i+1) ts x.2
section
variable {B:Book} {W:World}
def BH (P:Program) (a:Act):ResultVar->Sem Value
 | .tmp t=>pure (a.tmps.getD t undef)
 | .cell s t=>do loadVar t (<-asAddr (a.tmps.getD s undef))
theorem a1X {P:Program} {w:World} {f:ResultVar->Sem Value}:∀ {rs:List ResultVar} {vs:List Value},kT (fun r v=>(f r).run P w=.ok v w) rs vs->(rs.mapM f).run P w=.ok vs w
 | _,_,.nil=>by simp
 | _,_,.cons h1 h2=>by
  rw[List.mapM_cons,dw,h1]
  simp only[Result.andThen_ok,dw,a1X h2]
  rfl
theorem BJ {P:Program} {fn:Func} {a:Act} {w:World} {vs:List Value} (h:kT (fun r v=>(BH P a r).run P w=.ok v w) fn.results.toList vs):(results fn a.tmps).run P w=.ok (if h:vs.toArray.size=1 then vs.toArray[0] else .tuple vs.toArray) w:=by
 have e:results fn a.tmps=(do let us <-fn.results.mapM (BH P a);pure (if h:us.size=1 then us[0] else .tuple us)):=by
  unfold results
  congr 2
 rw[e,Array.mapM_eq_mapM_toList]
 simp only[dw,map_eq_pure_bind,a1X h,Result.andThen_ok,Sem.run_pure]
theorem YB {G:Nat->K} {ρ:Nat->Res} {E:Env} {w:World} {a:Act} {t:Ty} {r:ResultVar} {p:Part} {l:List (Nat × Res)} (h:MG B G ρ t r=some (p,l)) (hM:Mem E ρ W w) (hf:Fits E ρ w B a G) :
  ∃ v E',(BH B.P a r).run B.P w=.ok v w/\Mem E' (after ρ l) W w/\Ext E ρ w E' (after ρ l) w/\iQ (fz w E') w p.t v p.x:=by
 cases r with
 | tmp s =>
  obtain⟨E',m1,m2,m3⟩:=nJ h hM (hf.wf s) (hf.holds s)
  exact⟨_,E',rfl,m1,m2,m3⟩
 | cell s ty =>
  simp only[MG] at h
  have hs:=hf.holds s
  have hs':a.tmps.getD s undef=a.eval (.tmp s):=rfl
  split at h<;>try(cases h;done)
  ·rename_i rr o hk
   rw[hk] at hs
   split at h<;>try(cases h;done)
   rename_i ps hr
   simp only[ig,au] at h
   obtain⟨p',h1,rfl,rfl⟩:=h
   obtain⟨b,hb,hp⟩:=hs
   have hres:=hM.res rr
   rw[hr] at hres
   obtain⟨b',cs,e,k1,k3,k4⟩:=hres
   rw[hb] at k1;cases k1
   obtain⟨hft,c,hc,hrep⟩:=a1V h1 k4
   have hrg:w.rangeAt b o c:=fun j v hv=>by
    rw[xu _ _ _ _ _ _ k3,<-hv]
    simp only[List.getElem?_toArray]
    rw[<-hc,List.getElem?_take,iw (by have:=(jq.1 hv).1;exact this),List.getElem?_drop]
   refine⟨p'.t.toV c,E,?_,hM,Ext.refl _ _ _,c,rfl,hrep⟩
   simp only[BH,hs',hp,asAddr,dw,Sem.run_pure,Result.andThen_ok]
   exact jM hft hrg hrep
  ·rename_i u y hk
   rw[hk] at hs
   split at h<;>try(cases h;done)
   rename_i hft
   simp only[ah,au] at h
   obtain⟨rfl,rfl⟩:=h
   obtain⟨b,o,ds,hp,k1,k2,k3⟩:=DX hs
   refine⟨u.toV ds,E,?_,hM,Ext.refl _ _ _,ds,rfl,k3⟩
   simp only[BH,hs',hp,asAddr,dw,Sem.run_pure,Result.andThen_ok]
   exact jM hft k2 k3
  ·rename_i rr hk
   rw[hk] at hs
   split at h<;>try(cases h;done)
   rename_i k9 hr
   split at h<;>try(cases h;done)
   rename_i ha
   obtain⟨q1,q2,b,u,e,q3,q4,q5,q6⟩:=hM.kbx rr k9 hr
   obtain⟨b',g1,g2⟩:=hs (by rw[hr];trivial)
   rw[g1] at q3;cases q3
   obtain⟨E',m1,m2,m3⟩:=nJ h hM q1 q6
   refine⟨u,E',?_,m1,m2,m3⟩
   simp only[BH,hs',g2,asAddr,dw,Sem.run_pure,Result.andThen_ok]
   exact JG (by simpa using ha) (by rw[xu w _ _ _ _ _ q4];rfl)
theorem a5O {G:Nat->K} {w:World} {a:Act}:∀ {ts:List Ty} {rs:List ResultVar} {y:(nest ts).den} {ρ:Nat->Res} {E:Env},VX B G ρ ts rs y->Mem E ρ W w->Fits E ρ w B a G ->
  ∃ vs E',kT (fun r v=>(BH B.P a r).run B.P w=.ok v w) rs vs/\E'.fix=E.fix/\iY (fz w E') w ts vs y/\∀ q,fz w E q->fz w E' q
 | [],[],y,ρ,E,h,hM,hf=>⟨[],E,.nil,rfl,rfl,fun _ h=>h⟩
 | t::ts,r::rs,y,ρ,E,h,hM,hf=>by
  simp only[VX] at h
  split at h<;>first|exact h.elim|skip
  rename_i p l h1
  split at h<;>first|exact h.elim|skip
  rename_i q hq
  obtain⟨hc,hy,h2⟩:=h
  obtain⟨v,E1,k1,m1,m2,m3⟩:=YB h1 hM hf
  obtain⟨vs,E2,j1,j2,j3,j4⟩:=a5O h2 m1 ⟨hf.size,hf.defers,fun s=>m2.wf _ (hf.wf s),fun s=>m2.holds _ _ (hf.wf s) (hf.holds s),fun s hs=>by rw[m2.par];exact hf.par s hs⟩
  refine⟨v::vs,E2,.cons k1 j1,j2.trans m2.fix,⟨v,vs,rfl,?_,j3⟩,fun q hq=>j4 q (m2.fz q hq)⟩
  obtain⟨cs,rfl,hr⟩:=fM j4 (jB.refl _ _) m3
  refine⟨cs,by unfold Ty.toV;rw[wP _ _ _ hq],?_⟩
  rw[<-hy]
  exact oI _ _ _ hq cs _ hr hc
 | [],_::_,y,ρ,E,h,hM,hf=>by simp[VX] at h
 | _::_,[],y,ρ,E,h,hM,hf=>by simp[VX] at h
theorem KI {F:Nat->Prop} {w:World}:∀ {ts:List Ty} {vs:List Value} {y:(nest ts).den},iY F w ts vs y->vs.length=ts.length
 | [],vs,y,h=>by rw[show vs=[] from h];rfl
 | t::ts,vs,y,⟨v,vs',h1,h2,h3⟩=>by rw[h1,List.length_cons,KI h3];rfl
theorem b1l {F:Nat->Prop} {w:World} {ts:List Ty} {vs:List Value} {y:(nest ts).den} (h:iY F w ts vs y):qO F w ts (if h:vs.toArray.size=1 then vs.toArray[0] else .tuple vs.toArray) y:=by
 have hl:=KI h
 match ts,y,h with
 | [t],y,⟨v,vs',h1,h2,h3⟩ =>
  have h3:vs'=[]:=h3
  subst h3
  subst h1
  exact h2
 | [],y,h =>
  have h:vs=[]:=h
  subst h
  exact⟨[],rfl,rfl⟩
 | t1::t2::ts,y,h =>
  refine⟨vs,?_,h⟩
  rw[dif_neg (by simp[hl])]
theorem uF {F:Nat->Prop} {w:World} {E:Env} {ρ:Nat->Res} (hF:∀ q,F q->fz w E q):∀ {ts:List Ty} {vs:List Value} {x:(nest ts).den} (i s:Nat),iY F w ts vs x->(aY (rO i ts x) s).wf ρ/\(i<=s->(aY (rO i ts x) s).holds E ρ w (vs.getD (s-i) undef))/\(s<i->aY (rO i ts x) s=.any)
 | [],vs,x,i,s,h=>⟨trivial,fun _=>trivial,fun _=>rfl⟩
 | t::ts,vs,x,i,s,⟨v,vs',h1,h2,h3⟩=>by
  obtain⟨k1,k2,k3⟩:=uF hF (i+1) s h3
  simp only[rO,aY]
  split
  ·rename_i e
   subst e
   refine⟨trivial,fun _=>?_,fun h=>by omega⟩
   rw[h1,Nat.sub_self]
   exact fM hF (jB.refl _ _) h2
  ·rename_i e
   refine⟨k1,fun h=>?_,fun h=>k3 (by omega)⟩
   have:=k2 (by omega)
   rw[h1]
   have e2:s-i=(s-(i+1))+1:=by omega
   rw[e2,List.getD_cons_succ]
   exact this
theorem a4O {f:FuncId} {fn:Func} {code:Code} {c:Ctr} (hf:B.P.funcs[f]?=some fn) (hb:fn.body=some code) (hN:fn.ntmps=B.N) (hkeep:B.keep=fun _=>false) (hargs:c.args.length<=fn.ntmps)
  (h:∀ x,c.pre x->∀ (W:World) (base:Fix) (a:Act) (w:World),St B W base (rO 0 c.args x) [] a w->code.wp B.P (fun e a' w'=>∃ G' R',a7x B c.res fn.results.toList (c.fn x) e G' R'/\St B W base G' R' a' w') a w):aH B.P f c:=by
 intro F w vs x hF hvs hpre
 have hl:=KI hvs
 let E:Env:=⟨fun _=>none,fun _=>undef,fun q=>F q\/w.heap.size<=q,fun _ _=>undef,fun _=>False,fun _=>undef⟩
 have hhas:∀ r j q,¬ E.has r j q:=fun r j q h=>by cases j<;>cases h
 have hFz:∀ q,F q->fz w E q:=fun q hq=>rD (hF q hq) (.inl hq) (fun r j=>hhas r j q)
 have hM:Mem E (aS []) w w:=⟨⟨rfl,rfl,rfl,aj _,fun _ _ _=>rfl⟩,fun r=>rfl,fun r j r' j' b e=>(hhas r j b e).elim,fun r j b e=>(hhas r j b e).elim,fun q hq=>hq.elim (fun h=>h.elim) .inr,fun r i _=>rfl,fun r k e=>(by cases e),fun b o n h=>h⟩
 refine calls_of_wp hf hb (Bq (h x hpre w E.fix _ w ⟨E,rfl,hM,?_⟩) (fun e a w' hq=>?_))
 ·refine⟨by simp[hN];omega,rfl,fun s=>(uF hFz 0 s hvs).1,fun s=>?_,fun s hs=>by rw[hkeep] at hs;cases hs⟩
  have h1:=(uF (ρ:=aS []) hFz 0 s hvs).2.1 (qm _)
  rw[Nat.sub_zero] at h1
  by_cases hs:s<vs.length
  ·have:(({ tmps:=vs.toArray++Array.replicate (fn.ntmps-vs.toArray.size) undef,defers:=[] }:Act).eval (.tmp s))=vs.getD s undef:=by
    simp[Act.eval,jk,Array.getElem?_append,hs]
   rw[this];exact h1
  ·have hany:aY (rO 0 c.args x) s=.any:=by
    have:∀ (ts:List Ty) (x:(nest ts).den) (i:Nat),i+ts.length<=s->aY (rO i ts x) s=.any:=by
     intro ts
     induction ts with
     | nil=>intro x i _;rfl
     | cons t ts ih =>
      intro x i hi
      simp only[List.length_cons] at hi
      simp only[rO,aY]
      rw[eu (by omega)]
      exact ih x.2 (i+1) (by omega)
    exact this c.args x 0 (by omega)
   rw[hany];trivial
 ·obtain⟨G',R',k1,E',k2,k3,k4⟩:=hq
  have fin:VX B (aY G') (aS R') c.res fn.results.toList (c.fn x)->a.defers=[]/\∃ v,(results fn a.tmps).run B.P w'=.ok v w'/\∃ v',Ending.returned v=.returned v'/\qO (newF F w w') w' c.res v' (c.fn x)/\Below w.heap.size w w':=fun hr=>by
   obtain⟨us,E2,j1,j2,j3,_⟩:=a5O hr k3 k4
   refine⟨k4.defers,_,BJ j1,_,rfl,b1l (jQ (fun q hq=>⟨?_,hq.1.1⟩) (jB.refl _ _) _ _ _ j3),k3.below.below (fun q=>by rw[show E'.pI=E.pI from ql Fix.pI k2];exact id)⟩
   have:=hq.1.2
   rw[show E2.base=E.base from(ql Fix.base j2).trans (ql Fix.base k2)] at this
   exact this
  cases e with
  | normal=>exact fin k1
  | ret=>exact fin k1
  | exit i=>exact k1.elim
  | goto l=>exact k1.elim
  | panic ch=>exact k1.elim
  | outgrown=>exact k1.elim
theorem b6Z (hB:B.Ok) (hm:B.P.follows .mixedOrders=true) {f:FuncId} {fn:Func} {code:Code} {c:Ctr} (hf:B.P.funcs[f]?=some fn) (hb:fn.body=some code) (hN:fn.ntmps=B.N) (hkeep:B.keep=fun _=>false) (hargs:c.args.length<=fn.ntmps) (A:(nest c.args).den->List Ann)
  (h:∀ x,c.pre x->vwp B code (A x) (a7x B c.res fn.results.toList (c.fn x)) (rO 0 c.args x) []):aH B.P f c :=
 a4O hf hb hN hkeep hargs fun x hp W base a w hs=>Bq (a4p hB hm code (h x hp) hs) fun e a' w' hq=>by
  obtain⟨G',R',k1,_,k2⟩:=hq
  exact⟨G',R',k1,k2⟩
end
end
section
set_option linter.unusedSimpArgs false
set_option linter.unusedVariables false
set_option maxRecDepth 20000
def lkP:(k:LK)->k.ty.den->Nat->Res->Prop
 | .row e t,y,v,.row e' t' xs v'=>match fZ (.list t') (.list t) xs with
  | some ys=>if e'==e&&gv v'==gv v then y=ys else False
  | none=>False
 | .mat e e2 t,y,v,.mat e' e2' t' none xss v'=>match fZ (.list (.list t')) (.list (.list t)) xss with
  | some yss=>if e'==e&&e2'==e2&&gv v'==gv v then y=yss else False
  | none=>False
 | _,_,_,_=>False
def lkG (k:LK) (y:k.ty.den) (ρ:Nat->Res) (only:Option Nat):K->Prop
 | .own r v=>if only.all (fun q=>q==r) then lkP k y v (ρ r) else False
 | _=>False
def mkP (k:LK) (y:k.ty.den) (G:Nat->K) (ρ:Nat->Res):List ResultVar->Prop
 | [.tmp s]=>lkG k y ρ none (G s)
 | _=>False
def b4R (k:LK) (y:k.ty.den) (rs:List ResultVar):Exit->Gam->Rho->Prop
 | .normal,G,R=>mkP k y (aY G) (aS R) rs
 | .ret,G,R=>mkP k y (aY G) (aS R) rs
 | _,_,_=>False
def VW (B:Book) (k:LK) (x:k.ty.den) (G:Nat->K):(Nat->Res)->(ts:List Ty)->List ResultVar->(nest ts).den->Prop
 | ρ,[],[],_=>lkG k x ρ (some 0) (G 0)
 | ρ,t::ts,r::rs,y=>match MG B G ρ t r with
  | some (p,l)=>match jO p.t t with
   | some q=>dH (q.c p.x)/\q.f p.x=y.1/\VW B k x G (after ρ l) ts rs y.2
   | none=>False
  | none=>False
 | _,_,_,_=>False
def b4S (B:Book) (k:LK) (x:k.ty.den) (ts:List Ty) (rs:List ResultVar) (y:(nest ts).den):Exit->Gam->Rho->Prop
 | .normal,G,R=>VW B k x (aY G) (aS R) ts rs y
 | .ret,G,R=>VW B k x (aY G) (aS R) ts rs y
 | _,_,_=>False
section
variable {B:Book} {W:World}
theorem b7I {k:LK} {y:k.ty.den} {v:Nat} {x:Res} (h:lkP k y v x):∃ v0,x=k.res y v0/\Res.isRow v x:=by
 cases k with
 | row e t =>
  cases x<;>first|exact h.elim|skip
  rename_i e' t' xs v'
  simp only[lkP] at h
  split at h<;>first|exact h.elim|skip
  rename_i ys hc
  split at h<;>first|exact h.elim|skip
  rename_i hb
  simp only[ay,jl] at hb
  obtain⟨rfl,hb⟩:=hb
  obtain⟨e9,hc⟩:=dQ hc
  simp only[Ty.list.injEq] at e9
  subst e9
  have hc:xs=ys:=hc
  subst hc
  subst h
  exact⟨v',rfl,hb⟩
 | mat e e2 t =>
  cases x<;>first|exact h.elim|skip
  rename_i e' e2' t' ids xss v'
  cases ids<;>first|exact h.elim|skip
  simp only[lkP] at h
  split at h<;>first|exact h.elim|skip
  rename_i yss hc
  split at h<;>first|exact h.elim|skip
  rename_i hb
  simp only[ay,jl] at hb
  obtain⟨⟨rfl,rfl⟩,hb⟩:=hb
  obtain⟨e9,hc⟩:=dQ hc
  simp only[Ty.list.injEq] at e9
  subst e9
  have hc:xss=yss:=hc
  subst hc
  subst h
  exact⟨v',rfl,hb⟩
theorem b0n {k:LK} {y:k.ty.den} {ρ:Nat->Res} {o:Option Nat} {k0:K} {E:Env} {w:World} {v:Value} (h:lkG k y ρ o k0) (hk:k0.holds E ρ w v):∃ r v0,o.all (fun q=>q==r)=true/\ρ r=k.res y v0/\v=E.sl r:=by
 cases k0<;>first|exact h.elim|skip
 rename_i r ver
 simp only[lkG] at h
 split at h<;>first|exact h.elim|skip
 rename_i ho
 obtain⟨v0,h1,h2⟩:=b7I h
 exact⟨r,v0,ho,h1,hk h2⟩
theorem a5N {G:Nat->K} {w:World} {a:Act} {k:LK} {x:k.ty.den}:∀ {ts:List Ty} {rs:List ResultVar} {y:(nest ts).den} {ρ:Nat->Res} {E:Env},VW B k x G ρ ts rs y->Mem E ρ W w->Fits E ρ w B a G ->
  ∃ vs E' ρ' v0,kT (fun r v=>(BH B.P a r).run B.P w=.ok v w) rs vs/\E'.fix=E.fix/\Mem E' ρ' W w/\iY (fz w E') w ts vs y/\ρ' 0=k.res x v0/\a.eval (.tmp 0)=E'.sl 0/\∀ q,fz w E q->fz w E' q
 | [],[],y,ρ,E,h,hM,hf=>by
  obtain⟨r,v0,h1,h2,h3⟩:=b0n h (hf.holds 0)
  have h1:0=r:=by simpa using h1
  subst h1
  exact⟨[],E,ρ,v0,.nil,rfl,hM,rfl,h2,h3,fun _ h=>h⟩
 | t::ts,r::rs,y,ρ,E,h,hM,hf=>by
  simp only[VW] at h
  split at h<;>first|exact h.elim|skip
  rename_i p l h1
  split at h<;>first|exact h.elim|skip
  rename_i q hq
  obtain⟨hc,hy,h2⟩:=h
  obtain⟨v,E1,k1,m1,m2,m3⟩:=YB h1 hM hf
  obtain⟨vs,E2,ρ2,v0,j1,j2,j5,j3,j6,j7,j4⟩:=a5N h2 m1 ⟨hf.size,hf.defers,fun s=>m2.wf _ (hf.wf s),fun s=>m2.holds _ _ (hf.wf s) (hf.holds s),fun s hs=>by rw[m2.par];exact hf.par s hs⟩
  refine⟨v::vs,E2,ρ2,v0,.cons k1 j1,j2.trans m2.fix,j5,⟨v,vs,rfl,?_,j3⟩,j6,j7,fun q hq=>j4 q (m2.fz q hq)⟩
  obtain⟨cs,rfl,hr⟩:=fM j4 (jB.refl _ _) m3
  refine⟨cs,by unfold Ty.toV;rw[wP _ _ _ hq],?_⟩
  rw[<-hy]
  exact oI _ _ _ hq cs _ hr hc
 | [],_::_,y,ρ,E,h,hM,hf=>by simp[VW] at h
 | _::_,[],y,ρ,E,h,hM,hf=>by simp[VW] at h
theorem QI:∀ (ts:List Ty) (x:(nest ts).den) (i s:Nat),i+ts.length<=s->aY (rO i ts x) s=.any
 | [],x,i,s,_=>rfl
 | t::ts,x,i,s,hi=>by
  simp only[List.length_cons] at hi
  simp only[rO,aY]
  rw[eu (by omega)]
  exact QI ts x.2 (i+1) s (by omega)
theorem a5A {f:FuncId} {fn:Func} {code:Code} {k:LK} {args:List Ty} {pre:(nest args).den->Prop} {made:(nest args).den->k.ty.den} {dec:∀ x,Dc (pre x)} (hf:B.P.funcs[f]?=some fn) (hb:fn.body=some code) (hN:fn.ntmps=B.N) (hkeep:B.keep=fun _=>false) (hargs:args.length<=fn.ntmps)
  (h:∀ x,pre x->∀ (W:World) (base:Fix) (a:Act) (w:World),St B W base (rO 0 args x) [] a w->code.wp B.P (fun e a' w'=>∃ G' R',b4R k (made x) fn.results.toList e G' R'/\St B W base G' R' a' w') a w):NOk B.P f (@lM.mk k args pre made dec):=by
 intro F w vs x hF hvs hpre
 have hl:=KI hvs
 let E:Env:=⟨fun _=>none,fun _=>undef,fun q=>F q\/w.heap.size<=q,fun _ _=>undef,fun _=>False,fun _=>undef⟩
 have hhas:∀ r j q,¬ E.has r j q:=fun r j q h=>by cases j<;>cases h
 have hFz:∀ q,F q->fz w E q:=fun q hq=>rD (hF q hq) (.inl hq) (fun r j=>hhas r j q)
 have hM:Mem E (aS []) w w:=⟨⟨rfl,rfl,rfl,aj _,fun _ _ _=>rfl⟩,fun r=>rfl,fun r j r' j' b e=>(hhas r j b e).elim,fun r j b e=>(hhas r j b e).elim,fun q hq=>hq.elim (fun h=>h.elim) .inr,fun r i _=>rfl,fun r k e=>(by cases e),fun b o n h=>h⟩
 refine calls_of_wp hf hb (Bq (h x hpre w E.fix _ w ⟨E,rfl,hM,?_⟩) (fun e a w' hq=>?_))
 ·refine⟨by simp[hN];omega,rfl,fun s=>(uF hFz 0 s hvs).1,fun s=>?_,fun s hs=>by rw[hkeep] at hs;cases hs⟩
  have h1:=(uF (ρ:=aS []) hFz 0 s hvs).2.1 (qm _)
  rw[Nat.sub_zero] at h1
  by_cases hs:s<vs.length
  ·have:(({ tmps:=vs.toArray++Array.replicate (fn.ntmps-vs.toArray.size) undef,defers:=[] }:Act).eval (.tmp s))=vs.getD s undef:=by
    simp[Act.eval,jk,Array.getElem?_append,hs]
   rw[this];exact h1
  ·rw[QI args x 0 s (by omega)];trivial
 ·obtain⟨G',R',k1,E',k2,k3,k4⟩:=hq
  have fin:mkP k (made x) (aY G') (aS R') fn.results.toList->a.defers=[]/\∃ v,(results fn a.tmps).run B.P w'=.ok v w'/\∃ v' E1 ρ1 q v0,Ending.returned v=.returned v'/\Mem E1 ρ1 w w'/\(∀ q,¬ E1.pI q)/\ρ1 q=k.res (made x) v0/\v'=E1.sl q:=fun hr=>by
   match hrs:fn.results.toList,hr with
   | [.tmp s],hr =>
    obtain⟨r,v0,_,h2,h3⟩:=b0n hr (k4.holds s)
    refine⟨k4.defers,_,BJ (vs:=[a.eval (.tmp s)]) (by rw[hrs];exact .cons rfl .nil),_,E',aS R',r,v0,rfl,k3,fun q=>?_,h2,h3⟩
    rw[show E'.pI=E.pI from ql Fix.pI k2]
    exact id
  cases e with
  | normal=>exact fin k1
  | ret=>exact fin k1
  | exit i=>exact k1.elim
  | goto l=>exact k1.elim
  | panic ch=>exact k1.elim
  | outgrown=>exact k1.elim
theorem b7Q (hB:B.Ok) (hm:B.P.follows .mixedOrders=true) {f:FuncId} {fn:Func} {code:Code} {k:LK} {args:List Ty} {pre:(nest args).den->Prop} {made:(nest args).den->k.ty.den} {dec:∀ x,Dc (pre x)} (hf:B.P.funcs[f]?=some fn) (hb:fn.body=some code) (hN:fn.ntmps=B.N) (hkeep:B.keep=fun _=>false) (hargs:args.length<=fn.ntmps) (A:(nest args).den->List Ann)
  (h:∀ x,pre x->vwp B code (A x) (b4R k (made x) fn.results.toList) (rO 0 args x) []):NOk B.P f (@lM.mk k args pre made dec) :=
 a5A hf hb hN hkeep hargs fun x hp W base a w hs=>Bq (a4p hB hm code (h x hp) hs) fun e a' w' hq=>by
  obtain⟨G',R',k1,_,k2⟩:=hq
  exact⟨G',R',k1,k2⟩
theorem a1Z {f:FuncId} {fn:Func} {code:Code} {k:LK} {args res:List Ty} {pre:k.ty.den->(nest args).den->Prop} {dec:∀ x y,Dc (pre x y)} {out:k.ty.den->(nest args).den->k.ty.den} {g:k.ty.den->(nest args).den->(nest res).den} (hf:B.P.funcs[f]?=some fn) (hb:fn.body=some code) (hN:fn.ntmps=B.N) (hkeep:B.keep=fun s=>s==0) (hargs:args.length+1<=fn.ntmps)
  (h:∀ x y,pre x y->∀ (W:World) (base:Fix) (a:Act) (w:World),St B W base ((0,.own 0 0)::rO 1 args y) [(0,k.res x 0)] a w->code.wp B.P (fun e a' w'=>∃ G' R',b4S B k (out x y) res fn.results.toList (g x y) e G' R'/\St B W base G' R' a' w') a w):NOk B.P f (@lM.chg k args res pre out g dec):=by
 intro F w s I vs x y hF hM hvs hpre
 have hl:=KI hvs
 have hR:aS [(0,k.res x 0)]=a2d (k.res x 0):=by
  funext r
  simp only[aS,a2d]
 have hhas:∀ r j q,(Env.of F w s I).has r j q->AP s I q:=fun r j q h=>by
  cases j with
  | zero =>
   have h:(if r=0 then bI s else none)=some q:=h
   split at h
   ·exact .inl h
   ·cases h
  | succ i =>
   have h:bI (if r=0 then I i else undef)=some q:=h
   split at h
   ·exact .inr ⟨i,h⟩
   ·cases h
 have hFz:∀ q,F q->fz w (Env.of F w s I) q:=fun q hq=>rD (hF q hq).1 (.inl hq) (fun r j h=>(hF q hq).2 (hhas r j q h))
 have hev:∀ q,q<(s::vs).length->(({ tmps:=(s::vs).toArray++Array.replicate (fn.ntmps-(s::vs).toArray.size) undef,defers:=[] }:Act).eval (.tmp q))=(s::vs).getD q undef:=fun q hq=>by
  simp only[Act.eval,jk,bf]
  rw[Array.getElem?_append_left (by simpa using hq)]
  simp
 refine calls_of_wp hf hb (Bq (h x y hpre w (Env.of F w s I).fix _ w ⟨Env.of F w s I,rfl,by rw[hR];exact hM,?_⟩) (fun e a w' hq=>?_))
 ·refine⟨by simp[hN];omega,rfl,fun q=>?_,fun q=>?_,fun q hq=>?_⟩
  ·by_cases e:q=0
   ·subst e
    show Res.eF 0 (aS [(0,k.res x 0)] 0)
    cases k<;>exact qm _
   ·show (aY ((0,.own 0 0)::rO 1 args y) q).wf _
    simp only[aY]
    rw[eu e]
    exact(uF hFz 1 q hvs).1
  ·by_cases e:q=0
   ·subst e
    rw[hev 0 (by simp)]
    intro _
    rfl
   ·show (aY ((0,.own 0 0)::rO 1 args y) q).holds _ _ _ _
    simp only[aY]
    rw[eu e]
    by_cases hs:q<(s::vs).length
    ·rw[hev q hs]
     have h1:=(uF (ρ:=aS [(0,k.res x 0)]) hFz 1 q hvs).2.1 (by omega)
     have e2:q=(q-1)+1:=by omega
     rw[e2,List.getD_cons_succ]
     rw[<-e2]
     exact h1
    ·simp only[List.length_cons] at hs
     rw[QI args y 1 q (by omega)];trivial
  ·rw[hkeep] at hq
   have hq:q=0:=by simpa using hq
   subst hq
   exact hev 0 (by simp)
 ·obtain⟨G',R',k1,E',k2,k3,k4⟩:=hq
  have fin:VW B k (out x y) (aY G') (aS R') res fn.results.toList (g x y)->a.defers=[]/\∃ v,(results fn a.tmps).run B.P w'=.ok v w'/\∃ v' E1 ρ1 v0,Ending.returned v=.returned v'/\Mem E1 ρ1 w w'/\E1.base=(Env.of F w s I).base/\E1.pI=AP s I/\ρ1 0=k.res (out x y) v0/\E1.sl 0=s/\qO (fz w' E1) w' res v' (g x y):=fun hr=>by
   obtain⟨us,E2,ρ2,v0,j1,j2,j5,j3,j6,j7,_⟩:=a5N hr k3 k4
   have hp:=k4.par 0 (by rw[hkeep];rfl)
   refine⟨k4.defers,_,BJ j1,_,E2,ρ2,v0,rfl,j5,ql Fix.base (j2.trans k2),ql Fix.pI (j2.trans k2),j6,?_,b1l j3⟩
   rw[<-j7,hp,show E'.par=(Env.of F w s I).par from ql Fix.par k2]
   rfl
  cases e with
  | normal=>exact fin k1
  | ret=>exact fin k1
  | exit i=>exact k1.elim
  | goto l=>exact k1.elim
  | panic ch=>exact k1.elim
  | outgrown=>exact k1.elim
theorem b4h (hB:B.Ok) (hm:B.P.follows .mixedOrders=true) {f:FuncId} {fn:Func} {code:Code} {k:LK} {args res:List Ty} {pre:k.ty.den->(nest args).den->Prop} {dec:∀ x y,Dc (pre x y)} {out:k.ty.den->(nest args).den->k.ty.den} {g:k.ty.den->(nest args).den->(nest res).den} (hf:B.P.funcs[f]?=some fn) (hb:fn.body=some code) (hN:fn.ntmps=B.N) (hkeep:B.keep=fun s=>s==0) (hargs:args.length+1<=fn.ntmps) (A:k.ty.den->(nest args).den->List Ann)
  (h:∀ x y,pre x y->vwp B code (A x y) (b4S B k (out x y) res fn.results.toList (g x y)) ((0,.own 0 0)::rO 1 args y) [(0,k.res x 0)]):NOk B.P f (@lM.chg k args res pre out g dec) :=
 a1Z hf hb hN hkeep hargs fun x y hp W base a w hs=>Bq (a4p hB hm code (h x y hp) hs) fun e a' w' hq=>by
  obtain⟨G',R',k1,_,k2⟩:=hq
  exact⟨G',R',k1,k2⟩
end
end
end Go.Proofs.YtbkocjmmbkifjaaGreat
