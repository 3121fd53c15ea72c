/-
  Lemmas for the theorem vrelative28_holds, part 16 of 35.
-/
import Derived.Test.YtbkocjmmbkifjaaGreatQr15
namespace Go.Proofs.YtbkocjmmbkifjaaGreat
open Go Go.RowKit
section
set_option linter.unusedSimpArgs false
set_option linter.unusedVariables false
set_option maxRecDepth 20000
def a7L (n:Gam->Rho->Prop) (Q:Exit->Gam->Rho->Prop):Exit->Gam->Rho->Prop
 | .normal,G,R=>n G R
 | e,G,R=>Q e G R
def a9T (id:Nat) (Q:Exit->Gam->Rho->Prop):Exit->Gam->Rho->Prop
 | .exit i,G,R=>if i=id then Q .normal G R else Q (.exit i) G R
 | e,G,R=>Q e G R
inductive Ann:Type 1 where
 | inv (ι:Type) (S:ι->Gam) (Z:ι->Rho) (m:ι->Nat) (i0:ι) (sub:ι->List Ann)
 | rounds (n:Nat) (l:List Nat) (sub:List Ann)
 | turns (n:Nat) (l k:List Nat) (sub:List Ann)
def nl:Code->Nat
 | .seq a b=>nl a+nl b
 | .cond _ a b=>nl a+nl b
 | .block _ c=>nl c
 | .loop _=>1
 | _=>0
def a1N (F:(Exit->Gam->Rho->Prop)->Gam->Rho->Prop) (l:List Nat) (Q:Exit->Gam->Rho->Prop):Nat->Gam->Rho->Prop
 | 0,_,_=>False
 | n+1,G,R=>F (a7L (fun G R=>a1N F l Q n (cut l G) R) Q) G R
def b3n:Res->Res
 | .row e t xs _=>.row e t xs 0
 | .fro t xs _=>.fro t xs 0
 | .mat e e2 t ids xss _=>.mat e e2 t ids xss 0
 | .lG k=>.lG (jC k)
 | x=>x
def a0j (G:Gam):List Nat->Gam
 | []=>[]
 | s::l=>match (bF G s).res with
  | []=>a0j G l
  | _=>(s,jC (bF G s))::a0j G l
def b4l (R:Rho):List Nat->Rho
 | []=>[]
 | r::k=>(r,b3n (aU R r))::b4l R k
def less (l k:List Nat):List Nat:=l.filter fun s=>!k.contains s
def NC:K->Bool
 | .any=>true
 | _=>false
theorem ND {k:K}:NC k=true↔k=.any:=by cases k<;>simp[NC]
def c4g (S:Gam) (l:List Nat):Bool:=S.all fun p=>l.contains p.1 || NC p.2
def Res.BH:Res->Bool
 | .box _=>true
 | _=>false
def OY (v:Nat):Res->Bool
 | .mat _ _ _ _ _ v'=>v'==v
 | _=>false
def Res.wH:Res->Bool
 | .lG _=>true
 | _=>false
def Res.a2T:Res->Bool
 | .lG _=>true
 | .gone=>true
 | _=>false
theorem Res.yO {x:Res}:x.wH=true↔x.nK:=by cases x<;>simp[Res.wH,Res.nK]
theorem Res.a2U {x:Res} (h:x.a2T=true):x.FQ:=by cases x<;>simp_all [Res.a2T,Res.FQ]
theorem KJ {v:Nat} {x:Res} (h:OY v x=true):Res.nT v x:=by cases x<;>simp_all [OY,Res.nT]
theorem Res.uJ {x:Res} (h:x.BH=true):x.oV:=by cases x<;>simp_all [Res.BH,Res.oV]
def b2f (R R':Rho):K->K->Bool
 | _,.any=>true
 | .nil,.nil=>true
 | .ptr r o,.ptr r' o'=>r==r'&&o==o'&&(aU R r).BH&&(aU R' r).BH
 | .own r v,.own r' v'=>r==r'&&v'==0&&CX v (aU R r)&&CX 0 (aU R' r)
 | .mW r,.mW r'=>r==r'&&(aU R' r).a2T&&(!(aU R' r).wH || (aU R r).wH)
 | _,_=>false
theorem b5N {R R':Rho}:∀ {k k':K},b2f R R' k k'=true->leK R R' k k'
 | k,.any,_=>by cases k<;>trivial
 | .nil,.nil,_=>trivial
 | .ptr r o,.ptr r' o',h=>by simp only[b2f,ay,jo] at h;exact⟨h.1.1.1,h.1.1.2,Res.uJ h.1.2,Res.uJ h.2⟩
 | .own r v,.own r' v',h=>by simp only[b2f,ay,jo] at h;obtain⟨⟨⟨h1,h2⟩,h3⟩,h4⟩:=h;subst h2;simp only[leK];exact⟨h1,trivial,vS h3,vS h4⟩
 | .mW r,.mW r',h=>by simp only[b2f,ay,jo,Bool.or_eq_true,zq] at h;obtain⟨⟨h1,h2⟩,h3⟩:=h;refine⟨h1,Res.a2U h2,fun hb=>?_⟩;have:=Res.yO.2 hb;rw[this] at h3;exact Res.yO.1 (h3.resolve_left (by simp))
noncomputable def eqC (t t':Ty) (x:t.den) (y:t'.den):List Cd:=if h:t=t' then [h ▸ x=y] else [False]
theorem yJ {t t':Ty} {x:t.den} {y:t'.den} (h:dH (eqC t t' x y)):gK t t' x=some y:=by
 unfold eqC at h;split at h
 ·rename_i e;subst e;unfold gK;rw[dif_pos rfl];exact qw some h.1
 ·exact h.1.elim
def b9Z (ids qV:Option (List Nat)):List Cd:=match ids,qV with
 | none,none=>[]
 | some l,some l'=>[l=l']
 | _,_=>[False]
theorem b5C {ids qV:Option (List Nat)} (h:dH (b9Z ids qV)):ids=qV:=by
 unfold b9Z at h;split at h
 ·rfl
 ·rw[h.1]
 ·exact h.1.elim
def a7A:Res->Res->List Cd
 | .mat _ _ _ ids xss _,.mat _ _ _ qV yss _=>(xss.length=yss.length)::b9Z ids qV
 | _,_=>[False]
theorem a3F {x y:Res} (h:dH (a7A x y)):RP x y:=by
 unfold a7A at h;split at h
 ·exact⟨b5C h.2,h.1⟩
 ·exact h.1.elim
noncomputable def UD (R R':Rho):List K0->List K0->List Cd
 | [],[]=>[]
 | .val t x::ks,.val t' y::ks'=>eqC t t' x y++UD R R' ks ks'
 | .ptr r o::ks,.ptr r' o'::ks'=>if r==r'&&o==o'&&(aU R r).BH&&(aU R' r).BH then UD R R' ks ks' else [False]
 | .mW r::ks,.mW r'::ks'=>if r==r'&&(aU R' r).a2T&&(!(aU R' r).wH || (aU R r).wH) then UD R R' ks ks' else [False]
 | _,_=>[False]
theorem b5M {R R':Rho} {r r':Nat} (h:(r==r'&&(aU R' r).a2T&&(!(aU R' r).wH || (aU R r).wH))=true):r=r'/\(aU R' r).FQ/\((aU R' r).nK->(aU R r).nK):=by simp only[ay,jo,Bool.or_eq_true,zq] at h;obtain⟨⟨h1,h2⟩,h3⟩:=h;refine⟨h1,Res.a2U h2,fun hb=>?_⟩;have:=Res.yO.2 hb;rw[this] at h3;exact Res.yO.1 (h3.resolve_left (by simp))
theorem KG {R R':Rho}:∀ {ks ks':List K0},dH (UD R R' ks ks')->UE R R' ks ks'
 | [],[],_=>trivial
 | k::ks,[],h=>by cases k<;>exact h.1.elim
 | [],k::ks,h=>h.1.elim
 | k::ks,k'::ks',h=>by
  cases k<;>cases k'<;>first|exact h.1.elim|skip
  ·exact⟨yJ (dI.1 h).1,KG (dI.1 h).2⟩
  ·simp only[UD] at h;split at h<;>first|exact h.1.elim|skip
   rename_i hb;simp only[ay,jo] at hb;exact⟨⟨hb.1.1.1,hb.1.1.2,Res.uJ hb.1.2,Res.uJ hb.2⟩,KG h⟩
  ·simp only[UD] at h;split at h<;>first|exact h.1.elim|skip
   rename_i hb;exact⟨b5M hb,KG h⟩
noncomputable def a8K (R R':Rho) (k k':K):List Cd:=if b2f R R' k k' then [] else match k,k' with
 | .val t x,.val t' y=>eqC t t' x y
 | .fn g ks,.fn g' ks'=>if g==g' then UD R R' ks ks' else [False]
 | .cell r v i,.cell r' v' i'=>if r==r'&&v'==0&&CX v (aU R r)&&CX 0 (aU R' r)&&(aU R r).esz==(aU R' r).esz then [i=i'] else [False]
 | .mrow r v i,.mrow r' v' i'=>if r==r'&&v'==0&&OY v (aU R r)&&OY 0 (aU R' r) then (i=i')::a7A (aU R r) (aU R' r) else [False]
 | .mpos r v i j,.mpos r' v' i' j'=>if r==r'&&v'==0&&OY v (aU R r)&&OY 0 (aU R' r)&&(aU R r).msz==(aU R' r).msz then (i=i')::(j=j')::a7A (aU R r) (aU R' r) else [False]
 | k,k'=>[leK R R' k k']
theorem a1i {R R':Rho} {k k':K} (h:dH (a8K R R' k k')):leK R R' k k':=by
 unfold a8K at h;split at h
 ·rename_i e;exact b5N e
 ·split at h
  ·exact yJ h
  ·split at h<;>first|exact h.1.elim|skip
   rename_i hb;exact⟨by simpa using hb,KG h⟩
  ·split at h<;>first|exact h.1.elim|skip
   rename_i hb;simp only[ay,jo] at hb;obtain⟨⟨⟨⟨h1,h2⟩,h3⟩,h4⟩,h5⟩:=hb;exact⟨h1,h.1,h2,vS h3,vS h4,h5⟩
  ·split at h<;>first|exact h.1.elim|skip
   rename_i hb;simp only[ay,jo] at hb;obtain⟨⟨⟨h1,h2⟩,h3⟩,h4⟩:=hb;exact⟨h1,h.1,h2,KJ h3,KJ h4,a3F h.2⟩
  ·split at h<;>first|exact h.1.elim|skip
   rename_i hb;simp only[ay,jo] at hb;obtain⟨⟨⟨⟨h1,h2⟩,h3⟩,h4⟩,h5⟩:=hb;exact⟨⟨h1,h.1,h.2.1,h2,KJ h3,KJ h4⟩,a3F h.2.2,h5⟩
  ·exact h.1
noncomputable def c0f:List Part->List Part->List Cd
 | [],[]=>[]
 | p::ps,q::qs=>eqC p.t q.t p.x q.x++c0f ps qs
 | _,_=>[False]
theorem a6y:∀ {ps qs:List Part},dH (c0f ps qs)->leP ps qs
 | [],[],_=>trivial
 | p::ps,q::qs,h=>⟨yJ (dI.1 h).1,a6y (dI.1 h).2⟩
 | [],_::_,h=>h.1.elim
 | _::_,[],h=>h.1.elim
noncomputable def c0e {t t':Ty} (ids qV:Option (List Nat)) (xss:List (List t.den)) (yss:List (List t'.den)):List Cd:=match ids,qV with
 | some l,none=>l.Nodup::eqC (.list (.list t)) (.list (.list t')) (l.map fun i=>xss.getD i []) yss
 | none,none=>eqC (.list (.list t)) (.list (.list t')) xss yss
 | some l,some l'=>(l=l')::eqC (.list (.list t)) (.list (.list t')) xss yss
 | none,some _=>[False]
theorem b5P {t t':Ty} {ids qV:Option (List Nat)} {xss:List (List t.den)} {yss:List (List t'.den)} (h:dH (c0e ids qV xss yss)):leM ids qV xss yss:=by
 cases ids<;>cases qV<;>simp only[c0e] at h
 ·exact⟨rfl,yJ h⟩
 ·exact h.1.elim
 ·exact⟨h.1,yJ h.2⟩
 ·exact⟨by rw[h.1],yJ h.2⟩
noncomputable def b5Q (R R':Rho):Res->Res->List Cd
 | _,.none=>[]
 | .box ps,.box qs=>c0f ps qs
 | .row e t xs _,.row e' t' ys v=>if e=e'/\v=0 then eqC (.list t) (.list t') xs ys else [False]
 | .mat e _ t none xss _,.row e' t' ys v=>if e=e'/\v=0 then eqC (.list (.list t)) (.list t') xss ys else [False]
 | .fro t xs _,.fro t' ys v=>if v=0 then eqC (.list t) (.list t') xs ys else [False]
 | .mat e e2 t ids xss _,.mat e' e2' t' qV yss v=>if e=e'/\e2=e2'/\v=0 then c0e ids qV xss yss else [False]
 | .lG k,.lG k'=>if k'.one then a8K R R' k k' else [False]
 | .lG _,.gone=>[]
 | .gone,.gone=>[]
 | x,y=>[leR R R' x y]
theorem b5R {R R':Rho} {x y:Res} (h:dH (b5Q R R' x y)):leR R R' x y:=by
 unfold b5Q at h;split at h
 ·cases x<;>trivial
 ·exact a6y h
 ·split at h
  ·rename_i hh;exact⟨hh.1,hh.2,yJ h⟩
  ·exact h.1.elim
 ·split at h
  ·rename_i hh;exact⟨hh.1,hh.2,yJ h⟩
  ·exact h.1.elim
 ·split at h
  ·rename_i hh;exact⟨hh,yJ h⟩
  ·exact h.1.elim
 ·split at h
  ·rename_i hh;exact⟨hh.1,hh.2.1,hh.2.2,b5P h⟩
  ·exact h.1.elim
 ·split at h
  ·rename_i hh;exact⟨hh,a1i h⟩
  ·exact h.1.elim
 ·trivial
 ·trivial
 ·exact h.1
noncomputable def b5O (G:Gam) (R:Rho) (S:Gam) (Z:Rho) (l:List Nat):List Cd :=
 S.flatMap (fun p=>a8K R Z (bF G p.1) p.2)++(cut (S.map (·.1)++l) G).flatMap (fun p=>if (bF G p.1).res.isEmpty then [] else a8K R Z (bF G p.1) (jC (bF G p.1)))++Z.flatMap (fun p=>b5Q R Z (aU R p.1) p.2)
theorem a1j {G:Gam} {R:Rho} {S:Gam} {Z:Rho} {l:List Nat} (h:dH (b5O G R S Z l)):leL G R S Z l:=by
 obtain⟨h12,h3⟩:=dI.1 h;obtain⟨h1,h2⟩:=dI.1 h12;refine⟨fun p hp=>a1i (uH (f:=fun p=>a8K R Z (bF G p.1) p.2) h1 hp),fun p hp=>?_,fun p hp=>b5R (uH (f:=fun p=>b5Q R Z (aU R p.1) p.2) h3 hp)⟩;by_cases e:(bF G p.1).res.isEmpty=true
 ·exact .inl e
 ·have:=uH h2 hp;rw[bn e] at this;exact .inr (a1i this)
def c4f (R:Rho):K->Bool
 | .own r v=>!CX v (aU R r)
 | .cell r v _=>!CX v (aU R r)
 | .mrow r v _=>!OY v (aU R r)
 | .mpos r v _ _=>!OY v (aU R r)
 | _=>false
def TL (G:Gam) (R:Rho) (zs:List Nat):List Nat:=(G.filter fun p=>(bF G p.1).res.any (fun r=>!zs.contains r) || c4f R (bF G p.1)).map (·.1)
def b8g (G G':Gam) (l:List Nat):Bool:=(cut l G).all fun p=>NC (jC (bF G p.1)) || !NC (jC (bF G' p.1))
def b1x (G G':Gam) (l:List Nat):List Cd:=if b8g G G' l then [] else [False]
noncomputable def a5t (F:(Exit->Gam->Rho->Prop)->Gam->Rho->Prop) (L l k:List Nat) (Q:Exit->Gam->Rho->Prop):Nat->Gam->Rho->Prop
 | 0,_,_=>False
 | n+1,G,R=>F (a7L (fun G R=>dH (b5O G R (a0j G l) (b4l R k) (less L l++TL G R k))/\c4g (a0j G l) L=true/\a5t F L l k Q n (a0j G l++rE (cut ((a0j G l).map (·.1)++(less L l++TL G R k)) G)) (b4l R k)) Q) G R
def ifB (b:Bool) (p q:Prop):Prop:=match b with
 | true=>p
 | false=>q
theorem gZ {b:Bool} {p q:Prop}:ifB b p q↔(b=true->p)/\(b=false->q):=by cases b<;>simp[ifB]
def one1 (B:Book) (G:Gam):Code->Option (Option (Nat × K))
 | .skip=>some none
 | .region _ ops false=>match ops.toList with
  | [o]=>match o.op,o.dst,o.guard with
   | .assign x,some d,none=>if b0M B (some d) then some (some (d,opK (jY (tmpsOf (.assign x)) (bF G)) x)) else none
   | _,_,_=>none
  | _=>none
 | _=>none
def a3e (b:Bool):K->K->K
 | .val t x,.val t' y=>match gK t t' x with
  | some x=>.val t' (bif b then x else y)
  | none=>.any
 | _,_=>.any
def YU (b:Bool) (G:Gam):Option (Nat × K)->Option (Nat × K)->Option (Nat × K)
 | some (d,k),none=>some (d,a3e b k (bF G d))
 | none,some (d,k)=>some (d,a3e b (bF G d) k)
 | some (d,k),some (d',k')=>if d=d' then some (d,a3e b k k') else none
 | none,none=>none
def named (Q:Gam->Prop) (G:Gam) (d:Nat):K->Prop
 | .val t y=>∀ z:t.den,z=y->Q ((d,.val t z)::G)
 | k=>Q ((d,k)::G)
theorem named_ok {Q:Gam->Prop} {G:Gam} {d:Nat} {k:K} (h:named Q G d k):Q ((d,k)::G):=by cases k<;>first|exact h|exact h _ rfl
def b8s (B:Book) (G:Gam) (b:Bool) (t e:Code):Operand->Option (Nat × K)
 | .tmp s=>if B.T.kb (1000000+s) then (match one1 B G t,one1 B G e with
  | some l1,some l2=>YU b G l1 l2
  | _,_=>none) else none
 | _=>none
def c6B (ops:Array Oper):List Nat:=ops.toList.flatMap fun o=>tmpsOf o.op
def b1h (G:Gam):Rho->List Nat->Rho
 | R,[]=>R
 | R,s::l=>match tH (aU R) (bF G s) with
  | some (_,q)=>b1h G (aft R q) l
  | none=>b1h G R l
noncomputable def vwp (B:Book):Code->List Ann->(Exit->Gam->Rho->Prop)->Gam->Rho->Prop
 | .skip,_,Q,G,R=>Q .normal G R
 | .label _,_,Q,G,R=>Q .normal G R
 | .exit i,_,Q,G,R=>Q (.exit i) G R
 | .ret,_,Q,G,R=>Q .ret G R
 | .region _ ops draw,_,Q,G,R=>match jJ B ops draw G R with
  | some ([],G',R')=>Q .normal G' R'
  | some (vc,G',R')=>dH vc/\Q .normal G' R'
  | none=>match jJ B ops draw G (b1h G R (c6B ops)) with
   | some ([],G',R')=>Q .normal G' R'
   | some (vc,G',R')=>dH vc/\Q .normal G' R'
   | none=>False
 | .seq a b,A,Q,G,R=>vwp B a (A.take (nl a)) (a7L (vwp B b (A.drop (nl a)) Q) Q) G R
 | .cond c t e,A,Q,G,R=>match opK (bF G) c with
  | .val .bool b=>match b8s B G b t e c with
   | some (d,k)=>named (fun G'=>Q .normal G' R) G d k
   | none=>ifB b (vwp B t (A.take (nl t)) Q G R) (vwp B e (A.drop (nl t)) Q G R)
  | _=>False
 | .block i c,A,Q,G,R=>vwp B c A (a9T i Q) G R
 | .loop c,A,Q,G,R=>match A with
  | .inv ι S Z m i0 sub::_=>dH (b5O G R (S i0) (Z i0) (asg c++TL G R ((Z i0).map (·.1)))) /\
   ∀ i,c4g (S i) (asg c)=true/\vwp B c (sub i) (a7L (fun G' R'=>∃ i',m i'<m i/\dH (b1x G G' ((S i').map (·.1)++(asg c++TL G R ((Z i0).map (·.1))))++b5O G' R' (S i') (Z i') (asg c++TL G R ((Z i0).map (·.1))))) Q) (S i++rE (cut ((S i).map (·.1)++(asg c++TL G R ((Z i0).map (·.1)))) G)) (Z i)
  | .rounds n l sub::_=>a1N (vwp B c sub) (less (asg c) l) Q n G R
  | .turns n l k sub::_=>a5t (vwp B c sub) (asg c) l k Q n G R
  | []=>False
 | _,_,_,_,_=>False
section
variable {B:Book} {W:World} {base:Fix}
def Fr (l:List Nat) (G G':Gam):Prop:=∀ s,s ∉ l->jC (bF G' s)=.any\/jC (bF G' s)=jC (bF G s)
theorem Fr.trans {l m:List Nat} {G G' G'':Gam} (h:Fr l G G') (k:Fr m G' G''):Fr (l++m) G G'':=fun s hs=>by
 simp only[tu,not_or] at hs;rcases k s hs.2 with e|e
 ·exact .inl e
 ·rcases h s hs.1 with e2|e2
  ·exact .inl (e.trans e2)
  ·exact .inr (e.trans e2)
theorem Fr.refl (l:List Nat) (G:Gam):Fr l G G:=fun _ _=>.inr rfl
theorem Fr.more {l m:List Nat} {G G':Gam} (h:Fr l G G') (hl:∀ s ∈ l,s ∈ m):Fr m G G':=fun s hs=>h s (fun h'=>hs (hl s h'))
theorem Fr.two {l:List Nat} {G G' G'':Gam} (h:Fr l G G') (k:Fr l G' G''):Fr l G G'':=(h.trans k).more (fun s hs=>(tu.1 hs).elim id id)
theorem ZY {ops:Array Oper}:∀ {l:List Oper} {G:Gam} {R:Rho} {vc:List Cd} {G':Gam} {R':Rho},yY B ops l G R=some (vc,G',R')->Fr (l.filterMap (·.dst)) G G'
 | [],G,R,vc,G',R',h=>by simp only[yY,ah,ak] at h;obtain⟨_,rfl,_⟩:=h;exact Fr.refl _ _
 | o::rest,G,R,vc,G',R',h=>by
  simp only[yY] at h;split at h<;>try(cases h;done)
  rename_i vc1 k l1 h1;split at h<;>try(cases h;done)
  rename_i vc2 G2 R2 h2;simp only[ah,ak] at h;obtain⟨_,rfl,_⟩:=h;intro s hs;have ih:=ZY h2;cases hd:o.dst with
  | none =>
   rw[List.filterMap_cons_none hd] at hs;exact(ih s hs).imp id (fun h=>h.trans (by rw[xO,hd];rfl))
  | some d =>
   rw[List.filterMap_cons_some hd] at hs;simp only[jh,not_or] at hs;exact(ih s hs.2).imp id (fun h=>h.trans (by rw[xO,hd];exact qw jC (aS _ _ hs.1)))
theorem a0c {ops:Array Oper}:∀ {l:List Oper} {G:Gam} {R:Rho} {vc:List Cd} {ss:List Sim} {G':Gam} {R':Rho},zA B ops l G R=some (vc,ss,G',R')->Fr (l.filterMap (·.dst)) G G'
 | [],G,R,vc,ss,G',R',h=>by simp only[zA,ah,ak] at h;obtain⟨_,_,rfl,_⟩:=h;exact Fr.refl _ _
 | o::rest,G,R,vc,ss,G',R',h=>by
  simp only[zA] at h;split at h<;>try(cases h;done)
  rename_i vc1 k l1 h1;split at h<;>try(cases h;done)
  rename_i vc2 ss2 G2 R2 h2;simp only[ah,ak] at h;obtain⟨_,_,rfl,_⟩:=h;intro s hs;have ih:=a0c h2;cases hd:o.dst with
  | none =>
   rw[List.filterMap_cons_none hd] at hs;exact(ih s hs).imp id (fun h=>h.trans (by rw[xO,hd];rfl))
  | some d =>
   rw[List.filterMap_cons_some hd] at hs;simp only[jh,not_or] at hs;exact(ih s hs.2).imp id (fun h=>h.trans (by rw[xO,hd];exact qw jC (aS _ _ hs.1)))
theorem a1B {id:Nat} {ops:Array Oper} {draw:Bool} {G:Gam} {R:Rho} {vc:List Cd} {G':Gam} {R':Rho} (h:jJ B ops draw G R=some (vc,G',R')):Fr (asg (.region id ops draw)) G G':=by
 unfold jJ at h;cases draw with
 | true =>
  simp only[Du] at h;split at h<;>try(cases h;done)
  rename_i vc1 ss G1 R1 b9U;split at h<;>try(cases h;done)
  simp only[ah,ak] at h;obtain⟨_,rfl,_⟩:=h;exact a0c b9U
 | false =>
  simp only[xu,if_false] at h;exact ZY h
def PostF (B:Book) (W:World) (base:Fix) (Q:Exit->Gam->Rho->Prop) (l:List Nat) (G:Gam) (e:Exit) (a:Act) (w:World):Prop:=∃ G' R,Q e G' R/\Fr l G G'/\St B W base G' R a w
theorem wF {l:List Nat} {s:Nat} (h:s ∈ l):∀ (G:Gam),bF (cut l G) s=.any
 | []=>rfl
 | (q,k)::G=>by
  unfold cut;rw[List.filter_cons];have ih:=wF h G;unfold cut at ih;split
  ·rename_i hq;simp only[bF];rw[bn]
   ·exact ih
   ·rintro rfl;have:l.contains s=true:=by simpa using h
    rw[this] at hq;cases hq
  ·exact ih
theorem mQ {l:List Nat} {s:Nat} (h:s ∉ l):∀ (G:Gam),bF (cut l G) s=bF G s
 | []=>rfl
 | (q,k)::G=>by
  unfold cut;rw[List.filter_cons];have ih:=mQ h G;unfold cut at ih;split
  ·simp only[bF];split
   ·rfl
   ·exact ih
  ·rename_i hq;simp only[bF];rw[bn]
   ·exact ih
   ·rintro rfl;have:l.contains s=true:=by simpa using hq
    exact h (by simpa using this)
theorem a6s {S:Gam} {L l:List Nat} {G:Gam} (h:c4g S L=true):Fr L G (S++rE (cut (S.map (·.1)++l) G)):=fun s hs=>by
 rcases TP S (rE (cut (S.map (·.1)++l) G)) s with⟨p,k1,rfl,k3⟩|⟨k1,k2⟩
 ·left;obtain⟨p',j1,j2,j3⟩:=yM ⟨p,k1,rfl⟩;have:=zh.1 h p' j1;rw[j2] at this;simp only[Bool.or_eq_true,List.contains_eq_mem,jc,ND] at this;rw[k3,j3,this.resolve_left hs];rfl
 ·rw[k2,vH,XA];by_cases hm:s ∈ S.map (·.1)++l
  ·left;rw[wF hm];rfl
  ·right;rw[mQ hm]
theorem a8z {S:Gam} {L l:List Nat} {G G':Gam} (h:Fr L G G') (hL:∀ s ∈ L,s ∈ S.map (·.1)++l) (hb:dH (b1x G G' (S.map (·.1)++l))) (s:Nat):bF (S++rE (cut (S.map (·.1)++l) G)) s=bF (S++rE (cut (S.map (·.1)++l) G')) s:=by
 have hb:b8g G G' (S.map (·.1)++l)=true:=by
  unfold b1x at hb;split at hb
  ·assumption
  ·exact hb.1.elim
 have e:bF (rE (cut (S.map (·.1)++l) G)) s=bF (rE (cut (S.map (·.1)++l) G')) s:=by
  rw[vH,vH];by_cases hm:s ∈ S.map (·.1)++l
  ·rw[wF hm,wF hm]
  ·rw[mQ hm,mQ hm];rcases h s (fun h'=>hm (hL s h')) with e|e
   ·rcases TQ (cut (S.map (·.1)++l) G) s with e2|⟨p,hp,rfl⟩
    ·rw[mQ hm] at e2;rw[e,e2];rfl
    ·have:=zh.1 hb p hp;rw[e] at this;simp only[NC,Bool.not_true,Bool.or_false,ND] at this;rw[e,ND.1 this]
   ·exact e.symm
 have:∀ (S:Gam) (X Y:Gam),bF X s=bF Y s->bF (S++X) s=bF (S++Y) s:=by
  intro S
  induction S with
  | nil=>intro X Y h;exact h
  | cons p S ih =>
   intro X Y h;simp only[List.cons_append,bF];split
   ·rfl
   ·exact ih X Y h
 exact this S _ _ e
def c0C (l:Option (Nat × K)) (G:Gam):Gam:=match l with
 | some p=>p::G
 | none=>G
theorem a6W {c:Code} {l:Option (Nat × K)} {A:List Ann} {G:Gam} {R:Rho} (h:one1 B G c=some l):vwp B c A (fun e G' R'=>e=.normal/\G'=c0C l G/\R'=R) G R:=by
 cases c<;>try (simp[one1] at h;done)
 case skip =>
  simp only[one1,ah] at h;subst h;exact⟨rfl,rfl,rfl⟩
 case region id ops draw =>
  cases draw<;>try (simp[one1] at h;done)
  simp only[one1] at h;split at h<;>try(cases h;done)
  rename_i o ho;split at h<;>try(cases h;done)
  rename_i x d h1 h2 h3;split at h<;>try(cases h;done)
  rename_i hd;simp only[ah] at h;subst h;have hr:jJ B ops false G R=some ([],(d,opK (jY (tmpsOf (.assign x)) (bF G)) x)::G,R):=by simp only[jJ,xu,if_false,ho,yY,xW,h1,h2,h3,hd,Du,qI,fG,Aj,b6R,aft]
  simp only[vwp,hr];exact⟨trivial,rfl,trivial⟩
theorem EP {b:Bool} {k k':K}:(b=true->a3e b k k'=k\/a3e b k k'=.any)/\(b=false->a3e b k k'=k'\/a3e b k k'=.any):=by
 cases k<;>try exact⟨fun _=>.inr rfl,fun _=>.inr rfl⟩
 cases k'<;>try exact⟨fun _=>.inr rfl,fun _=>.inr rfl⟩
 rename_i t x t' y;simp only[a3e];split
 ·rename_i x' hc;obtain⟨rfl,rfl⟩:=dO hc;exact⟨fun h=>.inl (by rw[h];rfl),fun h=>.inl (by rw[h];rfl)⟩
 ·exact⟨fun _=>.inr rfl,fun _=>.inr rfl⟩
theorem b1U {b:Bool} {G:Gam} {l1 l2:Option (Nat × K)} {p:Nat × K} (h:YU b G l1 l2=some p):(b=true->∀ s,bF (p::G) s=bF (c0C l1 G) s\/bF (p::G) s=.any)/\(b=false->∀ s,bF (p::G) s=bF (c0C l2 G) s\/bF (p::G) s=.any):=by
 have hc:∀ (d:Nat) (k:K) (s:Nat),bF ((d,k)::G) s=if s=d then k else bF G s:=fun _ _ _=>rfl
 have hs:∀ (s d:Nat),s=d->bF G s=bF G d:=fun s d h=>by rw[h]
 cases l1 with
 | none =>
  cases l2 with
  | none=>simp[YU] at h
  | some q =>
   obtain⟨d,k⟩:=q;simp only[YU,ah] at h;subst h;refine⟨fun hb s=>?_,fun hb s=>?_⟩
   ·show bF ((d,_)::G) s=bF G s\/_;rw[hc];split
    ·rename_i e;rw[hs s d e];exact EP.1 hb
    ·exact .inl rfl
   ·show bF ((d,_)::G) s=bF ((d,k)::G) s\/_;rw[hc,hc];split
    ·exact EP.2 hb
    ·exact .inl rfl
 | some p1 =>
  obtain⟨d,k⟩:=p1;cases l2 with
  | none =>
   simp only[YU,ah] at h;subst h;refine⟨fun hb s=>?_,fun hb s=>?_⟩
   ·show bF ((d,_)::G) s=bF ((d,k)::G) s\/_;rw[hc,hc];split
    ·exact EP.1 hb
    ·exact .inl rfl
   ·show bF ((d,_)::G) s=bF G s\/_;rw[hc];split
    ·rename_i e;rw[hs s d e];exact EP.2 hb
    ·exact .inl rfl
  | some q =>
   obtain⟨d',k'⟩:=q;simp only[YU] at h;split at h<;>try(cases h;done)
   rename_i e;subst e;simp only[ah] at h;subst h;refine⟨fun hb s=>?_,fun hb s=>?_⟩
   ·show bF ((d,_)::G) s=bF ((d,k)::G) s\/_;rw[hc,hc];split
    ·exact EP.1 hb
    ·exact .inl rfl
   ·show bF ((d,_)::G) s=bF ((d,k')::G) s\/_;rw[hc,hc];split
    ·exact EP.2 hb
    ·exact .inl rfl
theorem St.less {G G':Gam} {R:Rho} {a:Act} {w:World} (h:St B W base G R a w) (hk:∀ s,bF G' s=bF G s\/bF G' s=.any):St B W base G' R a w:=by
 obtain⟨E,h0,h1,h2⟩:=h;refine⟨E,h0,h1,h2.size,h2.defers,fun s=>?_,fun s=>?_,h2.par⟩
 ·rcases hk s with e|e
  ·rw[e];exact h2.wf s
  ·rw[e];trivial
 ·rcases hk s with e|e
  ·rw[e];exact h2.holds s
  ·rw[e];trivial
theorem Fr.less {l:List Nat} {G G1 G':Gam} (h:Fr l G G1) (hk:∀ s,bF G' s=bF G1 s\/bF G' s=.any):Fr l G G':=fun s hs=>by
 rcases hk s with e|e
 ·rw[e];exact h s hs
 ·exact .inl (by rw[e];rfl)
theorem QL {a:Act} {w:World} {G:Gam}:∀ {l:List Nat} {R:Rho},St B W base G R a w->St B W base G (b1h G R l) a w
 | [],_,h=>h
 | s::l,R,h=>by
  unfold b1h;split
  ·rename_i p q hp;refine QL (l:=l) ?_;obtain⟨E,h0,h1,h2⟩:=h;have hp2:wR (aU R) none (bF G s)=some (p,q):=by cases hk:bF G s<;>rw[hk] at hp<;>first|exact hp|cases hp
   obtain⟨E',m1,m2,m3⟩:=oC hp2 h1 (h2.wf s) (h2.holds s);refine⟨E',m2.fix.trans h0,by rw[pY];exact m1,h2.size,h2.defers,fun x=>?_,fun x=>?_,fun x hx=>by rw[m2.par];exact h2.par x hx⟩
   ·rw[pY];exact m2.wf _ (h2.wf x)
   ·rw[pY];exact m2.holds _ _ (h2.wf x) (h2.holds x)
  ·exact QL (l:=l) h
theorem a5w (hB:B.Ok) (hm:B.P.follows .mixedOrders=true):∀ (c:Code) {A:List Ann} {Q:Exit->Gam->Rho->Prop} {G:Gam} {R:Rho} {a:Act} {w:World},vwp B c A Q G R->St B W base G R a w->c.wp B.P (PostF B W base Q (asg c) G) a w:=by
 intro c
 induction c with
 | skip=>intro A Q G R a w h hs;exact wp_skip ⟨G,R,h,Fr.refl _ _,hs⟩
 | label l=>intro A Q G R a w h hs;exact wp_label ⟨G,R,h,Fr.refl _ _,hs⟩
 | exit i=>intro A Q G R a w h hs;exact wp_exit ⟨G,R,h,Fr.refl _ _,hs⟩
 | ret=>intro A Q G R a w h hs;exact wp_ret ⟨G,R,h,Fr.refl _ _,hs⟩
 | region id ops draw =>
  intro A Q G R a w h hs;have key:∀ {R:Rho} (vc:List Cd) (G':Gam) (R':Rho),St B W base G R a w->jJ B ops draw G R=some (vc,G',R')->dH vc->Q .normal G' R'->(Code.region id ops draw).wp B.P (PostF B W base Q (asg (.region id ops draw)) G) a w:=fun vc G' R' hs hr hv hq =>
   Cj (KZ (id:=id) hB hm (Q:=fun e G2 R2=>e=.normal/\G2=G'/\R2=R') hr hv ⟨rfl,rfl,rfl⟩ hs) (fun e a' w' hp=>by
    obtain⟨G2,R2,⟨rfl,rfl,rfl⟩,k2⟩:=hp;exact⟨_,_,hq,a1B (id:=id) hr,k2⟩)
  simp only[vwp] at h;split at h
  ·rename_i G' R' hr;exact key [] G' R' hs hr trivial h
  ·rename_i vc G' R' _ hr;exact key vc G' R' hs hr h.1 h.2
  ·split at h
   ·rename_i G' R' hr;exact key [] G' R' (QL hs) hr trivial h
   ·rename_i vc G' R' _ hr;exact key vc G' R' (QL hs) hr h.1 h.2
   ·exact h.elim
 | seq x y ihx ihy =>
  intro A Q G R a w h hs;refine wp_seq (Cj (ihx h hs) (fun e a' w' hq=>?_));obtain⟨G',R',k1,k2,k3⟩:=hq;have hfr:Fr (asg (.seq x y)) G G':=fun s hs'=>k2 s (fun h'=>hs' (Ac _ h'));cases e with
  | normal =>
   refine Cj (ihy k1 k3) (fun e2 a2 w2 hq2=>?_);obtain⟨G2,R2,j1,j2,j3⟩:=hq2;exact⟨G2,R2,j1,k2.trans j2,j3⟩
  | _=>exact⟨G',R',k1,hfr,k3⟩
 | cond c t e iht ihe =>
  intro A Q G R a w h hs;simp only[vwp] at h;split at h<;>first|exact h.elim|skip
  rename_i b hk;have hs2:=hs;obtain⟨E,h0,h1,h2⟩:=hs2;have hv:=(KQ h2).2 c;rw[hk] at hv;split at h
  ·rename_i d9 k9 hj;have h:=named_ok h;unfold b8s at hj;split at hj<;>first|(cases hj;done)|skip
   split at hj<;>first|(cases hj;done)|skip
   split at hj<;>first|(cases hj;done)|skip
   rename_i l1 l2 hl1 hl2;obtain⟨j1,j2⟩:=b1U hj;refine wp_cond_split (qJ hv) (fun hb=>Cj (iht (A:=[]) (a6W hl1) hs) (fun e a' w' hq=>?_)) (fun hb=>Cj (ihe (A:=[]) (a6W hl2) hs) (fun e a' w' hq=>?_))
   ·obtain⟨G1,R1,⟨rfl,rfl,rfl⟩,k2,k3⟩:=hq;exact⟨_,_,h,(k2.less (j1 hb)).more (fun s hs'=>Ac _ hs'),k3.less (j1 hb)⟩
   ·obtain⟨G1,R1,⟨rfl,rfl,rfl⟩,k2,k3⟩:=hq;exact⟨_,_,h,(k2.less (j2 hb)).more (fun s hs'=>Bq _ hs'),k3.less (j2 hb)⟩
  have h:=gZ.1 h;refine wp_cond_split (qJ hv) (fun hb=>Cj (iht (h.1 hb) hs) (fun e a' w' hq=>?_)) (fun hb=>Cj (ihe (h.2 hb) hs) (fun e a' w' hq=>?_));all_goals
   obtain⟨G',R',k1,k2,k3⟩:=hq
  ·exact⟨G',R',k1,fun s hs'=>k2 s (fun h'=>hs' (Ac _ h')),k3⟩
  ·exact⟨G',R',k1,fun s hs'=>k2 s (fun h'=>hs' (Bq _ h')),k3⟩
 | block id c ih =>
  intro A Q G R a w h hs;refine wp_block (Cj (ih h hs) (fun e a' w' hq=>?_));obtain⟨G',R',k1,k2,k3⟩:=hq;cases e with
  | exit i =>
   simp only[a9T] at k1;simp only[Exit.inBlock];split
   ·rename_i e;rw[dn e] at k1;exact⟨G',R',k1,k2,k3⟩
   ·rename_i e;rw[bn e] at k1;exact⟨G',R',k1,k2,k3⟩
  | _=>exact⟨G',R',k1,k2,k3⟩
 | loop c ih =>
  intro A Q G R a w h hs;simp only[vwp] at h;split at h
  ·rename_i ι S Z m i0 sub rest;obtain⟨h1,h2⟩:=h;refine wp_loop_rounds (m i0+1) (ZU (B:=B) (fun i a w=>St B W base (S i++rE (cut ((S i).map (·.1)++(asg c++TL G R ((Z i0).map (·.1)))) G)) (Z i) a w) m (fun i a' w' hi=>?_) (m i0+1) i0 a w (by omega) (a4z hs (a1j h1)));obtain⟨h3,h4⟩:=h2 i;refine Cj (ih h4 hi) (fun e a2 w2 hq=>?_);obtain⟨G',R',k1,k2,k3⟩:=hq;have hfr:Fr (asg c) G G':=(a6s h3).two k2;cases e with
   | normal =>
    obtain⟨i',k4,k5⟩:=k1;obtain⟨k6,k7⟩:=dI.1 k5;exact⟨i',k4,(a4z k3 (a1j k7)).congr (fun s=>a8z hfr (fun s hs'=>Bq _ (Ac _ hs')) k6 s)⟩
   | _=>exact⟨G',R',k1,hfr,k3⟩
  ·rename_i n l sub rest;refine wp_loop_rounds n ?_;have key:∀ n G1 R a w,Fr (asg c) G G1->a1N (vwp B c sub) (less (asg c) l) Q n G1 R->St B W base G1 R a w->Code.rounds B.P c (PostF B W base Q (asg (.loop c)) G) n a w:=by
    intro n
    induction n with
    | zero=>intro G1 R a w _ h _;exact h.elim
    | succ n ihn =>
     intro G1 R a w hf h hs;rw[rounds_succ];refine Cj (ih h hs) (fun e a2 w2 hq=>?_);obtain⟨G',R',k1,k2,k3⟩:=hq;have hfr:Fr (asg c) G G':=hf.two k2;cases e with
     | normal =>
      refine ihn _ _ _ _ (fun s hs'=>?_) k1 (k3.cut (l:=less (asg c) l));have hns:s ∉ less (asg c) l:=fun h'=>hs' (List.mem_filter.1 h').1;rw[mQ hns];exact hfr s hs'
     | _=>exact⟨G',R',k1,hfr,k3⟩
   exact key n G R a w (Fr.refl _ _) h hs
  ·rename_i n l k sub rest;refine wp_loop_rounds n ?_;have key:∀ n G1 R a w,Fr (asg c) G G1->a5t (vwp B c sub) (asg c) l k Q n G1 R->St B W base G1 R a w->Code.rounds B.P c (PostF B W base Q (asg (.loop c)) G) n a w:=by
    intro n
    induction n with
    | zero=>intro G1 R a w _ h _;exact h.elim
    | succ n ihn =>
     intro G1 R a w hf h hs;rw[rounds_succ];refine Cj (ih h hs) (fun e a2 w2 hq=>?_);obtain⟨G',R',k1,k2,k3⟩:=hq;have hfr:Fr (asg c) G G':=hf.two k2;cases e with
     | normal =>
      obtain⟨k4,k5,k6⟩:=k1;refine ihn _ _ _ _ (fun s hs'=>?_) k6 (a4z k3 (a1j k4));exact(hfr.two (a6s k5)) s hs'
     | _=>exact⟨G',R',k1,hfr,k3⟩
   exact key n G R a w (Fr.refl _ _) h hs
  ·exact h.elim
 | scope c ih=>intro A Q G R a w h hs;simp only[vwp] at h
 | goto l=>intro A Q G R a w h hs;simp only[vwp] at h
 | rangeFunc f ps x y _ _=>intro A Q G R a w h hs;simp only[vwp] at h
 | refuse s=>intro A Q G R a w h hs;simp only[vwp] at h
end
attribute [irreducible] vwp
end
section
set_option linter.unusedSimpArgs false
set_option linter.unusedVariables false
set_option maxRecDepth 20000
def NS (B:Book) (G:Nat->K) (ρ:Nat->Res) (t:Ty):ResultVar->Option (Part × List (Nat × Res))
 | .tmp s=>wR ρ (some t) (G s)
 | .cell s ty=>match G s with
  | .ptr r o=>match ρ r with
   | .box ps=>(a6A B.P B.T ty ps o).map fun p=>(p,[])
   | _=>none
  | .val (.ref u) y=>if fitsT B.P ty u then some (⟨u,y⟩,[]) else none
  | .mW r=>match ρ r with
   | .lG k=>if sZ B.P ty==some false then wR ρ (some t) k else none
   | _=>none
  | _=>none
def WZ (B:Book) (G:Nat->K):(Nat->Res)->(ts:List Ty)->List ResultVar->(nest ts).den->Prop
 | _,[],[],_=>True
 | ρ,t::ts,r::rs,y=>match NS B G ρ t r with
  | some (p,l)=>match kN p.t t with
   | some q=>dH (q.c p.x)/\q.f p.x=y.1/\WZ B G (after ρ l) ts rs y.2
   | none=>False
  | none=>False
 | _,_,_,_=>False
def a9e (B:Book) (ts:List Ty) (rs:List ResultVar) (y:(nest ts).den):Exit->Gam->Rho->Prop
 | .normal,G,R=>WZ B (bF G) (aU R) ts rs y
 | .ret,G,R=>WZ B (bF G) (aU R) ts rs y
 | _,_,_=>False
def sQ:Nat->(ts:List Ty)->(nest ts).den->Gam
 | _,[],_=>[]
 | i,t::ts,x=>(i,.val t x.1)::sQ (i+1) ts x.2
section
variable {B:Book} {W:World}
def CS (P:Program) (a:Act):ResultVar->Sem Value
 | .tmp t=>pure (a.tmps.getD t undef)
 | .cell s t=>do loadVar t (<-asAddr (a.tmps.getD s undef))
theorem a3c {P:Program} {w:World} {f:ResultVar->Sem Value}:∀ {rs:List ResultVar} {vs:List Value},lJ (fun r v=>(f r).run P w=.ok v w) rs vs->(rs.mapM f).run P w=.ok vs w
 | _,_,.nil=>by simp
 | _,_,.cons h1 h2=>by rw[List.mapM_cons,eu,h1];simp only[Result.andThen_ok,eu,a3c h2];rfl
theorem CV {P:Program} {fn:Func} {a:Act} {w:World} {vs:List Value} (h:lJ (fun r v=>(CS P a r).run P w=.ok v w) fn.results.toList vs):(results fn a.tmps).run P w=.ok (if h:vs.toArray.size=1 then vs.toArray[0] else .tuple vs.toArray) w:=by
 have e:results fn a.tmps=(do let us <-fn.results.mapM (CS P a);pure (if h:us.size=1 then us[0] else .tuple us)):=by unfold results;congr 2
 rw[e,Array.mapM_eq_mapM_toList];simp only[eu,map_eq_pure_bind,a3c h,Result.andThen_ok,Sem.run_pure]
theorem ZT {G:Nat->K} {ρ:Nat->Res} {E:Env} {w:World} {a:Act} {t:Ty} {r:ResultVar} {p:Part} {l:List (Nat × Res)} (h:NS B G ρ t r=some (p,l)) (hM:Mem E ρ W w) (hf:Fits E ρ w B a G) :
  ∃ v E',(CS B.P a r).run B.P w=.ok v w/\Mem E' (after ρ l) W w/\Ext E ρ w E' (after ρ l) w/\jU (fz w E') w p.t v p.x:=by
 cases r with
 | tmp s =>
  obtain⟨E',m1,m2,m3⟩:=oC h hM (hf.wf s) (hf.holds s);exact⟨_,E',rfl,m1,m2,m3⟩
 | cell s ty =>
  simp only[NS] at h;have hs:=hf.holds s;have hs':a.tmps.getD s undef=a.eval (.tmp s):=rfl;split at h<;>try(cases h;done)
  ·rename_i rr o hk;rw[hk] at hs;split at h<;>try(cases h;done)
   rename_i ps hr;simp only[ig,ak] at h;obtain⟨p',h1,rfl,rfl⟩:=h;obtain⟨b,hb,hp⟩:=hs;have hres:=hM.res rr;rw[hr] at hres;obtain⟨b',cs,e,k1,k3,k4⟩:=hres;rw[hb] at k1;cases k1;obtain⟨hft,c,hc,hrep⟩:=a3a h1 k4;have hrg:w.rangeAt b o c:=fun j v hv=>by rw[yg _ _ _ _ _ _ k3,<-hv];simp only[List.getElem?_toArray];rw[<-hc,List.getElem?_take,dn (by have:=(jy.1 hv).1;exact this),List.getElem?_drop]
   refine⟨p'.t.toV c,E,?_,hM,Ext.refl _ _ _,c,rfl,hrep⟩;simp only[CS,hs',hp,asAddr,eu,Sem.run_pure,Result.andThen_ok];exact kM hft hrg hrep
  ·rename_i u y hk;rw[hk] at hs;split at h<;>try(cases h;done)
   rename_i hft;simp only[ah,ak] at h;obtain⟨rfl,rfl⟩:=h;obtain⟨b,o,ds,hp,k1,k2,k3⟩:=FB hs;refine⟨u.toV ds,E,?_,hM,Ext.refl _ _ _,ds,rfl,k3⟩;simp only[CS,hs',hp,asAddr,eu,Sem.run_pure,Result.andThen_ok];exact kM hft k2 k3
  ·rename_i rr hk;rw[hk] at hs;split at h<;>try(cases h;done)
   rename_i k9 hr;split at h<;>try(cases h;done)
   rename_i ha;obtain⟨q1,q2,b,u,e,q3,q4,q5,q6⟩:=hM.kbx rr k9 hr;obtain⟨b',g1,g2⟩:=hs (by rw[hr];trivial);rw[g1] at q3;cases q3;obtain⟨E',m1,m2,m3⟩:=oC h hM q1 q6;refine⟨u,E',?_,m1,m2,m3⟩;simp only[CS,hs',g2,asAddr,eu,Sem.run_pure,Result.andThen_ok];exact KH (by simpa using ha) (by rw[yg w _ _ _ _ _ q4];rfl)
theorem a7t {G:Nat->K} {w:World} {a:Act}:∀ {ts:List Ty} {rs:List ResultVar} {y:(nest ts).den} {ρ:Nat->Res} {E:Env},WZ B G ρ ts rs y->Mem E ρ W w->Fits E ρ w B a G ->
  ∃ vs E',lJ (fun r v=>(CS B.P a r).run B.P w=.ok v w) rs vs/\E'.fix=E.fix/\jE (fz w E') w ts vs y/\∀ q,fz w E q->fz w E' q
 | [],[],y,ρ,E,h,hM,hf=>⟨[],E,.nil,rfl,rfl,fun _ h=>h⟩
 | t::ts,r::rs,y,ρ,E,h,hM,hf=>by
  simp only[WZ] at h;split at h<;>first|exact h.elim|skip
  rename_i p l h1;split at h<;>first|exact h.elim|skip
  rename_i q hq;obtain⟨hc,hy,h2⟩:=h;obtain⟨v,E1,k1,m1,m2,m3⟩:=ZT h1 hM hf;obtain⟨vs,E2,j1,j2,j3,j4⟩:=a7t h2 m1 ⟨hf.size,hf.defers,fun s=>m2.wf _ (hf.wf s),fun s=>m2.holds _ _ (hf.wf s) (hf.holds s),fun s hs=>by rw[m2.par];exact hf.par s hs⟩;refine⟨v::vs,E2,.cons k1 j1,j2.trans m2.fix,⟨v,vs,rfl,?_,j3⟩,fun q hq=>j4 q (m2.fz q hq)⟩;obtain⟨cs,rfl,hr⟩:=fU j4 (jK.refl _ _) m3;refine⟨cs,by unfold Ty.toV;rw[xH _ _ _ hq],?_⟩;rw[<-hy];exact tX _ _ _ hq cs _ hr hc
 | [],_::_,y,ρ,E,h,hM,hf=>by simp[WZ] at h
 | _::_,[],y,ρ,E,h,hM,hf=>by simp[WZ] at h
theorem LP {F:Nat->Prop} {w:World}:∀ {ts:List Ty} {vs:List Value} {y:(nest ts).den},jE F w ts vs y->vs.length=ts.length
 | [],vs,y,h=>by rw[show vs=[] from h];rfl
 | t::ts,vs,y,⟨v,vs',h1,h2,h3⟩=>by rw[h1,List.length_cons,LP h3];rfl
theorem b3p {F:Nat->Prop} {w:World} {ts:List Ty} {vs:List Value} {y:(nest ts).den} (h:jE F w ts vs y):rF F w ts (if h:vs.toArray.size=1 then vs.toArray[0] else .tuple vs.toArray) y:=by
 have hl:=LP h
 match ts,y,h with
 | [t],y,⟨v,vs',h1,h2,h3⟩ =>
  have h3:vs'=[]:=h3;subst h3;subst h1;exact h2
 | [],y,h =>
  have h:vs=[]:=h;subst h;exact⟨[],rfl,rfl⟩
 | t1::t2::ts,y,h =>
  refine⟨vs,?_,h⟩;rw[dif_neg (by simp[hl])]
theorem uX {F:Nat->Prop} {w:World} {E:Env} {ρ:Nat->Res} (hF:∀ q,F q->fz w E q):∀ {ts:List Ty} {vs:List Value} {x:(nest ts).den} (i s:Nat),jE F w ts vs x->(bF (sQ i ts x) s).wf ρ/\(i<=s->(bF (sQ i ts x) s).holds E ρ w (vs.getD (s-i) undef))/\(s<i->bF (sQ i ts x) s=.any)
 | [],vs,x,i,s,h=>⟨trivial,fun _=>trivial,fun _=>rfl⟩
 | t::ts,vs,x,i,s,⟨v,vs',h1,h2,h3⟩=>by
  obtain⟨k1,k2,k3⟩:=uX hF (i+1) s h3;simp only[sQ,bF];split
  ·rename_i e;subst e;refine⟨trivial,fun _=>?_,fun h=>by omega⟩;rw[h1,Nat.sub_self];exact fU hF (jK.refl _ _) h2
  ·rename_i e;refine⟨k1,fun h=>?_,fun h=>k3 (by omega)⟩;have:=k2 (by omega);rw[h1];have e2:s-i=(s-(i+1))+1:=by omega
   rw[e2,List.getD_cons_succ];exact this
theorem a5X {f:FuncId} {fn:Func} {code:Code} {c:Ctr} (hf:B.P.funcs[f]?=some fn) (hb:fn.body=some code) (hN:fn.ntmps=B.N) (hkeep:B.keep=fun _=>false) (hargs:c.args.length<=fn.ntmps)
  (h:∀ x,c.pre x->∀ (W:World) (base:Fix) (a:Act) (w:World),St B W base (sQ 0 c.args x) [] a w->code.wp B.P (fun e a' w'=>∃ G' R',a9e B c.res fn.results.toList (c.fn x) e G' R'/\St B W base G' R' a' w') a w):aJ B.P f c:=by
 intro F w vs x hF hvs hpre;have hl:=LP hvs
 let E:Env:=⟨fun _=>none,fun _=>undef,fun q=>F q\/w.heap.size<=q,fun _ _=>undef,fun _=>False,fun _=>undef⟩
 have hhas:∀ r j q,¬ E.has r j q:=fun r j q h=>by cases j<;>cases h
 have hFz:∀ q,F q->fz w E q:=fun q hq=>sH (hF q hq) (.inl hq) (fun r j=>hhas r j q);have hM:Mem E (aU []) w w:=⟨⟨rfl,rfl,rfl,aj _,fun _ _ _=>rfl⟩,fun r=>rfl,fun r j r' j' b e=>(hhas r j b e).elim,fun r j b e=>(hhas r j b e).elim,fun q hq=>hq.elim (fun h=>h.elim) .inr,fun r i _=>rfl,fun r k e=>(by cases e),fun b o n h=>h⟩;refine calls_of_wp hf hb (Cj (h x hpre w E.fix _ w ⟨E,rfl,hM,?_⟩) (fun e a w' hq=>?_))
 ·refine⟨by simp[hN];omega,rfl,fun s=>(uX hFz 0 s hvs).1,fun s=>?_,fun s hs=>by rw[hkeep] at hs;cases hs⟩;have h1:=(uX (ρ:=aU []) hFz 0 s hvs).2.1 (ru _);rw[Nat.sub_zero] at h1;by_cases hs:s<vs.length
  ·have:(({ tmps:=vs.toArray++Array.replicate (fn.ntmps-vs.toArray.size) undef,defers:=[] }:Act).eval (.tmp s))=vs.getD s undef:=by simp[Act.eval,jm,Array.getElem?_append,hs]
   rw[this];exact h1
  ·have hany:bF (sQ 0 c.args x) s=.any:=by
    have:∀ (ts:List Ty) (x:(nest ts).den) (i:Nat),i+ts.length<=s->bF (sQ i ts x) s=.any:=by
     intro ts
     induction ts with
     | nil=>intro x i _;rfl
     | cons t ts ih =>
      intro x i hi;simp only[List.length_cons] at hi;simp only[sQ,bF];rw[bn (by omega)];exact ih x.2 (i+1) (by omega)
    exact this c.args x 0 (by omega)
   rw[hany];trivial
 ·obtain⟨G',R',k1,E',k2,k3,k4⟩:=hq;have fin:WZ B (bF G') (aU R') c.res fn.results.toList (c.fn x)->a.defers=[]/\∃ v,(results fn a.tmps).run B.P w'=.ok v w'/\∃ v',Ending.returned v=.returned v'/\rF (newF F w w') w' c.res v' (c.fn x)/\Below w.heap.size w w':=fun hr=>by obtain⟨us,E2,j1,j2,j3,_⟩:=a7t hr k3 k4;refine⟨k4.defers,_,CV j1,_,rfl,b3p (kP (fun q hq=>⟨?_,hq.1.1⟩) (jK.refl _ _) _ _ _ j3),k3.below.below (fun q=>by rw[show E'.qF=E.qF from qw Fix.qF k2];exact id)⟩;have:=hq.1.2;rw[show E2.base=E.base from(qw Fix.base j2).trans (qw Fix.base k2)] at this;exact this
  cases e with
  | normal=>exact fin k1
  | ret=>exact fin k1
  | exit i=>exact k1.elim
  | goto l=>exact k1.elim
  | panic ch=>exact k1.elim
  | outgrown=>exact k1.elim
theorem b9p (hB:B.Ok) (hm:B.P.follows .mixedOrders=true) {f:FuncId} {fn:Func} {code:Code} {c:Ctr} (hf:B.P.funcs[f]?=some fn) (hb:fn.body=some code) (hN:fn.ntmps=B.N) (hkeep:B.keep=fun _=>false) (hargs:c.args.length<=fn.ntmps) (A:(nest c.args).den->List Ann)
  (h:∀ x,c.pre x->vwp B code (A x) (a9e B c.res fn.results.toList (c.fn x)) (sQ 0 c.args x) []):aJ B.P f c :=
 a5X hf hb hN hkeep hargs fun x hp W base a w hs=>Cj (a5w hB hm code (h x hp) hs) fun e a' w' hq=>by obtain⟨G',R',k1,_,k2⟩:=hq;exact⟨G',R',k1,k2⟩
end
end
section
set_option linter.unusedSimpArgs false
set_option linter.unusedVariables false
set_option maxRecDepth 20000
def lkP:(k:LK)->k.ty.den->Nat->Res->Prop
 | .row e t,y,v,.row e' t' xs v'=>match gK (.list t') (.list t) xs with
  | some ys=>if e'==e&&gv v'==gv v then y=ys else False
  | none=>False
 | .mat e e2 t,y,v,.mat e' e2' t' none xss v'=>match gK (.list (.list t')) (.list (.list t)) xss with
  | some yss=>if e'==e&&e2'==e2&&gv v'==gv v then y=yss else False
  | none=>False
 | _,_,_,_=>False
def lkG (k:LK) (y:k.ty.den) (ρ:Nat->Res) (only:Option Nat):K->Prop
 | .own r v=>if only.all (fun q=>q==r) then lkP k y v (ρ r) else False
 | _=>False
def mkP (k:LK) (y:k.ty.den) (G:Nat->K) (ρ:Nat->Res):List ResultVar->Prop
 | [.tmp s]=>lkG k y ρ none (G s)
 | _=>False
def b7c (k:LK) (y:k.ty.den) (rs:List ResultVar):Exit->Gam->Rho->Prop
 | .normal,G,R=>mkP k y (bF G) (aU R) rs
 | .ret,G,R=>mkP k y (bF G) (aU R) rs
 | _,_,_=>False
def WY (B:Book) (k:LK) (x:k.ty.den) (G:Nat->K):(Nat->Res)->(ts:List Ty)->List ResultVar->(nest ts).den->Prop
 | ρ,[],[],_=>lkG k x ρ (some 0) (G 0)
 | ρ,t::ts,r::rs,y=>match NS B G ρ t r with
  | some (p,l)=>match kN p.t t with
   | some q=>dH (q.c p.x)/\q.f p.x=y.1/\WY B k x G (after ρ l) ts rs y.2
   | none=>False
  | none=>False
 | _,_,_,_=>False
def b7d (B:Book) (k:LK) (x:k.ty.den) (ts:List Ty) (rs:List ResultVar) (y:(nest ts).den):Exit->Gam->Rho->Prop
 | .normal,G,R=>WY B k x (bF G) (aU R) ts rs y
 | .ret,G,R=>WY B k x (bF G) (aU R) ts rs y
 | _,_,_=>False
section
variable {B:Book} {W:World}
theorem c0i {k:LK} {y:k.ty.den} {v:Nat} {x:Res} (h:lkP k y v x):∃ v0,x=k.res y v0/\Res.isRow v x:=by
 cases k with
 | row e t =>
  cases x<;>first|exact h.elim|skip
  rename_i e' t' xs v';simp only[lkP] at h;split at h<;>first|exact h.elim|skip
  rename_i ys hc;split at h<;>first|exact h.elim|skip
  rename_i hb;simp only[ay,jo] at hb;obtain⟨rfl,hb⟩:=hb;obtain⟨e9,hc⟩:=dO hc;simp only[Ty.list.injEq] at e9;subst e9;have hc:xs=ys:=hc;subst hc;subst h;exact⟨v',rfl,hb⟩
 | mat e e2 t =>
  cases x<;>first|exact h.elim|skip
  rename_i e' e2' t' ids xss v';cases ids<;>first|exact h.elim|skip
  simp only[lkP] at h;split at h<;>first|exact h.elim|skip
  rename_i yss hc;split at h<;>first|exact h.elim|skip
  rename_i hb;simp only[ay,jo] at hb;obtain⟨⟨rfl,rfl⟩,hb⟩:=hb;obtain⟨e9,hc⟩:=dO hc;simp only[Ty.list.injEq] at e9;subst e9;have hc:xss=yss:=hc;subst hc;subst h;exact⟨v',rfl,hb⟩
theorem b2l {k:LK} {y:k.ty.den} {ρ:Nat->Res} {o:Option Nat} {k0:K} {E:Env} {w:World} {v:Value} (h:lkG k y ρ o k0) (hk:k0.holds E ρ w v):∃ r v0,o.all (fun q=>q==r)=true/\ρ r=k.res y v0/\v=E.sl r:=by
 cases k0<;>first|exact h.elim|skip
 rename_i r ver;simp only[lkG] at h;split at h<;>first|exact h.elim|skip
 rename_i ho;obtain⟨v0,h1,h2⟩:=c0i h;exact⟨r,v0,ho,h1,hk h2⟩
theorem a7s {G:Nat->K} {w:World} {a:Act} {k:LK} {x:k.ty.den}:∀ {ts:List Ty} {rs:List ResultVar} {y:(nest ts).den} {ρ:Nat->Res} {E:Env},WY B k x G ρ ts rs y->Mem E ρ W w->Fits E ρ w B a G ->
  ∃ vs E' ρ' v0,lJ (fun r v=>(CS B.P a r).run B.P w=.ok v w) rs vs/\E'.fix=E.fix/\Mem E' ρ' W w/\jE (fz w E') w ts vs y/\ρ' 0=k.res x v0/\a.eval (.tmp 0)=E'.sl 0/\∀ q,fz w E q->fz w E' q
 | [],[],y,ρ,E,h,hM,hf=>by
  obtain⟨r,v0,h1,h2,h3⟩:=b2l h (hf.holds 0);have h1:0=r:=by simpa using h1
  subst h1;exact⟨[],E,ρ,v0,.nil,rfl,hM,rfl,h2,h3,fun _ h=>h⟩
 | t::ts,r::rs,y,ρ,E,h,hM,hf=>by
  simp only[WY] at h;split at h<;>first|exact h.elim|skip
  rename_i p l h1;split at h<;>first|exact h.elim|skip
  rename_i q hq;obtain⟨hc,hy,h2⟩:=h;obtain⟨v,E1,k1,m1,m2,m3⟩:=ZT h1 hM hf;obtain⟨vs,E2,ρ2,v0,j1,j2,j5,j3,j6,j7,j4⟩:=a7s h2 m1 ⟨hf.size,hf.defers,fun s=>m2.wf _ (hf.wf s),fun s=>m2.holds _ _ (hf.wf s) (hf.holds s),fun s hs=>by rw[m2.par];exact hf.par s hs⟩;refine⟨v::vs,E2,ρ2,v0,.cons k1 j1,j2.trans m2.fix,j5,⟨v,vs,rfl,?_,j3⟩,j6,j7,fun q hq=>j4 q (m2.fz q hq)⟩;obtain⟨cs,rfl,hr⟩:=fU j4 (jK.refl _ _) m3;refine⟨cs,by unfold Ty.toV;rw[xH _ _ _ hq],?_⟩;rw[<-hy];exact tX _ _ _ hq cs _ hr hc
 | [],_::_,y,ρ,E,h,hM,hf=>by simp[WY] at h
 | _::_,[],y,ρ,E,h,hM,hf=>by simp[WY] at h
theorem SB:∀ (ts:List Ty) (x:(nest ts).den) (i s:Nat),i+ts.length<=s->bF (sQ i ts x) s=.any
 | [],x,i,s,_=>rfl
 | t::ts,x,i,s,hi=>by simp only[List.length_cons] at hi;simp only[sQ,bF];rw[bn (by omega)];exact SB ts x.2 (i+1) s (by omega)
theorem a6P {f:FuncId} {fn:Func} {code:Code} {k:LK} {args:List Ty} {pre:(nest args).den->Prop} {made:(nest args).den->k.ty.den} {dec:∀ x,Dc (pre x)} (hf:B.P.funcs[f]?=some fn) (hb:fn.body=some code) (hN:fn.ntmps=B.N) (hkeep:B.keep=fun _=>false) (hargs:args.length<=fn.ntmps)
  (h:∀ x,pre x->∀ (W:World) (base:Fix) (a:Act) (w:World),St B W base (sQ 0 args x) [] a w->code.wp B.P (fun e a' w'=>∃ G' R',b7c k (made x) fn.results.toList e G' R'/\St B W base G' R' a' w') a w):NOk B.P f (@lK.mk k args pre made dec):=by
 intro F w vs x hF hvs hpre;have hl:=LP hvs
 let E:Env:=⟨fun _=>none,fun _=>undef,fun q=>F q\/w.heap.size<=q,fun _ _=>undef,fun _=>False,fun _=>undef⟩
 have hhas:∀ r j q,¬ E.has r j q:=fun r j q h=>by cases j<;>cases h
 have hFz:∀ q,F q->fz w E q:=fun q hq=>sH (hF q hq) (.inl hq) (fun r j=>hhas r j q);have hM:Mem E (aU []) w w:=⟨⟨rfl,rfl,rfl,aj _,fun _ _ _=>rfl⟩,fun r=>rfl,fun r j r' j' b e=>(hhas r j b e).elim,fun r j b e=>(hhas r j b e).elim,fun q hq=>hq.elim (fun h=>h.elim) .inr,fun r i _=>rfl,fun r k e=>(by cases e),fun b o n h=>h⟩;refine calls_of_wp hf hb (Cj (h x hpre w E.fix _ w ⟨E,rfl,hM,?_⟩) (fun e a w' hq=>?_))
 ·refine⟨by simp[hN];omega,rfl,fun s=>(uX hFz 0 s hvs).1,fun s=>?_,fun s hs=>by rw[hkeep] at hs;cases hs⟩;have h1:=(uX (ρ:=aU []) hFz 0 s hvs).2.1 (ru _);rw[Nat.sub_zero] at h1;by_cases hs:s<vs.length
  ·have:(({ tmps:=vs.toArray++Array.replicate (fn.ntmps-vs.toArray.size) undef,defers:=[] }:Act).eval (.tmp s))=vs.getD s undef:=by simp[Act.eval,jm,Array.getElem?_append,hs]
   rw[this];exact h1
  ·rw[SB args x 0 s (by omega)];trivial
 ·obtain⟨G',R',k1,E',k2,k3,k4⟩:=hq;have fin:mkP k (made x) (bF G') (aU R') fn.results.toList->a.defers=[]/\∃ v,(results fn a.tmps).run B.P w'=.ok v w'/\∃ v' E1 ρ1 q v0,Ending.returned v=.returned v'/\Mem E1 ρ1 w w'/\(∀ q,¬ E1.qF q)/\ρ1 q=k.res (made x) v0/\v'=E1.sl q:=fun hr=>by
   match hrs:fn.results.toList,hr with
   | [.tmp s],hr =>
    obtain⟨r,v0,_,h2,h3⟩:=b2l hr (k4.holds s);refine⟨k4.defers,_,CV (vs:=[a.eval (.tmp s)]) (by rw[hrs];exact .cons rfl .nil),_,E',aU R',r,v0,rfl,k3,fun q=>?_,h2,h3⟩;rw[show E'.qF=E.qF from qw Fix.qF k2];exact id
  cases e with
  | normal=>exact fin k1
  | ret=>exact fin k1
  | exit i=>exact k1.elim
  | goto l=>exact k1.elim
  | panic ch=>exact k1.elim
  | outgrown=>exact k1.elim
theorem c0r (hB:B.Ok) (hm:B.P.follows .mixedOrders=true) {f:FuncId} {fn:Func} {code:Code} {k:LK} {args:List Ty} {pre:(nest args).den->Prop} {made:(nest args).den->k.ty.den} {dec:∀ x,Dc (pre x)} (hf:B.P.funcs[f]?=some fn) (hb:fn.body=some code) (hN:fn.ntmps=B.N) (hkeep:B.keep=fun _=>false) (hargs:args.length<=fn.ntmps) (A:(nest args).den->List Ann)
  (h:∀ x,pre x->vwp B code (A x) (b7c k (made x) fn.results.toList) (sQ 0 args x) []):NOk B.P f (@lK.mk k args pre made dec) :=
 a6P hf hb hN hkeep hargs fun x hp W base a w hs=>Cj (a5w hB hm code (h x hp) hs) fun e a' w' hq=>by obtain⟨G',R',k1,_,k2⟩:=hq;exact⟨G',R',k1,k2⟩
theorem a3j {f:FuncId} {fn:Func} {code:Code} {k:LK} {args res:List Ty} {pre:k.ty.den->(nest args).den->Prop} {dec:∀ x y,Dc (pre x y)} {out:k.ty.den->(nest args).den->k.ty.den} {g:k.ty.den->(nest args).den->(nest res).den} (hf:B.P.funcs[f]?=some fn) (hb:fn.body=some code) (hN:fn.ntmps=B.N) (hkeep:B.keep=fun s=>s==0) (hargs:args.length+1<=fn.ntmps)
  (h:∀ x y,pre x y->∀ (W:World) (base:Fix) (a:Act) (w:World),St B W base ((0,.own 0 0)::sQ 1 args y) [(0,k.res x 0)] a w->code.wp B.P (fun e a' w'=>∃ G' R',b7d B k (out x y) res fn.results.toList (g x y) e G' R'/\St B W base G' R' a' w') a w):NOk B.P f (@lK.chg k args res pre out g dec):=by
 intro F w s I vs x y hF hM hvs hpre;have hl:=LP hvs;have hR:aU [(0,k.res x 0)]=a3q (k.res x 0):=by funext r;simp only[aU,a3q]
 have hhas:∀ r j q,(Env.of F w s I).has r j q->BL s I q:=fun r j q h=>by
  cases j with
  | zero =>
   have h:(if r=0 then bK s else none)=some q:=h;split at h
   ·exact .inl h
   ·cases h
  | succ i =>
   have h:bK (if r=0 then I i else undef)=some q:=h;split at h
   ·exact .inr ⟨i,h⟩
   ·cases h
 have hFz:∀ q,F q->fz w (Env.of F w s I) q:=fun q hq=>sH (hF q hq).1 (.inl hq) (fun r j h=>(hF q hq).2 (hhas r j q h));have hev:∀ q,q<(s::vs).length->(({ tmps:=(s::vs).toArray++Array.replicate (fn.ntmps-(s::vs).toArray.size) undef,defers:=[] }:Act).eval (.tmp q))=(s::vs).getD q undef:=fun q hq=>by simp only[Act.eval,jm,bg];rw[Array.getElem?_append_left (by simpa using hq)];simp
 refine calls_of_wp hf hb (Cj (h x y hpre w (Env.of F w s I).fix _ w ⟨Env.of F w s I,rfl,by rw[hR];exact hM,?_⟩) (fun e a w' hq=>?_))
 ·refine⟨by simp[hN];omega,rfl,fun q=>?_,fun q=>?_,fun q hq=>?_⟩
  ·by_cases e:q=0
   ·subst e;show Res.dW 0 (aU [(0,k.res x 0)] 0);cases k<;>exact ru _
   ·show (bF ((0,.own 0 0)::sQ 1 args y) q).wf _;simp only[bF];rw[bn e];exact(uX hFz 1 q hvs).1
  ·by_cases e:q=0
   ·subst e;rw[hev 0 (by simp)];intro _;rfl
   ·show (bF ((0,.own 0 0)::sQ 1 args y) q).holds _ _ _ _;simp only[bF];rw[bn e];by_cases hs:q<(s::vs).length
    ·rw[hev q hs];have h1:=(uX (ρ:=aU [(0,k.res x 0)]) hFz 1 q hvs).2.1 (by omega);have e2:q=(q-1)+1:=by omega
     rw[e2,List.getD_cons_succ];rw[<-e2];exact h1
    ·simp only[List.length_cons] at hs;rw[SB args y 1 q (by omega)];trivial
  ·rw[hkeep] at hq;have hq:q=0:=by simpa using hq
   subst hq;exact hev 0 (by simp)
 ·obtain⟨G',R',k1,E',k2,k3,k4⟩:=hq;have fin:WY B k (out x y) (bF G') (aU R') res fn.results.toList (g x y)->a.defers=[]/\∃ v,(results fn a.tmps).run B.P w'=.ok v w'/\∃ v' E1 ρ1 v0,Ending.returned v=.returned v'/\Mem E1 ρ1 w w'/\E1.base=(Env.of F w s I).base/\E1.qF=BL s I/\ρ1 0=k.res (out x y) v0/\E1.sl 0=s/\rF (fz w' E1) w' res v' (g x y):=fun hr=>by obtain⟨us,E2,ρ2,v0,j1,j2,j5,j3,j6,j7,_⟩:=a7s hr k3 k4;have hp:=k4.par 0 (by rw[hkeep];rfl);refine⟨k4.defers,_,CV j1,_,E2,ρ2,v0,rfl,j5,qw Fix.base (j2.trans k2),qw Fix.qF (j2.trans k2),j6,?_,b3p j3⟩;rw[<-j7,hp,show E'.par=(Env.of F w s I).par from qw Fix.par k2];rfl
  cases e with
  | normal=>exact fin k1
  | ret=>exact fin k1
  | exit i=>exact k1.elim
  | goto l=>exact k1.elim
  | panic ch=>exact k1.elim
  | outgrown=>exact k1.elim
theorem b6e (hB:B.Ok) (hm:B.P.follows .mixedOrders=true) {f:FuncId} {fn:Func} {code:Code} {k:LK} {args res:List Ty} {pre:k.ty.den->(nest args).den->Prop} {dec:∀ x y,Dc (pre x y)} {out:k.ty.den->(nest args).den->k.ty.den} {g:k.ty.den->(nest args).den->(nest res).den} (hf:B.P.funcs[f]?=some fn) (hb:fn.body=some code) (hN:fn.ntmps=B.N) (hkeep:B.keep=fun s=>s==0) (hargs:args.length+1<=fn.ntmps) (A:k.ty.den->(nest args).den->List Ann)
  (h:∀ x y,pre x y->vwp B code (A x y) (b7d B k (out x y) res fn.results.toList (g x y)) ((0,.own 0 0)::sQ 1 args y) [(0,k.res x 0)]):NOk B.P f (@lK.chg k args res pre out g dec) :=
 a3j hf hb hN hkeep hargs fun x y hp W base a w hs=>Cj (a5w hB hm code (h x y hp) hs) fun e a' w' hq=>by obtain⟨G',R',k1,_,k2⟩:=hq;exact⟨G',R',k1,k2⟩
end
end
end Go.Proofs.YtbkocjmmbkifjaaGreat
