/-
  Lemmas for the theorem vestimables_holds, part 19 of 36.
-/
import Derived.Test.YtgplhbhfdgempaaGreatQe18
namespace Go.Proofs.YtgplhbhfdgempaaGreat
open Go Go.RowKit
section
set_option linter.unusedSimpArgs false
set_option linter.unusedVariables false
set_option maxRecDepth 20000
def a7p (n:Gam->Rho->Prop) (Q:Exit->Gam->Rho->Prop):Exit->Gam->Rho->Prop
 | .normal,G,R=>n G R
 | e,G,R=>Q e G R
def a9d (id:Nat) (Q:Exit->Gam->Rho->Prop):Exit->Gam->Rho->Prop
 | .exit i,G,R=>if i=id then Q .normal G R else Q (.exit i) G R
 | e,G,R=>Q e G R
inductive Ann:Type 1 where
 | inv (ι:Type) (S:ι->Gam) (Z:ι->Rho) (m:ι->Nat) (i0:ι) (sub:ι->List Ann)
 | rounds (n:Nat) (l:List Nat) (sub:List Ann)
 | turns (n:Nat) (l k:List Nat) (sub:List Ann)
def nl:Code->Nat
 | .seq a b=>nl a+nl b
 | .cond _ a b=>nl a+nl b
 | .block _ c=>nl c
 | .loop _=>1
 | _=>0
def a1B (F:(Exit->Gam->Rho->Prop)->Gam->Rho->Prop) (l:List Nat) (Q:Exit->Gam->Rho->Prop):Nat->Gam->Rho->Prop
 | 0,_,_=>False
 | n+1,G,R=>F (a7p (fun G R=>a1B F l Q n (cut l G) R) Q) G R
def b7g:Res->Res
 | .row e t xs _=>.row e t xs 0
 | .fro t xs _=>.fro t xs 0
 | .mat e e2 t ids xss _=>.mat e e2 t ids xss 0
 | .mX k=>.mX (kP k)
 | x=>x
def ZT (G:Gam):List Nat->Gam
 | []=>[]
 | s::l=>match (bT G s).res with
  | []=>ZT G l
  | _=>(s,kP (bT G s))::ZT G l
def b2G (R:Rho):List Nat->Rho
 | []=>[]
 | r::k=>(r,b7g (aU R r))::b2G R k
def less (l k:List Nat):List Nat:=l.filter fun s=>!k.contains s
def NM:K->Bool
 | .any=>true
 | _=>false
theorem NP {k:K}:NM k=true↔k=.any:=by cases k<;>simp[NM]
def c0r (S:Gam) (l:List Nat):Bool:=S.all fun p=>l.contains p.1 || NM p.2
def Res.NQ:Res->Bool
 | .box _=>true
 | _=>false
def PG (v:Nat):Res->Bool
 | .mat _ _ _ _ _ v'=>v'==v
 | _=>false
def Res.wO:Res->Bool
 | .mX _=>true
 | _=>false
def Res.a2M:Res->Bool
 | .mX _=>true
 | .gone=>true
 | _=>false
theorem Res.zG {x:Res}:x.wO=true↔x.oJ:=by cases x<;>simp[Res.wO,Res.oJ]
theorem Res.a2N {x:Res} (h:x.a2M=true):x.FU:=by cases x<;>simp_all [Res.a2M,Res.FU]
theorem KR {v:Nat} {x:Res} (h:PG v x=true):Res.oO v x:=by cases x<;>simp_all [PG,Res.oO]
theorem Res.EW {x:Res} (h:x.NQ=true):x.pV:=by cases x<;>simp_all [Res.NQ,Res.pV]
def b0C (R R':Rho):K->K->Bool
 | _,.any=>true
 | .nil,.nil=>true
 | .ptr r o,.ptr r' o'=>r==r'&&o==o'&&(aU R r).NQ&&(aU R' r).NQ
 | .own r v,.own r' v'=>r==r'&&v'==0&&LQ v (aU R r)&&LQ 0 (aU R' r)
 | .nV r,.nV r'=>r==r'&&(aU R' r).a2M&&(!(aU R' r).wO || (aU R r).wO)
 | _,_=>false
theorem b3R {R R':Rho}:∀ {k k':K},b0C R R' k k'=true->leK R R' k k'
 | k,.any,_=>by cases k<;>trivial
 | .nil,.nil,_=>trivial
 | .ptr r o,.ptr r' o',h=>by
  simp only[b0C,ak,ji] at h
  exact⟨h.1.1.1,h.1.1.2,Res.EW h.1.2,Res.EW h.2⟩
 | .own r v,.own r' v',h=>by
  simp only[b0C,ak,ji] at h
  obtain⟨⟨⟨h1,h2⟩,h3⟩,h4⟩:=h
  subst h2
  simp only[leK]
  exact⟨h1,trivial,DW h3,DW h4⟩
 | .nV r,.nV r',h=>by
  simp only[b0C,ak,ji,uf,mg] at h
  obtain⟨⟨h1,h2⟩,h3⟩:=h
  refine⟨h1,Res.a2N h2,fun hb=>?_⟩
  have:=Res.zG.2 hb
  rw[this] at h3
  exact Res.zG.1 (h3.resolve_left (by simp))
def eqC (t t':Ty) (x:t.den) (y:t'.den):List Prop:=if h:t=t' then [h ▸ x=y] else [False]
theorem zB {t t':Ty} {x:t.den} {y:t'.den} (h:bY (eqC t t' x y)):jF t t' x=some y:=by
 unfold eqC at h
 split at h
 ·rename_i e
  subst e
  unfold jF
  rw[dif_pos rfl]
  exact xw some h.1
 ·exact h.1.elim
def b6F (ids rO:Option (List Nat)):List Prop:=match ids,rO with
 | none,none=>[]
 | some l,some l'=>[l=l']
 | _,_=>[False]
theorem b3J {ids rO:Option (List Nat)} (h:bY (b6F ids rO)):ids=rO:=by
 unfold b6F at h
 split at h
 ·rfl
 ·rw[h.1]
 ·exact h.1.elim
def a7e:Res->Res->List Prop
 | .mat _ _ _ ids xss _,.mat _ _ _ rO yss _=>(xss.length=yss.length)::b6F ids rO
 | _,_=>[False]
theorem a3G {x y:Res} (h:bY (a7e x y)):RG x y:=by
 unfold a7e at h
 split at h
 ·exact⟨b3J h.2,h.1⟩
 ·exact h.1.elim
def UJ (R R':Rho):List K0->List K0->List Prop
 | [],[]=>[]
 | .val t x::ks,.val t' y::ks'=>eqC t t' x y++UJ R R' ks ks'
 | .ptr r o::ks,.ptr r' o'::ks'=>if r==r'&&o==o'&&(aU R r).NQ&&(aU R' r).NQ then UJ R R' ks ks' else [False]
 | .nV r::ks,.nV r'::ks'=>if r==r'&&(aU R' r).a2M&&(!(aU R' r).wO || (aU R r).wO) then UJ R R' ks ks' else [False]
 | _,_=>[False]
theorem b3Q {R R':Rho} {r r':Nat} (h:(r==r'&&(aU R' r).a2M&&(!(aU R' r).wO || (aU R r).wO))=true):r=r'/\(aU R' r).FU/\((aU R' r).oJ->(aU R r).oJ):=by
 simp only[ak,ji,uf,mg] at h
 obtain⟨⟨h1,h2⟩,h3⟩:=h
 refine⟨h1,Res.a2N h2,fun hb=>?_⟩
 have:=Res.zG.2 hb
 rw[this] at h3
 exact Res.zG.1 (h3.resolve_left (by simp))
theorem KQ {R R':Rho}:∀ {ks ks':List K0},bY (UJ R R' ks ks')->UK R R' ks ks'
 | [],[],_=>trivial
 | k::ks,[],h=>by cases k<;>exact h.1.elim
 | [],k::ks,h=>h.1.elim
 | k::ks,k'::ks',h=>by
  cases k<;>cases k'<;>first|exact h.1.elim|skip
  ·exact⟨zB (cO.1 h).1,KQ (cO.1 h).2⟩
  ·simp only[UJ] at h
   split at h<;>first|exact h.1.elim|skip
   rename_i hb
   simp only[ak,ji] at hb
   exact⟨⟨hb.1.1.1,hb.1.1.2,Res.EW hb.1.2,Res.EW hb.2⟩,KQ h⟩
  ·simp only[UJ] at h
   split at h<;>first|exact h.1.elim|skip
   rename_i hb
   exact⟨b3Q hb,KQ h⟩
def b0D (R R':Rho) (k k':K):List Prop:=if b0C R R' k k' then [] else match k,k' with
 | .val t x,.val t' y=>eqC t t' x y
 | .fn g ks,.fn g' ks'=>if g==g' then UJ R R' ks ks' else [False]
 | .cell r v i,.cell r' v' i'=>if r==r'&&v'==0&&LQ v (aU R r)&&LQ 0 (aU R' r)&&(aU R r).esz==(aU R' r).esz then [i=i'] else [False]
 | .mrow r v i,.mrow r' v' i'=>if r==r'&&v'==0&&PG v (aU R r)&&PG 0 (aU R' r) then (i=i')::a7e (aU R r) (aU R' r) else [False]
 | .mpos r v i j,.mpos r' v' i' j'=>if r==r'&&v'==0&&PG v (aU R r)&&PG 0 (aU R' r)&&(aU R r).msz==(aU R' r).msz then (i=i')::(j=j')::a7e (aU R r) (aU R' r) else [False]
 | k,k'=>[leK R R' k k']
theorem a0X {R R':Rho} {k k':K} (h:bY (b0D R R' k k')):leK R R' k k':=by
 unfold b0D at h
 split at h
 ·rename_i e;exact b3R e
 ·split at h
  ·exact zB h
  ·split at h<;>first|exact h.1.elim|skip
   rename_i hb
   exact⟨by simpa using hb,KQ h⟩
  ·split at h<;>first|exact h.1.elim|skip
   rename_i hb
   simp only[ak,ji] at hb
   obtain⟨⟨⟨⟨h1,h2⟩,h3⟩,h4⟩,h5⟩:=hb
   exact⟨h1,h.1,h2,DW h3,DW h4,h5⟩
  ·split at h<;>first|exact h.1.elim|skip
   rename_i hb
   simp only[ak,ji] at hb
   obtain⟨⟨⟨h1,h2⟩,h3⟩,h4⟩:=hb
   exact⟨h1,h.1,h2,KR h3,KR h4,a3G h.2⟩
  ·split at h<;>first|exact h.1.elim|skip
   rename_i hb
   simp only[ak,ji] at hb
   obtain⟨⟨⟨⟨h1,h2⟩,h3⟩,h4⟩,h5⟩:=hb
   exact⟨⟨h1,h.1,h.2.1,h2,KR h3,KR h4⟩,a3G h.2.2,h5⟩
  ·exact h.1
def b6L:List Part->List Part->List Prop
 | [],[]=>[]
 | p::ps,q::qs=>eqC p.t q.t p.x q.x++b6L ps qs
 | _,_=>[False]
theorem a6u:∀ {ps qs:List Part},bY (b6L ps qs)->leP ps qs
 | [],[],_=>trivial
 | p::ps,q::qs,h=>⟨zB (cO.1 h).1,a6u (cO.1 h).2⟩
 | [],_::_,h=>h.1.elim
 | _::_,[],h=>h.1.elim
def b6K {t t':Ty} (ids rO:Option (List Nat)) (xss:List (List t.den)) (yss:List (List t'.den)):List Prop:=match ids,rO with
 | some l,none=>l.Nodup::eqC (.list (.list t)) (.list (.list t')) (l.map fun i=>xss.getD i []) yss
 | none,none=>eqC (.list (.list t)) (.list (.list t')) xss yss
 | some l,some l'=>(l=l')::eqC (.list (.list t)) (.list (.list t')) xss yss
 | none,some _=>[False]
theorem b3T {t t':Ty} {ids rO:Option (List Nat)} {xss:List (List t.den)} {yss:List (List t'.den)} (h:bY (b6K ids rO xss yss)):leM ids rO xss yss:=by
 cases ids<;>cases rO<;>simp only[b6K] at h
 ·exact⟨rfl,zB h⟩
 ·exact h.1.elim
 ·exact⟨h.1,zB h.2⟩
 ·exact⟨by rw[h.1],zB h.2⟩
def b6M (R R':Rho):Res->Res->List Prop
 | _,.none=>[]
 | .box ps,.box qs=>b6L ps qs
 | .row e t xs _,.row e' t' ys v=>if e=e'/\v=0 then eqC (.list t) (.list t') xs ys else [False]
 | .mat e _ t none xss _,.row e' t' ys v=>if e=e'/\v=0 then eqC (.list (.list t)) (.list t') xss ys else [False]
 | .fro t xs _,.fro t' ys v=>if v=0 then eqC (.list t) (.list t') xs ys else [False]
 | .mat e e2 t ids xss _,.mat e' e2' t' rO yss v=>if e=e'/\e2=e2'/\v=0 then b6K ids rO xss yss else [False]
 | .mX k,.mX k'=>if k'.one then b0D R R' k k' else [False]
 | .mX _,.gone=>[]
 | .gone,.gone=>[]
 | x,y=>[leR R R' x y]
theorem b3U {R R':Rho} {x y:Res} (h:bY (b6M R R' x y)):leR R R' x y:=by
 unfold b6M at h
 split at h
 ·cases x<;>trivial
 ·exact a6u h
 ·split at h
  ·rename_i hh;exact⟨hh.1,hh.2,zB h⟩
  ·exact h.1.elim
 ·split at h
  ·rename_i hh;exact⟨hh.1,hh.2,zB h⟩
  ·exact h.1.elim
 ·split at h
  ·rename_i hh;exact⟨hh,zB h⟩
  ·exact h.1.elim
 ·split at h
  ·rename_i hh;exact⟨hh.1,hh.2.1,hh.2.2,b3T h⟩
  ·exact h.1.elim
 ·split at h
  ·rename_i hh;exact⟨hh,a0X h⟩
  ·exact h.1.elim
 ·trivial
 ·trivial
 ·exact h.1
theorem a5K {α:Type} {f g:α->List Prop} (h:∀ a,bY (f a)->bY (g a)):∀ {l:List α},bY (l.flatMap f)->bY (l.flatMap g)
 | [],_=>trivial
 | a::l,h1=>by
  rw[List.flatMap_cons] at h1 ⊢
  exact cO.2 ⟨h a (cO.1 h1).1,a5K h (cO.1 h1).2⟩
theorem RP {α:Type} {f:α->List Prop} {g:α->Prop} (h:∀ a,bY (f a)->g a):∀ {l:List α},bY (l.flatMap f)->bY (l.map g)
 | [],_=>trivial
 | a::l,h1=>by
  rw[List.flatMap_cons] at h1
  exact⟨h a (cO.1 h1).1,RP h (cO.1 h1).2⟩
def b3S (G:Gam) (R:Rho) (S:Gam) (Z:Rho) (l:List Nat):List Prop :=
 S.flatMap (fun p=>b0D R Z (bT G p.1) p.2)++(cut (S.map (·.1)++l) G).flatMap (fun p=>if (bT G p.1).res.isEmpty then [] else b0D R Z (bT G p.1) (kP (bT G p.1)))++Z.flatMap (fun p=>b6M R Z (aU R p.1) p.2)
theorem a0Y {G:Gam} {R:Rho} {S:Gam} {Z:Rho} {l:List Nat} (h:bY (b3S G R S Z l)):bY (leL G R S Z l):=by
 obtain⟨h12,h3⟩:=cO.1 h
 obtain⟨h1,h2⟩:=cO.1 h12
 refine cO.2 ⟨cO.2 ⟨RP (fun p hp=>a0X hp) h1,a5K (fun p hp=>?_) h2⟩,RP (fun p hp=>b3U hp) h3⟩
 by_cases e:(bT G p.1).res.isEmpty=true
 ·rw[ig e];trivial
 ·rw[iq e] at hp ⊢
  exact⟨a0X hp,trivial⟩
def c0q (R:Rho):K->Bool
 | .own r v=>!LQ v (aU R r)
 | .cell r v _=>!LQ v (aU R r)
 | .mrow r v _=>!PG v (aU R r)
 | .mpos r v _ _=>!PG v (aU R r)
 | _=>false
def TM (G:Gam) (R:Rho) (zs:List Nat):List Nat:=(G.filter fun p=>(bT G p.1).res.any (fun r=>!zs.contains r) || c0q R (bT G p.1)).map (·.1)
def b5q (G G':Gam) (l:List Nat):Bool:=(cut l G).all fun p=>NM (kP (bT G p.1)) || !NM (kP (bT G' p.1))
def b0h (G G':Gam) (l:List Nat):List Prop:=if b5q G G' l then [] else [False]
def a5u (F:(Exit->Gam->Rho->Prop)->Gam->Rho->Prop) (L l k:List Nat) (Q:Exit->Gam->Rho->Prop):Nat->Gam->Rho->Prop
 | 0,_,_=>False
 | n+1,G,R=>F (a7p (fun G R=>bY (b3S G R (ZT G l) (b2G R k) (less L l++TM G R k))/\c0r (ZT G l) L=true/\a5u F L l k Q n (ZT G l++rU (cut ((ZT G l).map (·.1)++(less L l++TM G R k)) G)) (b2G R k)) Q) G R
def ifB (b:Bool) (p q:Prop):Prop:=match b with
 | true=>p
 | false=>q
theorem aT {b:Bool} {p q:Prop}:ifB b p q↔(b=true->p)/\(b=false->q):=by cases b<;>simp[ifB]
def one1 (B:Book) (G:Gam):Code->Option (Option (Nat × K))
 | .skip=>some none
 | .region _ ops false=>match ops.toList with
  | [o]=>match o.op,o.dst,o.guard with
   | .assign x,some d,none=>if a9F B (some d) then some (some (d,opK (kQ (tmpsOf (.assign x)) (bT G)) x)) else none
   | _,_,_=>none
  | _=>none
 | _=>none
def a3a (b:Bool):K->K->K
 | .val t x,.val t' y=>match jF t t' x with
  | some x=>.val t' (bif b then x else y)
  | none=>.any
 | _,_=>.any
def YK (b:Bool) (G:Gam):Option (Nat × K)->Option (Nat × K)->Option (Nat × K)
 | some (d,k),none=>some (d,a3a b k (bT G d))
 | none,some (d,k)=>some (d,a3a b (bT G d) k)
 | some (d,k),some (d',k')=>if d=d' then some (d,a3a b k k') else none
 | none,none=>none
def named (Q:Gam->Prop) (G:Gam) (d:Nat):K->Prop
 | .val t y=>∀ z:t.den,z=y->Q ((d,.val t z)::G)
 | k=>Q ((d,k)::G)
theorem named_ok {Q:Gam->Prop} {G:Gam} {d:Nat} {k:K} (h:named Q G d k):Q ((d,k)::G):=by
 cases k<;>first|exact h|exact h _ rfl
def b5C (B:Book) (G:Gam) (b:Bool) (t e:Code):Operand->Option (Nat × K)
 | .tmp s=>if B.T.kb (1000000+s) then (match one1 B G t,one1 B G e with
  | some l1,some l2=>YK b G l1 l2
  | _,_=>none) else none
 | _=>none
def vwp (B:Book):Code->List Ann->(Exit->Gam->Rho->Prop)->Gam->Rho->Prop
 | .skip,_,Q,G,R=>Q .normal G R
 | .label _,_,Q,G,R=>Q .normal G R
 | .exit i,_,Q,G,R=>Q (.exit i) G R
 | .ret,_,Q,G,R=>Q .ret G R
 | .region _ ops draw,_,Q,G,R=>match nY B ops draw G R with
  | some ([],G',R')=>Q .normal G' R'
  | some (vc,G',R')=>bY vc/\Q .normal G' R'
  | none=>False
 | .seq a b,A,Q,G,R=>vwp B a (A.take (nl a)) (a7p (vwp B b (A.drop (nl a)) Q) Q) G R
 | .cond c t e,A,Q,G,R=>match opK (bT G) c with
  | .val .bool b=>match b5C B G b t e c with
   | some (d,k)=>named (fun G'=>Q .normal G' R) G d k
   | none=>ifB b (vwp B t (A.take (nl t)) Q G R) (vwp B e (A.drop (nl t)) Q G R)
  | _=>False
 | .block i c,A,Q,G,R=>vwp B c A (a9d i Q) G R
 | .loop c,A,Q,G,R=>match A with
  | .inv ι S Z m i0 sub::_=>bY (b3S G R (S i0) (Z i0) (asg c++TM G R ((Z i0).map (·.1)))) /\
   ∀ i,c0r (S i) (asg c)=true/\vwp B c (sub i) (a7p (fun G' R'=>∃ i',m i'<m i/\bY (b0h G G' ((S i').map (·.1)++(asg c++TM G R ((Z i0).map (·.1))))++b3S G' R' (S i') (Z i') (asg c++TM G R ((Z i0).map (·.1))))) Q) (S i++rU (cut ((S i).map (·.1)++(asg c++TM G R ((Z i0).map (·.1)))) G)) (Z i)
  | .rounds n l sub::_=>a1B (vwp B c sub) (less (asg c) l) Q n G R
  | .turns n l k sub::_=>a5u (vwp B c sub) (asg c) l k Q n G R
  | []=>False
 | _,_,_,_,_=>False
section
variable {B:Book} {W:World} {base:Fix}
def Fr (l:List Nat) (G G':Gam):Prop:=∀ s,s ∉ l->kP (bT G' s)=.any\/kP (bT G' s)=kP (bT G s)
theorem Fr.trans {l m:List Nat} {G G' G'':Gam} (h:Fr l G G') (k:Fr m G' G''):Fr (l++m) G G'':=fun s hs=>by
 simp only[vg,not_or] at hs
 rcases k s hs.2 with e|e
 ·exact .inl e
 ·rcases h s hs.1 with e2|e2
  ·exact .inl (e.trans e2)
  ·exact .inr (e.trans e2)
theorem Fr.refl (l:List Nat) (G:Gam):Fr l G G:=fun _ _=>.inr rfl
theorem Fr.more {l m:List Nat} {G G':Gam} (h:Fr l G G') (hl:∀ s ∈ l,s ∈ m):Fr m G G':=fun s hs=>h s (fun h'=>hs (hl s h'))
theorem Fr.two {l:List Nat} {G G' G'':Gam} (h:Fr l G G') (k:Fr l G' G''):Fr l G G'':=(h.trans k).more (fun s hs=>(vg.1 hs).elim id id)
theorem ZJ {ops:Array Oper}:∀ {l:List Oper} {G:Gam} {R:Rho} {vc:List Prop} {G':Gam} {R':Rho},zT B ops l G R=some (vc,G',R')->Fr (l.filterMap (·.dst)) G G'
 | [],G,R,vc,G',R',h=>by
  simp only[zT,ah,dh] at h
  obtain⟨_,rfl,_⟩:=h
  exact Fr.refl _ _
 | o::rest,G,R,vc,G',R',h=>by
  simp only[zT] at h
  split at h<;>try(cases h;done)
  rename_i vc1 k l1 h1
  split at h<;>try(cases h;done)
  rename_i vc2 G2 R2 h2
  simp only[ah,dh] at h
  obtain⟨_,rfl,_⟩:=h
  intro s hs
  have ih:=ZJ h2
  cases hd:o.dst with
  | none =>
   rw[List.filterMap_cons_none hd] at hs
   exact(ih s hs).imp id (fun h=>h.trans (by rw[xR,hd];rfl))
  | some d =>
   rw[List.filterMap_cons_some hd] at hs
   simp only[uo,not_or] at hs
   exact(ih s hs.2).imp id (fun h=>h.trans (by rw[xR,hd];exact xw kP (aP _ _ hs.1)))
theorem ZM {ops:Array Oper}:∀ {l:List Oper} {G:Gam} {R:Rho} {vc:List Prop} {ss:List Sim} {G':Gam} {R':Rho},zV B ops l G R=some (vc,ss,G',R')->Fr (l.filterMap (·.dst)) G G'
 | [],G,R,vc,ss,G',R',h=>by
  simp only[zV,ah,dh] at h
  obtain⟨_,_,rfl,_⟩:=h
  exact Fr.refl _ _
 | o::rest,G,R,vc,ss,G',R',h=>by
  simp only[zV] at h
  split at h<;>try(cases h;done)
  rename_i vc1 k l1 h1
  split at h<;>try(cases h;done)
  rename_i vc2 ss2 G2 R2 h2
  simp only[ah,dh] at h
  obtain⟨_,_,rfl,_⟩:=h
  intro s hs
  have ih:=ZM h2
  cases hd:o.dst with
  | none =>
   rw[List.filterMap_cons_none hd] at hs
   exact(ih s hs).imp id (fun h=>h.trans (by rw[xR,hd];rfl))
  | some d =>
   rw[List.filterMap_cons_some hd] at hs
   simp only[uo,not_or] at hs
   exact(ih s hs.2).imp id (fun h=>h.trans (by rw[xR,hd];exact xw kP (aP _ _ hs.1)))
theorem a1q {id:Nat} {ops:Array Oper} {draw:Bool} {G:Gam} {R:Rho} {vc:List Prop} {G':Gam} {R':Rho} (h:nY B ops draw G R=some (vc,G',R')):Fr (asg (.region id ops draw)) G G':=by
 unfold nY at h
 cases draw with
 | true =>
  simp only[Dn] at h
  split at h<;>try(cases h;done)
  rename_i vc1 ss G1 R1 b6A
  split at h<;>try(cases h;done)
  simp only[ah,dh] at h
  obtain⟨_,rfl,_⟩:=h
  exact ZM b6A
 | false =>
  simp only[zu,if_false] at h
  exact ZJ h
def PostF (B:Book) (W:World) (base:Fix) (Q:Exit->Gam->Rho->Prop) (l:List Nat) (G:Gam) (e:Exit) (a:Act) (w:World):Prop:=∃ G' R,Q e G' R/\Fr l G G'/\St B W base G' R a w
theorem wL {l:List Nat} {s:Nat} (h:s ∈ l):∀ (G:Gam),bT (cut l G) s=.any
 | []=>rfl
 | (q,k)::G=>by
  unfold cut
  rw[List.filter_cons]
  have ih:=wL h G
  unfold cut at ih
  split
  ·rename_i hq
   simp only[bT]
   rw[iq]
   ·exact ih
   ·rintro rfl
    have:l.contains s=true:=by simpa using h
    rw[this] at hq;cases hq
  ·exact ih
theorem nR {l:List Nat} {s:Nat} (h:s ∉ l):∀ (G:Gam),bT (cut l G) s=bT G s
 | []=>rfl
 | (q,k)::G=>by
  unfold cut
  rw[List.filter_cons]
  have ih:=nR h G
  unfold cut at ih
  split
  ·simp only[bT]
   split
   ·rfl
   ·exact ih
  ·rename_i hq
   simp only[bT]
   rw[iq]
   ·exact ih
   ·rintro rfl
    have:l.contains s=true:=by simpa using hq
    exact h (by simpa using this)
theorem a6l {S:Gam} {L l:List Nat} {G:Gam} (h:c0r S L=true):Fr L G (S++rU (cut (S.map (·.1)++l) G)):=fun s hs=>by
 rcases TP S (rU (cut (S.map (·.1)++l) G)) s with⟨p,k1,rfl,k3⟩|⟨k1,k2⟩
 ·left
  obtain⟨p',j1,j2,j3⟩:=zF ⟨p,k1,rfl⟩
  have:=xk.1 h p' j1
  rw[j2] at this
  simp only[uf,List.contains_eq_mem,ay,NP] at this
  rw[k3,j3,this.resolve_left hs]
  rfl
 ·rw[k2,vK,XC]
  by_cases hm:s ∈ S.map (·.1)++l
  ·left;rw[wL hm];rfl
  ·right;rw[nR hm]
theorem a7T {S:Gam} {L l:List Nat} {G G':Gam} (h:Fr L G G') (hL:∀ s ∈ L,s ∈ S.map (·.1)++l) (hb:bY (b0h G G' (S.map (·.1)++l))) (s:Nat):bT (S++rU (cut (S.map (·.1)++l) G)) s=bT (S++rU (cut (S.map (·.1)++l) G')) s:=by
 have hb:b5q G G' (S.map (·.1)++l)=true:=by
  unfold b0h at hb
  split at hb
  ·assumption
  ·exact hb.1.elim
 have e:bT (rU (cut (S.map (·.1)++l) G)) s=bT (rU (cut (S.map (·.1)++l) G')) s:=by
  rw[vK,vK]
  by_cases hm:s ∈ S.map (·.1)++l
  ·rw[wL hm,wL hm]
  ·rw[nR hm,nR hm]
   rcases h s (fun h'=>hm (hL s h')) with e|e
   ·rcases TQ (cut (S.map (·.1)++l) G) s with e2|⟨p,hp,rfl⟩
    ·rw[nR hm] at e2
     rw[e,e2];rfl
    ·have:=xk.1 hb p hp
     rw[e] at this
     simp only[NM,Bool.not_true,Bool.or_false,NP] at this
     rw[e,NP.1 this]
   ·exact e.symm
 have:∀ (S:Gam) (X Y:Gam),bT X s=bT Y s->bT (S++X) s=bT (S++Y) s:=by
  intro S
  induction S with
  | nil=>intro X Y h;exact h
  | cons p S ih =>
   intro X Y h
   simp only[List.cons_append,bT]
   split
   ·rfl
   ·exact ih X Y h
 exact this S _ _ e
def b7d (l:Option (Nat × K)) (G:Gam):Gam:=match l with
 | some p=>p::G
 | none=>G
theorem a6R {c:Code} {l:Option (Nat × K)} {A:List Ann} {G:Gam} {R:Rho} (h:one1 B G c=some l):vwp B c A (fun e G' R'=>e=.normal/\G'=b7d l G/\R'=R) G R:=by
 cases c<;>try (simp[one1] at h;done)
 case skip =>
  simp only[one1,ah] at h
  subst h
  exact⟨rfl,rfl,rfl⟩
 case region id ops draw =>
  cases draw<;>try (simp[one1] at h;done)
  simp only[one1] at h
  split at h<;>try(cases h;done)
  rename_i o ho
  split at h<;>try(cases h;done)
  rename_i x d h1 h2 h3
  split at h<;>try(cases h;done)
  rename_i hd
  simp only[ah] at h
  subst h
  have hr:nY B ops false G R=some ([],(d,opK (kQ (tmpsOf (.assign x)) (bT G)) x)::G,R):=by
   simp only[nY,zu,if_false,ho,zT,yJ,h1,h2,h3,hd,Dn,qO,gI,Bc,b4u,aft]
  show (match nY B ops false G R with
   | some ([],G',R')=>(Exit.normal=.normal/\G'=_/\R'=R)
   | some (vc,G',R')=>bY vc/\(Exit.normal=.normal/\G'=_/\R'=R)
   | none=>False)
  rw[hr]
  exact⟨rfl,rfl,rfl⟩
theorem EZ {b:Bool} {k k':K}:(b=true->a3a b k k'=k\/a3a b k k'=.any)/\(b=false->a3a b k k'=k'\/a3a b k k'=.any):=by
 cases k<;>try exact⟨fun _=>.inr rfl,fun _=>.inr rfl⟩
 cases k'<;>try exact⟨fun _=>.inr rfl,fun _=>.inr rfl⟩
 rename_i t x t' y
 simp only[a3a]
 split
 ·rename_i x' hc
  obtain⟨rfl,rfl⟩:=fC hc
  exact⟨fun h=>.inl (by rw[h];rfl),fun h=>.inl (by rw[h];rfl)⟩
 ·exact⟨fun _=>.inr rfl,fun _=>.inr rfl⟩
theorem b0z {b:Bool} {G:Gam} {l1 l2:Option (Nat × K)} {p:Nat × K} (h:YK b G l1 l2=some p):(b=true->∀ s,bT (p::G) s=bT (b7d l1 G) s\/bT (p::G) s=.any)/\(b=false->∀ s,bT (p::G) s=bT (b7d l2 G) s\/bT (p::G) s=.any):=by
 have hc:∀ (d:Nat) (k:K) (s:Nat),bT ((d,k)::G) s=if s=d then k else bT G s:=fun _ _ _=>rfl
 have hs:∀ (s d:Nat),s=d->bT G s=bT G d:=fun s d h=>by rw[h]
 cases l1 with
 | none =>
  cases l2 with
  | none=>simp[YK] at h
  | some q =>
   obtain⟨d,k⟩:=q
   simp only[YK,ah] at h
   subst h
   refine⟨fun hb s=>?_,fun hb s=>?_⟩
   ·show bT ((d,_)::G) s=bT G s\/_
    rw[hc]
    split
    ·rename_i e;rw[hs s d e];exact EZ.1 hb
    ·exact .inl rfl
   ·show bT ((d,_)::G) s=bT ((d,k)::G) s\/_
    rw[hc,hc]
    split
    ·exact EZ.2 hb
    ·exact .inl rfl
 | some p1 =>
  obtain⟨d,k⟩:=p1
  cases l2 with
  | none =>
   simp only[YK,ah] at h
   subst h
   refine⟨fun hb s=>?_,fun hb s=>?_⟩
   ·show bT ((d,_)::G) s=bT ((d,k)::G) s\/_
    rw[hc,hc]
    split
    ·exact EZ.1 hb
    ·exact .inl rfl
   ·show bT ((d,_)::G) s=bT G s\/_
    rw[hc]
    split
    ·rename_i e;rw[hs s d e];exact EZ.2 hb
    ·exact .inl rfl
  | some q =>
   obtain⟨d',k'⟩:=q
   simp only[YK] at h
   split at h<;>try(cases h;done)
   rename_i e
   subst e
   simp only[ah] at h
   subst h
   refine⟨fun hb s=>?_,fun hb s=>?_⟩
   ·show bT ((d,_)::G) s=bT ((d,k)::G) s\/_
    rw[hc,hc]
    split
    ·exact EZ.1 hb
    ·exact .inl rfl
   ·show bT ((d,_)::G) s=bT ((d,k')::G) s\/_
    rw[hc,hc]
    split
    ·exact EZ.2 hb
    ·exact .inl rfl
theorem St.less {G G':Gam} {R:Rho} {a:Act} {w:World} (h:St B W base G R a w) (hk:∀ s,bT G' s=bT G s\/bT G' s=.any):St B W base G' R a w:=by
 obtain⟨E,h0,h1,h2⟩:=h
 refine⟨E,h0,h1,h2.size,h2.defers,fun s=>?_,fun s=>?_,h2.par⟩
 ·rcases hk s with e|e
  ·rw[e];exact h2.wf s
  ·rw[e];trivial
 ·rcases hk s with e|e
  ·rw[e];exact h2.holds s
  ·rw[e];trivial
theorem Fr.less {l:List Nat} {G G1 G':Gam} (h:Fr l G G1) (hk:∀ s,bT G' s=bT G1 s\/bT G' s=.any):Fr l G G':=fun s hs=>by
 rcases hk s with e|e
 ·rw[e];exact h s hs
 ·exact .inl (by rw[e];rfl)
theorem a5B (hB:B.Ok) (hm:B.P.follows .mixedOrders=true):∀ (c:Code) {A:List Ann} {Q:Exit->Gam->Rho->Prop} {G:Gam} {R:Rho} {a:Act} {w:World},vwp B c A Q G R->St B W base G R a w->c.wp B.P (PostF B W base Q (asg c) G) a w:=by
 intro c
 induction c with
 | skip=>intro A Q G R a w h hs;exact wp_skip ⟨G,R,h,Fr.refl _ _,hs⟩
 | label l=>intro A Q G R a w h hs;exact wp_label ⟨G,R,h,Fr.refl _ _,hs⟩
 | exit i=>intro A Q G R a w h hs;exact wp_exit ⟨G,R,h,Fr.refl _ _,hs⟩
 | ret=>intro A Q G R a w h hs;exact wp_ret ⟨G,R,h,Fr.refl _ _,hs⟩
 | region id ops draw =>
  intro A Q G R a w h hs
  have key:∀ (vc:List Prop) (G':Gam) (R':Rho),nY B ops draw G R=some (vc,G',R')->bY vc->Q .normal G' R'->(Code.region id ops draw).wp B.P (PostF B W base Q (asg (.region id ops draw)) G) a w:=fun vc G' R' hr hv hq =>
   wp_mono (a1r (id:=id) hB hm (Q:=fun e G2 R2=>e=.normal/\G2=G'/\R2=R') hr hv ⟨rfl,rfl,rfl⟩ hs) (fun e a' w' hp=>by
    obtain⟨G2,R2,⟨rfl,rfl,rfl⟩,k2⟩:=hp
    exact⟨_,_,hq,a1q (id:=id) hr,k2⟩)
  simp only[vwp] at h
  split at h
  ·rename_i G' R' hr;exact key [] G' R' hr trivial h
  ·rename_i vc G' R' _ hr;exact key vc G' R' hr h.1 h.2
  ·exact h.elim
 | seq x y ihx ihy =>
  intro A Q G R a w h hs
  refine wp_seq (wp_mono (ihx h hs) (fun e a' w' hq=>?_))
  obtain⟨G',R',k1,k2,k3⟩:=hq
  have hfr:Fr (asg (.seq x y)) G G':=fun s hs'=>k2 s (fun h'=>hs' (zl _ h'))
  cases e with
  | normal =>
   refine wp_mono (ihy k1 k3) (fun e2 a2 w2 hq2=>?_)
   obtain⟨G2,R2,j1,j2,j3⟩:=hq2
   exact⟨G2,R2,j1,k2.trans j2,j3⟩
  | _=>exact⟨G',R',k1,hfr,k3⟩
 | cond c t e iht ihe =>
  intro A Q G R a w h hs
  simp only[vwp] at h
  split at h<;>first|exact h.elim|skip
  rename_i b hk
  have hs2:=hs
  obtain⟨E,h0,h1,h2⟩:=hs2
  have hv:=(UZ h2).2 c
  rw[hk] at hv
  split at h
  ·rename_i d9 k9 hj
   have h:=named_ok h
   unfold b5C at hj
   split at hj<;>first|(cases hj;done)|skip
   split at hj<;>first|(cases hj;done)|skip
   split at hj<;>first|(cases hj;done)|skip
   rename_i l1 l2 hl1 hl2
   obtain⟨j1,j2⟩:=b0z hj
   refine wp_cond_split (tH hv) (fun hb=>wp_mono (iht (A:=[]) (a6R hl1) hs) (fun e a' w' hq=>?_)) (fun hb=>wp_mono (ihe (A:=[]) (a6R hl2) hs) (fun e a' w' hq=>?_))
   ·obtain⟨G1,R1,⟨rfl,rfl,rfl⟩,k2,k3⟩:=hq
    exact⟨_,_,h,(k2.less (j1 hb)).more (fun s hs'=>zl _ hs'),k3.less (j1 hb)⟩
   ·obtain⟨G1,R1,⟨rfl,rfl,rfl⟩,k2,k3⟩:=hq
    exact⟨_,_,h,(k2.less (j2 hb)).more (fun s hs'=>Bf _ hs'),k3.less (j2 hb)⟩
  have h:=aT.1 h
  refine wp_cond_split (tH hv) (fun hb=>wp_mono (iht (h.1 hb) hs) (fun e a' w' hq=>?_)) (fun hb=>wp_mono (ihe (h.2 hb) hs) (fun e a' w' hq=>?_))
  all_goals
   obtain⟨G',R',k1,k2,k3⟩:=hq
  ·exact⟨G',R',k1,fun s hs'=>k2 s (fun h'=>hs' (zl _ h')),k3⟩
  ·exact⟨G',R',k1,fun s hs'=>k2 s (fun h'=>hs' (Bf _ h')),k3⟩
 | block id c ih =>
  intro A Q G R a w h hs
  refine wp_block (wp_mono (ih h hs) (fun e a' w' hq=>?_))
  obtain⟨G',R',k1,k2,k3⟩:=hq
  cases e with
  | exit i =>
   simp only[a9d] at k1
   simp only[Exit.inBlock]
   split
   ·rename_i e;rw[ig e] at k1;exact⟨G',R',k1,k2,k3⟩
   ·rename_i e;rw[iq e] at k1;exact⟨G',R',k1,k2,k3⟩
  | _=>exact⟨G',R',k1,k2,k3⟩
 | loop c ih =>
  intro A Q G R a w h hs
  simp only[vwp] at h
  split at h
  ·rename_i ι S Z m i0 sub rest
   obtain⟨h1,h2⟩:=h
   refine wp_loop_rounds (m i0+1) (ZE (B:=B) (fun i a w=>St B W base (S i++rU (cut ((S i).map (·.1)++(asg c++TM G R ((Z i0).map (·.1)))) G)) (Z i) a w) m (fun i a' w' hi=>?_) (m i0+1) i0 a w (by omega) (a4z hs (a0Y h1)))
   obtain⟨h3,h4⟩:=h2 i
   refine wp_mono (ih h4 hi) (fun e a2 w2 hq=>?_)
   obtain⟨G',R',k1,k2,k3⟩:=hq
   have hfr:Fr (asg c) G G':=(a6l h3).two k2
   cases e with
   | normal =>
    obtain⟨i',k4,k5⟩:=k1
    obtain⟨k6,k7⟩:=cO.1 k5
    exact⟨i',k4,(a4z k3 (a0Y k7)).congr (fun s=>a7T hfr (fun s hs'=>Bf _ (zl _ hs')) k6 s)⟩
   | _=>exact⟨G',R',k1,hfr,k3⟩
  ·rename_i n l sub rest
   refine wp_loop_rounds n ?_
   have key:∀ n G1 R a w,Fr (asg c) G G1->a1B (vwp B c sub) (less (asg c) l) Q n G1 R->St B W base G1 R a w->Code.rounds B.P c (PostF B W base Q (asg (.loop c)) G) n a w:=by
    intro n
    induction n with
    | zero=>intro G1 R a w _ h _;exact h.elim
    | succ n ihn =>
     intro G1 R a w hf h hs
     rw[rounds_succ]
     refine wp_mono (ih h hs) (fun e a2 w2 hq=>?_)
     obtain⟨G',R',k1,k2,k3⟩:=hq
     have hfr:Fr (asg c) G G':=hf.two k2
     cases e with
     | normal =>
      refine ihn _ _ _ _ (fun s hs'=>?_) k1 (k3.cut (l:=less (asg c) l))
      have hns:s ∉ less (asg c) l:=fun h'=>hs' (List.mem_filter.1 h').1
      rw[nR hns]
      exact hfr s hs'
     | _=>exact⟨G',R',k1,hfr,k3⟩
   exact key n G R a w (Fr.refl _ _) h hs
  ·rename_i n l k sub rest
   refine wp_loop_rounds n ?_
   have key:∀ n G1 R a w,Fr (asg c) G G1->a5u (vwp B c sub) (asg c) l k Q n G1 R->St B W base G1 R a w->Code.rounds B.P c (PostF B W base Q (asg (.loop c)) G) n a w:=by
    intro n
    induction n with
    | zero=>intro G1 R a w _ h _;exact h.elim
    | succ n ihn =>
     intro G1 R a w hf h hs
     rw[rounds_succ]
     refine wp_mono (ih h hs) (fun e a2 w2 hq=>?_)
     obtain⟨G',R',k1,k2,k3⟩:=hq
     have hfr:Fr (asg c) G G':=hf.two k2
     cases e with
     | normal =>
      obtain⟨k4,k5,k6⟩:=k1
      refine ihn _ _ _ _ (fun s hs'=>?_) k6 (a4z k3 (a0Y k4))
      exact(hfr.two (a6l k5)) s hs'
     | _=>exact⟨G',R',k1,hfr,k3⟩
   exact key n G R a w (Fr.refl _ _) h hs
  ·exact h.elim
 | scope c ih=>intro A Q G R a w h hs;simp only[vwp] at h
 | goto l=>intro A Q G R a w h hs;simp only[vwp] at h
 | rangeFunc f ps x y _ _=>intro A Q G R a w h hs;simp only[vwp] at h
 | refuse s=>intro A Q G R a w h hs;simp only[vwp] at h
end
attribute [irreducible] vwp
end
section
set_option linter.unusedSimpArgs false
set_option linter.unusedVariables false
set_option maxRecDepth 20000
def a1l (B:Book) (G:Nat->K) (ρ:Nat->Res) (t:Ty):ResultVar->Option (Part × List (Nat × Res))
 | .tmp s=>yT ρ (some t) (G s)
 | .cell s ty=>match G s with
  | .ptr r o=>match ρ r with
   | .box ps=>(a6y B.P B.T ty ps o).map fun p=>(p,[])
   | _=>none
  | .val (.ref u) y=>if fitsT B.P ty u then some (⟨u,y⟩,[]) else none
  | .nV r=>match ρ r with
   | .mX k=>if vN B.P ty==some false then yT ρ (some t) k else none
   | _=>none
  | _=>none
def a3t (B:Book) (G:Nat->K):(Nat->Res)->(ts:List Ty)->List ResultVar->(nest ts).den->Prop
 | _,[],[],_=>True
 | ρ,t::ts,r::rs,y=>match a1l B G ρ t r with
  | some (p,l)=>match pI p.t t with
   | some q=>bY (q.c p.x)/\q.f p.x=y.1/\a3t B G (after ρ l) ts rs y.2
   | none=>False
  | none=>False
 | _,_,_,_=>False
def b7h (B:Book) (ts:List Ty) (rs:List ResultVar) (y:(nest ts).den):Exit->Gam->Rho->Prop
 | .normal,G,R=>a3t B (bT G) (aU R) ts rs y
 | .ret,G,R=>a3t B (bT G) (aU R) ts rs y
 | _,_,_=>False
def yS:Nat->(ts:List Ty)->(nest ts).den->Gam
 | _,[],_=>[]
 | i,t::ts,x=>(i,.val t x.1)::yS (i+1) ts x.2
section
variable {B:Book} {W:World}
def DR (P:Program) (a:Act):ResultVar->Sem Value
 | .tmp t=>pure (a.tmps.getD t undef)
 | .cell s t=>do loadVar t (<-asAddr (a.tmps.getD s undef))
theorem a2X {P:Program} {w:World} {f:ResultVar->Sem Value}:∀ {rs:List ResultVar} {vs:List Value},mM (fun r v=>(f r).run P w=.ok v w) rs vs->(rs.mapM f).run P w=.ok vs w
 | _,_,.nil=>by simp
 | _,_,.cons h1 h2=>by
  rw[List.mapM_cons,jc,h1]
  simp only[Result.andThen_ok,jc,a2X h2]
  rfl
theorem DU {P:Program} {fn:Func} {a:Act} {w:World} {vs:List Value} (h:mM (fun r v=>(DR P a r).run P w=.ok v w) fn.results.toList vs):(results fn a.tmps).run P w=.ok (if h:vs.toArray.size=1 then vs.toArray[0] else .tuple vs.toArray) w:=by
 have e:results fn a.tmps=(do let us <-fn.results.mapM (DR P a);pure (if h:us.size=1 then us[0] else .tuple us)):=by
  unfold results
  congr 2
 rw[e,Array.mapM_eq_mapM_toList]
 simp only[jc,map_eq_pure_bind,a2X h,Result.andThen_ok,Sem.run_pure]
theorem ZC {G:Nat->K} {ρ:Nat->Res} {E:Env} {w:World} {a:Act} {t:Ty} {r:ResultVar} {p:Part} {l:List (Nat × Res)} (h:a1l B G ρ t r=some (p,l)) (hM:Mem E ρ W w) (hf:Fits E ρ w B a G) :
  ∃ v E',(DR B.P a r).run B.P w=.ok v w/\Mem E' (after ρ l) W w/\Ext E ρ w E' (after ρ l) w/\kE (fz w E') w p.t v p.x:=by
 cases r with
 | tmp s =>
  obtain⟨E',m1,m2,m3⟩:=sD h hM (hf.wf s) (hf.holds s)
  exact⟨_,E',rfl,m1,m2,m3⟩
 | cell s ty =>
  simp only[a1l] at h
  have hs:=hf.holds s
  have hs':a.tmps.getD s undef=a.eval (.tmp s):=rfl
  split at h<;>try(cases h;done)
  ·rename_i rr o hk
   rw[hk] at hs
   split at h<;>try(cases h;done)
   rename_i ps hr
   simp only[je,dh] at h
   obtain⟨p',h1,rfl,rfl⟩:=h
   obtain⟨b,hb,hp⟩:=hs
   have hres:=hM.res rr
   rw[hr] at hres
   obtain⟨b',cs,e,k1,k3,k4⟩:=hres
   rw[hb] at k1;cases k1
   obtain⟨hft,c,hc,hrep⟩:=a2T h1 k4
   have hrg:w.rangeAt b o c:=fun j v hv=>by
    rw[zq _ _ _ _ _ _ k3,<-hv]
    simp only[List.getElem?_toArray]
    rw[<-hc,List.getElem?_take,ig (by have:=(pq.1 hv).1;exact this),List.getElem?_drop]
   refine⟨p'.t.toV c,E,?_,hM,Ext.refl _ _ _,c,rfl,hrep⟩
   simp only[DR,hs',hp,asAddr,jc,Sem.run_pure,Result.andThen_ok]
   exact lD hft hrg hrep
  ·rename_i u y hk
   rw[hk] at hs
   split at h<;>try(cases h;done)
   rename_i hft
   simp only[ah,dh] at h
   obtain⟨rfl,rfl⟩:=h
   obtain⟨b,o,ds,hp,k1,k2,k3⟩:=FK hs
   refine⟨u.toV ds,E,?_,hM,Ext.refl _ _ _,ds,rfl,k3⟩
   simp only[DR,hs',hp,asAddr,jc,Sem.run_pure,Result.andThen_ok]
   exact lD hft k2 k3
  ·rename_i rr hk
   rw[hk] at hs
   split at h<;>try(cases h;done)
   rename_i k9 hr
   split at h<;>try(cases h;done)
   rename_i ha
   obtain⟨q1,q2,b,u,e,q3,q4,q5,q6⟩:=hM.kbx rr k9 hr
   obtain⟨b',g1,g2⟩:=hs (by rw[hr];trivial)
   rw[g1] at q3;cases q3
   obtain⟨E',m1,m2,m3⟩:=sD h hM q1 q6
   refine⟨u,E',?_,m1,m2,m3⟩
   simp only[DR,hs',g2,asAddr,jc,Sem.run_pure,Result.andThen_ok]
   exact UN (by simpa using ha) (by rw[zq w _ _ _ _ _ q4];rfl)
theorem a6Y {G:Nat->K} {w:World} {a:Act}:∀ {ts:List Ty} {rs:List ResultVar} {y:(nest ts).den} {ρ:Nat->Res} {E:Env},a3t B G ρ ts rs y->Mem E ρ W w->Fits E ρ w B a G ->
  ∃ vs E',mM (fun r v=>(DR B.P a r).run B.P w=.ok v w) rs vs/\E'.fix=E.fix/\jY (fz w E') w ts vs y/\∀ q,fz w E q->fz w E' q
 | [],[],y,ρ,E,h,hM,hf=>⟨[],E,.nil,rfl,rfl,fun _ h=>h⟩
 | t::ts,r::rs,y,ρ,E,h,hM,hf=>by
  simp only[a3t] at h
  split at h<;>first|exact h.elim|skip
  rename_i p l h1
  split at h<;>first|exact h.elim|skip
  rename_i q hq
  obtain⟨hc,hy,h2⟩:=h
  obtain⟨v,E1,k1,m1,m2,m3⟩:=ZC h1 hM hf
  obtain⟨vs,E2,j1,j2,j3,j4⟩:=a6Y h2 m1 ⟨hf.size,hf.defers,fun s=>m2.wf _ (hf.wf s),fun s=>m2.holds _ _ (hf.wf s) (hf.holds s),fun s hs=>by rw[m2.par];exact hf.par s hs⟩
  refine⟨v::vs,E2,.cons k1 j1,j2.trans m2.fix,⟨v,vs,rfl,?_,j3⟩,fun q hq=>j4 q (m2.fz q hq)⟩
  obtain⟨cs,rfl,hr⟩:=gY j4 (jZ.refl _ _) m3
  refine⟨cs,by unfold Ty.toV;rw[xO _ _ _ hq],?_⟩
  rw[<-hy]
  exact yU _ _ _ hq cs _ hr hc
 | [],_::_,y,ρ,E,h,hM,hf=>by simp[a3t] at h
 | _::_,[],y,ρ,E,h,hM,hf=>by simp[a3t] at h
theorem MB {F:Nat->Prop} {w:World}:∀ {ts:List Ty} {vs:List Value} {y:(nest ts).den},jY F w ts vs y->vs.length=ts.length
 | [],vs,y,h=>by rw[show vs=[] from h];rfl
 | t::ts,vs,y,⟨v,vs',h1,h2,h3⟩=>by rw[h1,List.length_cons,MB h3];rfl
theorem b1I {F:Nat->Prop} {w:World} {ts:List Ty} {vs:List Value} {y:(nest ts).den} (h:jY F w ts vs y):rV F w ts (if h:vs.toArray.size=1 then vs.toArray[0] else .tuple vs.toArray) y:=by
 have hl:=MB h
 match ts,y,h with
 | [t],y,⟨v,vs',h1,h2,h3⟩ =>
  have h3:vs'=[]:=h3
  subst h3
  subst h1
  exact h2
 | [],y,h =>
  have h:vs=[]:=h
  subst h
  exact⟨[],rfl,rfl⟩
 | t1::t2::ts,y,h =>
  refine⟨vs,?_,h⟩
  rw[dif_neg (by simp[hl])]
theorem vC {F:Nat->Prop} {w:World} {E:Env} {ρ:Nat->Res} (hF:∀ q,F q->fz w E q):∀ {ts:List Ty} {vs:List Value} {x:(nest ts).den} (i s:Nat),jY F w ts vs x->(bT (yS i ts x) s).wf ρ/\(i<=s->(bT (yS i ts x) s).holds E ρ w (vs.getD (s-i) undef))/\(s<i->bT (yS i ts x) s=.any)
 | [],vs,x,i,s,h=>⟨trivial,fun _=>trivial,fun _=>rfl⟩
 | t::ts,vs,x,i,s,⟨v,vs',h1,h2,h3⟩=>by
  obtain⟨k1,k2,k3⟩:=vC hF (i+1) s h3
  simp only[yS,bT]
  split
  ·rename_i e
   subst e
   refine⟨trivial,fun _=>?_,fun h=>by omega⟩
   rw[h1,Nat.sub_self]
   exact gY hF (jZ.refl _ _) h2
  ·rename_i e
   refine⟨k1,fun h=>?_,fun h=>k3 (by omega)⟩
   have:=k2 (by omega)
   rw[h1]
   have e2:s-i=(s-(i+1))+1:=by omega
   rw[e2,List.getD_cons_succ]
   exact this
theorem b6b (hB:B.Ok) (hm:B.P.follows .mixedOrders=true) {f:FuncId} {fn:Func} {code:Code} {c:Ctr} (hf:B.P.funcs[f]?=some fn) (hb:fn.body=some code) (hN:fn.ntmps=B.N) (hkeep:B.keep=fun _=>false) (hargs:c.args.length<=fn.ntmps) (A:(nest c.args).den->List Ann)
  (h:∀ x,c.pre x->vwp B code (A x) (b7h B c.res fn.results.toList (c.fn x)) (yS 0 c.args x) []):aW B.P f c:=by
 intro F w vs x hF hvs hpre
 have hl:=MB hvs
 let E:Env:=⟨fun _=>none,fun _=>undef,fun q=>F q\/w.heap.size<=q,fun _ _=>undef,fun _=>False,fun _=>undef⟩
 have hhas:∀ r j q,¬ E.has r j q:=fun r j q h=>by cases j<;>cases h
 have hFz:∀ q,F q->fz w E q:=fun q hq=>uD (hF q hq) (.inl hq) (fun r j=>hhas r j q)
 have hM:Mem E (aU []) w w:=⟨⟨rfl,rfl,rfl,aj _,fun _ _ _=>rfl⟩,fun r=>rfl,fun r j r' j' b e=>(hhas r j b e).elim,fun r j b e=>(hhas r j b e).elim,fun q hq=>hq.elim (fun h=>h.elim) .inr,fun r i _=>rfl,fun r k e=>(by cases e),fun b o n h=>h⟩
 refine calls_of_wp hf hb (wp_mono (a5B (W:=w) (base:=E.fix) hB hm code (h x hpre) ⟨E,rfl,hM,?_⟩) (fun e a w' hq=>?_))
 ·refine⟨by simp[hN];omega,rfl,fun s=>(vC hFz 0 s hvs).1,fun s=>?_,fun s hs=>by rw[hkeep] at hs;cases hs⟩
  have h1:=(vC (ρ:=aU []) hFz 0 s hvs).2.1 (uq _)
  rw[Nat.sub_zero] at h1
  by_cases hs:s<vs.length
  ·have:(({ tmps:=vs.toArray++Array.replicate (fn.ntmps-vs.toArray.size) undef,defers:=[] }:Act).eval (.tmp s))=vs.getD s undef:=by
    simp[Act.eval,ku,Array.getElem?_append,hs]
   rw[this];exact h1
  ·have hany:bT (yS 0 c.args x) s=.any:=by
    have:∀ (ts:List Ty) (x:(nest ts).den) (i:Nat),i+ts.length<=s->bT (yS i ts x) s=.any:=by
     intro ts
     induction ts with
     | nil=>intro x i _;rfl
     | cons t ts ih =>
      intro x i hi
      simp only[List.length_cons] at hi
      simp only[yS,bT]
      rw[iq (by omega)]
      exact ih x.2 (i+1) (by omega)
    exact this c.args x 0 (by omega)
   rw[hany];trivial
 ·obtain⟨G',R',k1,_,E',k2,k3,k4⟩:=hq
  have fin:a3t B (bT G') (aU R') c.res fn.results.toList (c.fn x)->a.defers=[]/\∃ v,(results fn a.tmps).run B.P w'=.ok v w'/\∃ v',Ending.returned v=.returned v'/\rV (newF F w w') w' c.res v' (c.fn x)/\Below w.heap.size w w':=fun hr=>by
   obtain⟨us,E2,j1,j2,j3,_⟩:=a6Y hr k3 k4
   refine⟨k4.defers,_,DU j1,_,rfl,b1I (lI (fun q hq=>⟨?_,hq.1.1⟩) (jZ.refl _ _) _ _ _ j3),k3.below.below (fun q=>by rw[show E'.qR=E.qR from xw Fix.qR k2];exact id)⟩
   have:=hq.1.2
   rw[show E2.base=E.base from(xw Fix.base j2).trans (xw Fix.base k2)] at this
   exact this
  cases e with
  | normal=>exact fin k1
  | ret=>exact fin k1
  | exit i=>exact k1.elim
  | goto l=>exact k1.elim
  | panic ch=>exact k1.elim
  | outgrown=>exact k1.elim
end
end
section
set_option linter.unusedSimpArgs false
set_option linter.unusedVariables false
set_option maxRecDepth 20000
def lkP:(k:LK)->k.ty.den->Nat->Res->Prop
 | .row e t,y,v,.row e' t' xs v'=>match jF (.list t') (.list t) xs with
  | some ys=>if e'==e&&gv v'==gv v then y=ys else False
  | none=>False
 | .mat e e2 t,y,v,.mat e' e2' t' none xss v'=>match jF (.list (.list t')) (.list (.list t)) xss with
  | some yss=>if e'==e&&e2'==e2&&gv v'==gv v then y=yss else False
  | none=>False
 | _,_,_,_=>False
def lkG (k:LK) (y:k.ty.den) (ρ:Nat->Res) (only:Option Nat):K->Prop
 | .own r v=>if only.all (fun q=>q==r) then lkP k y v (ρ r) else False
 | _=>False
def mkP (k:LK) (y:k.ty.den) (G:Nat->K) (ρ:Nat->Res):List ResultVar->Prop
 | [.tmp s]=>lkG k y ρ none (G s)
 | _=>False
def c2I (k:LK) (y:k.ty.den) (rs:List ResultVar):Exit->Gam->Rho->Prop
 | .normal,G,R=>mkP k y (bT G) (aU R) rs
 | .ret,G,R=>mkP k y (bT G) (aU R) rs
 | _,_,_=>False
def a3s (B:Book) (k:LK) (x:k.ty.den) (G:Nat->K):(Nat->Res)->(ts:List Ty)->List ResultVar->(nest ts).den->Prop
 | ρ,[],[],_=>lkG k x ρ (some 0) (G 0)
 | ρ,t::ts,r::rs,y=>match a1l B G ρ t r with
  | some (p,l)=>match pI p.t t with
   | some q=>bY (q.c p.x)/\q.f p.x=y.1/\a3s B k x G (after ρ l) ts rs y.2
   | none=>False
  | none=>False
 | _,_,_,_=>False
def c2J (B:Book) (k:LK) (x:k.ty.den) (ts:List Ty) (rs:List ResultVar) (y:(nest ts).den):Exit->Gam->Rho->Prop
 | .normal,G,R=>a3s B k x (bT G) (aU R) ts rs y
 | .ret,G,R=>a3s B k x (bT G) (aU R) ts rs y
 | _,_,_=>False
section
variable {B:Book} {W:World}
theorem b6P {k:LK} {y:k.ty.den} {v:Nat} {x:Res} (h:lkP k y v x):∃ v0,x=k.res y v0/\Res.isRow v x:=by
 cases k with
 | row e t =>
  cases x<;>first|exact h.elim|skip
  rename_i e' t' xs v'
  simp only[lkP] at h
  split at h<;>first|exact h.elim|skip
  rename_i ys hc
  split at h<;>first|exact h.elim|skip
  rename_i hb
  simp only[ak,ji] at hb
  obtain⟨rfl,hb⟩:=hb
  obtain⟨e9,hc⟩:=fC hc
  simp only[Ty.list.injEq] at e9
  subst e9
  have hc:xs=ys:=hc
  subst hc
  subst h
  exact⟨v',rfl,hb⟩
 | mat e e2 t =>
  cases x<;>first|exact h.elim|skip
  rename_i e' e2' t' ids xss v'
  cases ids<;>first|exact h.elim|skip
  simp only[lkP] at h
  split at h<;>first|exact h.elim|skip
  rename_i yss hc
  split at h<;>first|exact h.elim|skip
  rename_i hb
  simp only[ak,ji] at hb
  obtain⟨⟨rfl,rfl⟩,hb⟩:=hb
  obtain⟨e9,hc⟩:=fC hc
  simp only[Ty.list.injEq] at e9
  subst e9
  have hc:xss=yss:=hc
  subst hc
  subst h
  exact⟨v',rfl,hb⟩
theorem b0H {k:LK} {y:k.ty.den} {ρ:Nat->Res} {o:Option Nat} {k0:K} {E:Env} {w:World} {v:Value} (h:lkG k y ρ o k0) (hk:k0.holds E ρ w v):∃ r v0,o.all (fun q=>q==r)=true/\ρ r=k.res y v0/\v=E.sl r:=by
 cases k0<;>first|exact h.elim|skip
 rename_i r ver
 simp only[lkG] at h
 split at h<;>first|exact h.elim|skip
 rename_i ho
 obtain⟨v0,h1,h2⟩:=b6P h
 exact⟨r,v0,ho,h1,hk h2⟩
theorem a6X {G:Nat->K} {w:World} {a:Act} {k:LK} {x:k.ty.den}:∀ {ts:List Ty} {rs:List ResultVar} {y:(nest ts).den} {ρ:Nat->Res} {E:Env},a3s B k x G ρ ts rs y->Mem E ρ W w->Fits E ρ w B a G ->
  ∃ vs E' ρ' v0,mM (fun r v=>(DR B.P a r).run B.P w=.ok v w) rs vs/\E'.fix=E.fix/\Mem E' ρ' W w/\jY (fz w E') w ts vs y/\ρ' 0=k.res x v0/\a.eval (.tmp 0)=E'.sl 0/\∀ q,fz w E q->fz w E' q
 | [],[],y,ρ,E,h,hM,hf=>by
  obtain⟨r,v0,h1,h2,h3⟩:=b0H h (hf.holds 0)
  have h1:0=r:=by simpa using h1
  subst h1
  exact⟨[],E,ρ,v0,.nil,rfl,hM,rfl,h2,h3,fun _ h=>h⟩
 | t::ts,r::rs,y,ρ,E,h,hM,hf=>by
  simp only[a3s] at h
  split at h<;>first|exact h.elim|skip
  rename_i p l h1
  split at h<;>first|exact h.elim|skip
  rename_i q hq
  obtain⟨hc,hy,h2⟩:=h
  obtain⟨v,E1,k1,m1,m2,m3⟩:=ZC h1 hM hf
  obtain⟨vs,E2,ρ2,v0,j1,j2,j5,j3,j6,j7,j4⟩:=a6X h2 m1 ⟨hf.size,hf.defers,fun s=>m2.wf _ (hf.wf s),fun s=>m2.holds _ _ (hf.wf s) (hf.holds s),fun s hs=>by rw[m2.par];exact hf.par s hs⟩
  refine⟨v::vs,E2,ρ2,v0,.cons k1 j1,j2.trans m2.fix,j5,⟨v,vs,rfl,?_,j3⟩,j6,j7,fun q hq=>j4 q (m2.fz q hq)⟩
  obtain⟨cs,rfl,hr⟩:=gY j4 (jZ.refl _ _) m3
  refine⟨cs,by unfold Ty.toV;rw[xO _ _ _ hq],?_⟩
  rw[<-hy]
  exact yU _ _ _ hq cs _ hr hc
 | [],_::_,y,ρ,E,h,hM,hf=>by simp[a3s] at h
 | _::_,[],y,ρ,E,h,hM,hf=>by simp[a3s] at h
theorem RV:∀ (ts:List Ty) (x:(nest ts).den) (i s:Nat),i+ts.length<=s->bT (yS i ts x) s=.any
 | [],x,i,s,_=>rfl
 | t::ts,x,i,s,hi=>by
  simp only[List.length_cons] at hi
  simp only[yS,bT]
  rw[iq (by omega)]
  exact RV ts x.2 (i+1) s (by omega)
theorem b6Y (hB:B.Ok) (hm:B.P.follows .mixedOrders=true) {f:FuncId} {fn:Func} {code:Code} {k:LK} {args:List Ty} {pre:(nest args).den->Prop} {made:(nest args).den->k.ty.den} (hf:B.P.funcs[f]?=some fn) (hb:fn.body=some code) (hN:fn.ntmps=B.N) (hkeep:B.keep=fun _=>false) (hargs:args.length<=fn.ntmps) (A:(nest args).den->List Ann)
  (h:∀ x,pre x->vwp B code (A x) (c2I k (made x) fn.results.toList) (yS 0 args x) []):NOk B.P f (.mk k args pre made):=by
 intro F w vs x hF hvs hpre
 have hl:=MB hvs
 let E:Env:=⟨fun _=>none,fun _=>undef,fun q=>F q\/w.heap.size<=q,fun _ _=>undef,fun _=>False,fun _=>undef⟩
 have hhas:∀ r j q,¬ E.has r j q:=fun r j q h=>by cases j<;>cases h
 have hFz:∀ q,F q->fz w E q:=fun q hq=>uD (hF q hq) (.inl hq) (fun r j=>hhas r j q)
 have hM:Mem E (aU []) w w:=⟨⟨rfl,rfl,rfl,aj _,fun _ _ _=>rfl⟩,fun r=>rfl,fun r j r' j' b e=>(hhas r j b e).elim,fun r j b e=>(hhas r j b e).elim,fun q hq=>hq.elim (fun h=>h.elim) .inr,fun r i _=>rfl,fun r k e=>(by cases e),fun b o n h=>h⟩
 refine calls_of_wp hf hb (wp_mono (a5B (W:=w) (base:=E.fix) hB hm code (h x hpre) ⟨E,rfl,hM,?_⟩) (fun e a w' hq=>?_))
 ·refine⟨by simp[hN];omega,rfl,fun s=>(vC hFz 0 s hvs).1,fun s=>?_,fun s hs=>by rw[hkeep] at hs;cases hs⟩
  have h1:=(vC (ρ:=aU []) hFz 0 s hvs).2.1 (uq _)
  rw[Nat.sub_zero] at h1
  by_cases hs:s<vs.length
  ·have:(({ tmps:=vs.toArray++Array.replicate (fn.ntmps-vs.toArray.size) undef,defers:=[] }:Act).eval (.tmp s))=vs.getD s undef:=by
    simp[Act.eval,ku,Array.getElem?_append,hs]
   rw[this];exact h1
  ·rw[RV args x 0 s (by omega)];trivial
 ·obtain⟨G',R',k1,_,E',k2,k3,k4⟩:=hq
  have fin:mkP k (made x) (bT G') (aU R') fn.results.toList->a.defers=[]/\∃ v,(results fn a.tmps).run B.P w'=.ok v w'/\∃ v' E1 ρ1 q v0,Ending.returned v=.returned v'/\Mem E1 ρ1 w w'/\(∀ q,¬ E1.qR q)/\ρ1 q=k.res (made x) v0/\v'=E1.sl q:=fun hr=>by
   match hrs:fn.results.toList,hr with
   | [.tmp s],hr =>
    obtain⟨r,v0,_,h2,h3⟩:=b0H hr (k4.holds s)
    refine⟨k4.defers,_,DU (vs:=[a.eval (.tmp s)]) (by rw[hrs];exact .cons rfl .nil),_,E',aU R',r,v0,rfl,k3,fun q=>?_,h2,h3⟩
    rw[show E'.qR=E.qR from xw Fix.qR k2]
    exact id
  cases e with
  | normal=>exact fin k1
  | ret=>exact fin k1
  | exit i=>exact k1.elim
  | goto l=>exact k1.elim
  | panic ch=>exact k1.elim
  | outgrown=>exact k1.elim
theorem b4d (hB:B.Ok) (hm:B.P.follows .mixedOrders=true) {f:FuncId} {fn:Func} {code:Code} {k:LK} {args res:List Ty} {pre:k.ty.den->(nest args).den->Prop} {out:k.ty.den->(nest args).den->k.ty.den} {g:k.ty.den->(nest args).den->(nest res).den} (hf:B.P.funcs[f]?=some fn) (hb:fn.body=some code) (hN:fn.ntmps=B.N) (hkeep:B.keep=fun s=>s==0) (hargs:args.length+1<=fn.ntmps) (A:k.ty.den->(nest args).den->List Ann)
  (h:∀ x y,pre x y->vwp B code (A x y) (c2J B k (out x y) res fn.results.toList (g x y)) ((0,.own 0 0)::yS 1 args y) [(0,k.res x 0)]):NOk B.P f (.chg k args res pre out g):=by
 intro F w s I vs x y hF hM hvs hpre
 have hl:=MB hvs
 have hR:aU [(0,k.res x 0)]=a3g (k.res x 0):=by
  funext r
  simp only[aU,a3g]
 have hhas:∀ r j q,(Env.of F w s I).has r j q->CY s I q:=fun r j q h=>by
  cases j with
  | zero =>
   have h:(if r=0 then bW s else none)=some q:=h
   split at h
   ·exact .inl h
   ·cases h
  | succ i =>
   have h:bW (if r=0 then I i else undef)=some q:=h
   split at h
   ·exact .inr ⟨i,h⟩
   ·cases h
 have hFz:∀ q,F q->fz w (Env.of F w s I) q:=fun q hq=>uD (hF q hq).1 (.inl hq) (fun r j h=>(hF q hq).2 (hhas r j q h))
 have hev:∀ q,q<(s::vs).length->(({ tmps:=(s::vs).toArray++Array.replicate (fn.ntmps-(s::vs).toArray.size) undef,defers:=[] }:Act).eval (.tmp q))=(s::vs).getD q undef:=fun q hq=>by
  simp only[Act.eval,ku,bf]
  rw[Array.getElem?_append_left (by simpa using hq)]
  simp
 refine calls_of_wp hf hb (wp_mono (a5B (W:=w) (base:=(Env.of F w s I).fix) hB hm code (h x y hpre) ⟨Env.of F w s I,rfl,by rw[hR];exact hM,?_⟩) (fun e a w' hq=>?_))
 ·refine⟨by simp[hN];omega,rfl,fun q=>?_,fun q=>?_,fun q hq=>?_⟩
  ·by_cases e:q=0
   ·subst e
    show Res.fM 0 (aU [(0,k.res x 0)] 0)
    cases k<;>exact uq _
   ·show (bT ((0,.own 0 0)::yS 1 args y) q).wf _
    simp only[bT]
    rw[iq e]
    exact(vC hFz 1 q hvs).1
  ·by_cases e:q=0
   ·subst e
    rw[hev 0 (by simp)]
    intro _
    rfl
   ·show (bT ((0,.own 0 0)::yS 1 args y) q).holds _ _ _ _
    simp only[bT]
    rw[iq e]
    by_cases hs:q<(s::vs).length
    ·rw[hev q hs]
     have h1:=(vC (ρ:=aU [(0,k.res x 0)]) hFz 1 q hvs).2.1 (by omega)
     have e2:q=(q-1)+1:=by omega
     rw[e2,List.getD_cons_succ]
     rw[<-e2]
     exact h1
    ·simp only[List.length_cons] at hs
     rw[RV args y 1 q (by omega)];trivial
  ·rw[hkeep] at hq
   have hq:q=0:=by simpa using hq
   subst hq
   exact hev 0 (by simp)
 ·obtain⟨G',R',k1,_,E',k2,k3,k4⟩:=hq
  have fin:a3s B k (out x y) (bT G') (aU R') res fn.results.toList (g x y)->a.defers=[]/\∃ v,(results fn a.tmps).run B.P w'=.ok v w'/\∃ v' E1 ρ1 v0,Ending.returned v=.returned v'/\Mem E1 ρ1 w w'/\E1.base=(Env.of F w s I).base/\E1.qR=CY s I/\ρ1 0=k.res (out x y) v0/\E1.sl 0=s/\rV (fz w' E1) w' res v' (g x y):=fun hr=>by
   obtain⟨us,E2,ρ2,v0,j1,j2,j5,j3,j6,j7,_⟩:=a6X hr k3 k4
   have hp:=k4.par 0 (by rw[hkeep];rfl)
   refine⟨k4.defers,_,DU j1,_,E2,ρ2,v0,rfl,j5,xw Fix.base (j2.trans k2),xw Fix.qR (j2.trans k2),j6,?_,b1I j3⟩
   rw[<-j7,hp,show E'.par=(Env.of F w s I).par from xw Fix.par k2]
   rfl
  cases e with
  | normal=>exact fin k1
  | ret=>exact fin k1
  | exit i=>exact k1.elim
  | goto l=>exact k1.elim
  | panic ch=>exact k1.elim
  | outgrown=>exact k1.elim
end
end
end Go.Proofs.YtgplhbhfdgempaaGreat
