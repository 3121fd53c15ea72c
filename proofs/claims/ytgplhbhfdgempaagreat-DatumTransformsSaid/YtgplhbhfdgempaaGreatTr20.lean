/-
  Lemmas for the theorem vtransforms_holds, part 20 of 39.
-/
import Derived.Test.YtgplhbhfdgempaaGreatTr19
namespace Go.Proofs.YtgplhbhfdgempaaGreat
open Go Go.RowKit
section
set_option linter.unusedSimpArgs false
set_option linter.unusedVariables false
set_option maxRecDepth 20000
def a6J (n:Gam->Rho->Prop) (Q:Exit->Gam->Rho->Prop):Exit->Gam->Rho->Prop
 | .normal,G,R=>n G R
 | e,G,R=>Q e G R
def a8C (id:Nat) (Q:Exit->Gam->Rho->Prop):Exit->Gam->Rho->Prop
 | .exit i,G,R=>if i=id then Q .normal G R else Q (.exit i) G R
 | e,G,R=>Q e G R
inductive Ann:Type 1 where
 | inv (ι:Type) (S:ι->Gam) (Z:ι->Rho) (m:ι->Nat) (i0:ι) (sub:ι->List Ann)
 | rounds (n:Nat) (l:List Nat) (sub:List Ann)
 | turns (n:Nat) (l k:List Nat) (sub:List Ann)
def nl:Code->Nat
 | .seq a b=>nl a+nl b
 | .cond _ a b=>nl a+nl b
 | .block _ c=>nl c
 | .loop _=>1
 | _=>0
def a1h (F:(Exit->Gam->Rho->Prop)->Gam->Rho->Prop) (l:List Nat) (Q:Exit->Gam->Rho->Prop):Nat->Gam->Rho->Prop
 | 0,_,_=>False
 | n+1,G,R=>F (a6J (fun G R=>a1h F l Q n (cut l G) R) Q) G R
def b6D:Res->Res
 | .row e t xs _=>.row e t xs 0
 | .fro t xs _=>.fro t xs 0
 | .mat e e2 t ids xss _=>.mat e e2 t ids xss 0
 | .mJ k=>.mJ (kJ k)
 | x=>x
def YX (G:Gam):List Nat->Gam
 | []=>[]
 | s::l=>match (bP G s).res with
  | []=>YX G l
  | _=>(s,kJ (bP G s))::YX G l
def b2c (R:Rho):List Nat->Rho
 | []=>[]
 | r::k=>(r,b6D (aT R r))::b2c R k
def less (l k:List Nat):List Nat:=l.filter fun s=>!k.contains s
def MP:K->Bool
 | .any=>true
 | _=>false
theorem MS {k:K}:MP k=true↔k=.any:=by cases k<;>simp[MP]
def b9K (S:Gam) (l:List Nat):Bool:=S.all fun p=>l.contains p.1 || MP p.2
def Res.MV:Res->Bool
 | .box _=>true
 | _=>false
def OH (v:Nat):Res->Bool
 | .mat _ _ _ _ _ v'=>v'==v
 | _=>false
def Res.vZ:Res->Bool
 | .mJ _=>true
 | _=>false
def Res.a2l:Res->Bool
 | .mJ _=>true
 | .gone=>true
 | _=>false
theorem Res.yR {x:Res}:x.vZ=true↔x.nR:=by cases x<;>simp[Res.vZ,Res.nR]
theorem Res.a2m {x:Res} (h:x.a2l=true):x.FQ:=by cases x<;>simp_all [Res.a2l,Res.FQ]
theorem KH {v:Nat} {x:Res} (h:OH v x=true):Res.nZ v x:=by cases x<;>simp_all [OH,Res.nZ]
theorem Res.EU {x:Res} (h:x.MV=true):x.oW:=by cases x<;>simp_all [Res.MV,Res.oW]
def b0e (R R':Rho):K->K->Bool
 | _,.any=>true
 | .nil,.nil=>true
 | .ptr r o,.ptr r' o'=>r==r'&&o==o'&&(aT R r).MV&&(aT R' r).MV
 | .own r v,.own r' v'=>r==r'&&v'==0&&KX v (aT R r)&&KX 0 (aT R' r)
 | .nK r,.nK r'=>r==r'&&(aT R' r).a2l&&(!(aT R' r).vZ || (aT R r).vZ)
 | _,_=>false
theorem b3m {R R':Rho}:∀ {k k':K},b0e R R' k k'=true->leK R R' k k'
 | k,.any,_=>by cases k<;>trivial
 | .nil,.nil,_=>trivial
 | .ptr r o,.ptr r' o',h=>by
  simp only[b0e,ak,ji] at h
  exact⟨h.1.1.1,h.1.1.2,Res.EU h.1.2,Res.EU h.2⟩
 | .own r v,.own r' v',h=>by
  simp only[b0e,ak,ji] at h
  obtain⟨⟨⟨h1,h2⟩,h3⟩,h4⟩:=h
  subst h2
  simp only[leK]
  exact⟨h1,trivial,DN h3,DN h4⟩
 | .nK r,.nK r',h=>by
  simp only[b0e,ak,ji,tu,ny] at h
  obtain⟨⟨h1,h2⟩,h3⟩:=h
  refine⟨h1,Res.a2m h2,fun hb=>?_⟩
  have:=Res.yR.2 hb
  rw[this] at h3
  exact Res.yR.1 (h3.resolve_left (by simp))
def eqC (t t':Ty) (x:t.den) (y:t'.den):List Prop:=if h:t=t' then [h ▸ x=y] else [False]
theorem yO {t t':Ty} {x:t.den} {y:t'.den} (h:bY (eqC t t' x y)):jE t t' x=some y:=by
 unfold eqC at h
 split at h
 ·rename_i e
  subst e
  unfold jE
  rw[dif_pos rfl]
  exact xu some h.1
 ·exact h.1.elim
def b6b (ids rC:Option (List Nat)):List Prop:=match ids,rC with
 | none,none=>[]
 | some l,some l'=>[l=l']
 | _,_=>[False]
theorem b3e {ids rC:Option (List Nat)} (h:bY (b6b ids rC)):ids=rC:=by
 unfold b6b at h
 split at h
 ·rfl
 ·rw[h.1]
 ·exact h.1.elim
def a6x:Res->Res->List Prop
 | .mat _ _ _ ids xss _,.mat _ _ _ rC yss _=>(xss.length=yss.length)::b6b ids rC
 | _,_=>[False]
theorem a3c {x y:Res} (h:bY (a6x x y)):QI x y:=by
 unfold a6x at h
 split at h
 ·exact⟨b3e h.2,h.1⟩
 ·exact h.1.elim
def TL (R R':Rho):List K0->List K0->List Prop
 | [],[]=>[]
 | .val t x::ks,.val t' y::ks'=>eqC t t' x y++TL R R' ks ks'
 | .ptr r o::ks,.ptr r' o'::ks'=>if r==r'&&o==o'&&(aT R r).MV&&(aT R' r).MV then TL R R' ks ks' else [False]
 | .nK r::ks,.nK r'::ks'=>if r==r'&&(aT R' r).a2l&&(!(aT R' r).vZ || (aT R r).vZ) then TL R R' ks ks' else [False]
 | _,_=>[False]
theorem b3l {R R':Rho} {r r':Nat} (h:(r==r'&&(aT R' r).a2l&&(!(aT R' r).vZ || (aT R r).vZ))=true):r=r'/\(aT R' r).FQ/\((aT R' r).nR->(aT R r).nR):=by
 simp only[ak,ji,tu,ny] at h
 obtain⟨⟨h1,h2⟩,h3⟩:=h
 refine⟨h1,Res.a2m h2,fun hb=>?_⟩
 have:=Res.yR.2 hb
 rw[this] at h3
 exact Res.yR.1 (h3.resolve_left (by simp))
theorem KG {R R':Rho}:∀ {ks ks':List K0},bY (TL R R' ks ks')->TM R R' ks ks'
 | [],[],_=>trivial
 | k::ks,[],h=>by cases k<;>exact h.1.elim
 | [],k::ks,h=>h.1.elim
 | k::ks,k'::ks',h=>by
  cases k<;>cases k'<;>first|exact h.1.elim|skip
  ·exact⟨yO (bW.1 h).1,KG (bW.1 h).2⟩
  ·simp only[TL] at h
   split at h<;>first|exact h.1.elim|skip
   rename_i hb
   simp only[ak,ji] at hb
   exact⟨⟨hb.1.1.1,hb.1.1.2,Res.EU hb.1.2,Res.EU hb.2⟩,KG h⟩
  ·simp only[TL] at h
   split at h<;>first|exact h.1.elim|skip
   rename_i hb
   exact⟨b3l hb,KG h⟩
def b0f (R R':Rho) (k k':K):List Prop:=if b0e R R' k k' then [] else match k,k' with
 | .val t x,.val t' y=>eqC t t' x y
 | .fn g ks,.fn g' ks'=>if g==g' then TL R R' ks ks' else [False]
 | .cell r v i,.cell r' v' i'=>if r==r'&&v'==0&&KX v (aT R r)&&KX 0 (aT R' r)&&(aT R r).esz==(aT R' r).esz then [i=i'] else [False]
 | .mrow r v i,.mrow r' v' i'=>if r==r'&&v'==0&&OH v (aT R r)&&OH 0 (aT R' r) then (i=i')::a6x (aT R r) (aT R' r) else [False]
 | .mpos r v i j,.mpos r' v' i' j'=>if r==r'&&v'==0&&OH v (aT R r)&&OH 0 (aT R' r)&&(aT R r).msz==(aT R' r).msz then (i=i')::(j=j')::a6x (aT R r) (aT R' r) else [False]
 | k,k'=>[leK R R' k k']
theorem a0y {R R':Rho} {k k':K} (h:bY (b0f R R' k k')):leK R R' k k':=by
 unfold b0f at h
 split at h
 ·rename_i e;exact b3m e
 ·split at h
  ·exact yO h
  ·split at h<;>first|exact h.1.elim|skip
   rename_i hb
   exact⟨by simpa using hb,KG h⟩
  ·split at h<;>first|exact h.1.elim|skip
   rename_i hb
   simp only[ak,ji] at hb
   obtain⟨⟨⟨⟨h1,h2⟩,h3⟩,h4⟩,h5⟩:=hb
   exact⟨h1,h.1,h2,DN h3,DN h4,h5⟩
  ·split at h<;>first|exact h.1.elim|skip
   rename_i hb
   simp only[ak,ji] at hb
   obtain⟨⟨⟨h1,h2⟩,h3⟩,h4⟩:=hb
   exact⟨h1,h.1,h2,KH h3,KH h4,a3c h.2⟩
  ·split at h<;>first|exact h.1.elim|skip
   rename_i hb
   simp only[ak,ji] at hb
   obtain⟨⟨⟨⟨h1,h2⟩,h3⟩,h4⟩,h5⟩:=hb
   exact⟨⟨h1,h.1,h.2.1,h2,KH h3,KH h4⟩,a3c h.2.2,h5⟩
  ·exact h.1
def b6h:List Part->List Part->List Prop
 | [],[]=>[]
 | p::ps,q::qs=>eqC p.t q.t p.x q.x++b6h ps qs
 | _,_=>[False]
theorem a5Q:∀ {ps qs:List Part},bY (b6h ps qs)->leP ps qs
 | [],[],_=>trivial
 | p::ps,q::qs,h=>⟨yO (bW.1 h).1,a5Q (bW.1 h).2⟩
 | [],_::_,h=>h.1.elim
 | _::_,[],h=>h.1.elim
def b6g {t t':Ty} (ids rC:Option (List Nat)) (xss:List (List t.den)) (yss:List (List t'.den)):List Prop:=match ids,rC with
 | some l,none=>l.Nodup::eqC (.list (.list t)) (.list (.list t')) (l.map fun i=>xss.getD i []) yss
 | none,none=>eqC (.list (.list t)) (.list (.list t')) xss yss
 | some l,some l'=>(l=l')::eqC (.list (.list t)) (.list (.list t')) xss yss
 | none,some _=>[False]
theorem b3o {t t':Ty} {ids rC:Option (List Nat)} {xss:List (List t.den)} {yss:List (List t'.den)} (h:bY (b6g ids rC xss yss)):leM ids rC xss yss:=by
 cases ids<;>cases rC<;>simp only[b6g] at h
 ·exact⟨rfl,yO h⟩
 ·exact h.1.elim
 ·exact⟨h.1,yO h.2⟩
 ·exact⟨by rw[h.1],yO h.2⟩
def b6i (R R':Rho):Res->Res->List Prop
 | _,.none=>[]
 | .box ps,.box qs=>b6h ps qs
 | .row e t xs _,.row e' t' ys v=>if e=e'/\v=0 then eqC (.list t) (.list t') xs ys else [False]
 | .mat e _ t none xss _,.row e' t' ys v=>if e=e'/\v=0 then eqC (.list (.list t)) (.list t') xss ys else [False]
 | .fro t xs _,.fro t' ys v=>if v=0 then eqC (.list t) (.list t') xs ys else [False]
 | .mat e e2 t ids xss _,.mat e' e2' t' rC yss v=>if e=e'/\e2=e2'/\v=0 then b6g ids rC xss yss else [False]
 | .mJ k,.mJ k'=>if k'.one then b0f R R' k k' else [False]
 | .mJ _,.gone=>[]
 | .gone,.gone=>[]
 | x,y=>[leR R R' x y]
theorem b3p {R R':Rho} {x y:Res} (h:bY (b6i R R' x y)):leR R R' x y:=by
 unfold b6i at h
 split at h
 ·cases x<;>trivial
 ·exact a5Q h
 ·split at h
  ·rename_i hh;exact⟨hh.1,hh.2,yO h⟩
  ·exact h.1.elim
 ·split at h
  ·rename_i hh;exact⟨hh.1,hh.2,yO h⟩
  ·exact h.1.elim
 ·split at h
  ·rename_i hh;exact⟨hh,yO h⟩
  ·exact h.1.elim
 ·split at h
  ·rename_i hh;exact⟨hh.1,hh.2.1,hh.2.2,b3o h⟩
  ·exact h.1.elim
 ·split at h
  ·rename_i hh;exact⟨hh,a0y h⟩
  ·exact h.1.elim
 ·trivial
 ·trivial
 ·exact h.1
theorem a5m {α:Type} {f g:α->List Prop} (h:∀ a,bY (f a)->bY (g a)):∀ {l:List α},bY (l.flatMap f)->bY (l.flatMap g)
 | [],_=>trivial
 | a::l,h1=>by
  rw[List.flatMap_cons] at h1 ⊢
  exact bW.2 ⟨h a (bW.1 h1).1,a5m h (bW.1 h1).2⟩
theorem QS {α:Type} {f:α->List Prop} {g:α->Prop} (h:∀ a,bY (f a)->g a):∀ {l:List α},bY (l.flatMap f)->bY (l.map g)
 | [],_=>trivial
 | a::l,h1=>by
  rw[List.flatMap_cons] at h1
  exact⟨h a (bW.1 h1).1,QS h (bW.1 h1).2⟩
def b3n (G:Gam) (R:Rho) (S:Gam) (Z:Rho) (l:List Nat):List Prop :=
 S.flatMap (fun p=>b0f R Z (bP G p.1) p.2)++(cut (S.map (·.1)++l) G).flatMap (fun p=>if (bP G p.1).res.isEmpty then [] else b0f R Z (bP G p.1) (kJ (bP G p.1)))++Z.flatMap (fun p=>b6i R Z (aT R p.1) p.2)
theorem a0z {G:Gam} {R:Rho} {S:Gam} {Z:Rho} {l:List Nat} (h:bY (b3n G R S Z l)):bY (leL G R S Z l):=by
 obtain⟨h12,h3⟩:=bW.1 h
 obtain⟨h1,h2⟩:=bW.1 h12
 refine bW.2 ⟨bW.2 ⟨QS (fun p hp=>a0y hp) h1,a5m (fun p hp=>?_) h2⟩,QS (fun p hp=>b3p hp) h3⟩
 by_cases e:(bP G p.1).res.isEmpty=true
 ·rw[gy e];trivial
 ·rw[ig e] at hp ⊢
  exact⟨a0y hp,trivial⟩
def b9J (R:Rho):K->Bool
 | .own r v=>!KX v (aT R r)
 | .cell r v _=>!KX v (aT R r)
 | .mrow r v _=>!OH v (aT R r)
 | .mpos r v _ _=>!OH v (aT R r)
 | _=>false
def SH (G:Gam) (R:Rho) (zs:List Nat):List Nat:=(G.filter fun p=>(bP G p.1).res.any (fun r=>!zs.contains r) || b9J R (bP G p.1)).map (·.1)
def b4O (G G':Gam) (l:List Nat):Bool:=(cut l G).all fun p=>MP (kJ (bP G p.1)) || !MP (kJ (bP G' p.1))
def a9H (G G':Gam) (l:List Nat):List Prop:=if b4O G G' l then [] else [False]
def a4W (F:(Exit->Gam->Rho->Prop)->Gam->Rho->Prop) (L l k:List Nat) (Q:Exit->Gam->Rho->Prop):Nat->Gam->Rho->Prop
 | 0,_,_=>False
 | n+1,G,R=>F (a6J (fun G R=>bY (b3n G R (YX G l) (b2c R k) (less L l++SH G R k))/\b9K (YX G l) L=true/\a4W F L l k Q n (YX G l++rE (cut ((YX G l).map (·.1)++(less L l++SH G R k)) G)) (b2c R k)) Q) G R
def ifB (b:Bool) (p q:Prop):Prop:=match b with
 | true=>p
 | false=>q
theorem aU {b:Bool} {p q:Prop}:ifB b p q↔(b=true->p)/\(b=false->q):=by cases b<;>simp[ifB]
def one1 (B:Book) (G:Gam):Code->Option (Option (Nat × K))
 | .skip=>some none
 | .region _ ops false=>match ops.toList with
  | [o]=>match o.op,o.dst,o.guard with
   | .assign x,some d,none=>if a9d B (some d) then some (some (d,opK (kW (tmpsOf (.assign x)) (bP G)) x)) else none
   | _,_,_=>none
  | _=>none
 | _=>none
def a2z (b:Bool):K->K->K
 | .val t x,.val t' y=>match jE t t' x with
  | some x=>.val t' (bif b then x else y)
  | none=>.any
 | _,_=>.any
def XQ (b:Bool) (G:Gam):Option (Nat × K)->Option (Nat × K)->Option (Nat × K)
 | some (d,k),none=>some (d,a2z b k (bP G d))
 | none,some (d,k)=>some (d,a2z b (bP G d) k)
 | some (d,k),some (d',k')=>if d=d' then some (d,a2z b k k') else none
 | none,none=>none
def named (Q:Gam->Prop) (G:Gam) (d:Nat):K->Prop
 | .val t y=>∀ z:t.den,z=y->Q ((d,.val t z)::G)
 | k=>Q ((d,k)::G)
theorem named_ok {Q:Gam->Prop} {G:Gam} {d:Nat} {k:K} (h:named Q G d k):Q ((d,k)::G):=by
 cases k<;>first|exact h|exact h _ rfl
def b5a (B:Book) (G:Gam) (b:Bool) (t e:Code):Operand->Option (Nat × K)
 | .tmp s=>if B.T.kb (1000000+s) then (match one1 B G t,one1 B G e with
  | some l1,some l2=>XQ b G l1 l2
  | _,_=>none) else none
 | _=>none
def vwp (B:Book):Code->List Ann->(Exit->Gam->Rho->Prop)->Gam->Rho->Prop
 | .skip,_,Q,G,R=>Q .normal G R
 | .label _,_,Q,G,R=>Q .normal G R
 | .exit i,_,Q,G,R=>Q (.exit i) G R
 | .ret,_,Q,G,R=>Q .ret G R
 | .region _ ops draw,_,Q,G,R=>match nN B ops draw G R with
  | some ([],G',R')=>Q .normal G' R'
  | some (vc,G',R')=>bY vc/\Q .normal G' R'
  | none=>False
 | .seq a b,A,Q,G,R=>vwp B a (A.take (nl a)) (a6J (vwp B b (A.drop (nl a)) Q) Q) G R
 | .cond c t e,A,Q,G,R=>match opK (bP G) c with
  | .val .bool b=>match b5a B G b t e c with
   | some (d,k)=>named (fun G'=>Q .normal G' R) G d k
   | none=>ifB b (vwp B t (A.take (nl t)) Q G R) (vwp B e (A.drop (nl t)) Q G R)
  | _=>False
 | .block i c,A,Q,G,R=>vwp B c A (a8C i Q) G R
 | .loop c,A,Q,G,R=>match A with
  | .inv ι S Z m i0 sub::_=>bY (b3n G R (S i0) (Z i0) (asg c++SH G R ((Z i0).map (·.1)))) /\
   ∀ i,b9K (S i) (asg c)=true/\vwp B c (sub i) (a6J (fun G' R'=>∃ i',m i'<m i/\bY (a9H G G' ((S i').map (·.1)++(asg c++SH G R ((Z i0).map (·.1))))++b3n G' R' (S i') (Z i') (asg c++SH G R ((Z i0).map (·.1))))) Q) (S i++rE (cut ((S i).map (·.1)++(asg c++SH G R ((Z i0).map (·.1)))) G)) (Z i)
  | .rounds n l sub::_=>a1h (vwp B c sub) (less (asg c) l) Q n G R
  | .turns n l k sub::_=>a4W (vwp B c sub) (asg c) l k Q n G R
  | []=>False
 | _,_,_,_,_=>False
section
variable {B:Book} {W:World} {base:Fix}
def Fr (l:List Nat) (G G':Gam):Prop:=∀ s,s ∉ l->kJ (bP G' s)=.any\/kJ (bP G' s)=kJ (bP G s)
theorem Fr.trans {l m:List Nat} {G G' G'':Gam} (h:Fr l G G') (k:Fr m G' G''):Fr (l++m) G G'':=fun s hs=>by
 simp only[uq,not_or] at hs
 rcases k s hs.2 with e|e
 ·exact .inl e
 ·rcases h s hs.1 with e2|e2
  ·exact .inl (e.trans e2)
  ·exact .inr (e.trans e2)
theorem Fr.refl (l:List Nat) (G:Gam):Fr l G G:=fun _ _=>.inr rfl
theorem Fr.more {l m:List Nat} {G G':Gam} (h:Fr l G G') (hl:∀ s ∈ l,s ∈ m):Fr m G G':=fun s hs=>h s (fun h'=>hs (hl s h'))
theorem Fr.two {l:List Nat} {G G' G'':Gam} (h:Fr l G G') (k:Fr l G' G''):Fr l G G'':=(h.trans k).more (fun s hs=>(uq.1 hs).elim id id)
theorem YO {ops:Array Oper}:∀ {l:List Oper} {G:Gam} {R:Rho} {vc:List Prop} {G':Gam} {R':Rho},zK B ops l G R=some (vc,G',R')->Fr (l.filterMap (·.dst)) G G'
 | [],G,R,vc,G',R',h=>by
  simp only[zK,ah,dh] at h
  obtain⟨_,rfl,_⟩:=h
  exact Fr.refl _ _
 | o::rest,G,R,vc,G',R',h=>by
  simp only[zK] at h
  split at h<;>try(cases h;done)
  rename_i vc1 k l1 h1
  split at h<;>try(cases h;done)
  rename_i vc2 G2 R2 h2
  simp only[ah,dh] at h
  obtain⟨_,rfl,_⟩:=h
  intro s hs
  have ih:=YO h2
  cases hd:o.dst with
  | none =>
   rw[List.filterMap_cons_none hd] at hs
   exact(ih s hs).imp id (fun h=>h.trans (by rw[xB,hd];rfl))
  | some d =>
   rw[List.filterMap_cons_some hd] at hs
   simp only[um,not_or] at hs
   exact(ih s hs.2).imp id (fun h=>h.trans (by rw[xB,hd];exact xu kJ (aP _ _ hs.1)))
theorem YR {ops:Array Oper}:∀ {l:List Oper} {G:Gam} {R:Rho} {vc:List Prop} {ss:List Sim} {G':Gam} {R':Rho},zM B ops l G R=some (vc,ss,G',R')->Fr (l.filterMap (·.dst)) G G'
 | [],G,R,vc,ss,G',R',h=>by
  simp only[zM,ah,dh] at h
  obtain⟨_,_,rfl,_⟩:=h
  exact Fr.refl _ _
 | o::rest,G,R,vc,ss,G',R',h=>by
  simp only[zM] at h
  split at h<;>try(cases h;done)
  rename_i vc1 k l1 h1
  split at h<;>try(cases h;done)
  rename_i vc2 ss2 G2 R2 h2
  simp only[ah,dh] at h
  obtain⟨_,_,rfl,_⟩:=h
  intro s hs
  have ih:=YR h2
  cases hd:o.dst with
  | none =>
   rw[List.filterMap_cons_none hd] at hs
   exact(ih s hs).imp id (fun h=>h.trans (by rw[xB,hd];rfl))
  | some d =>
   rw[List.filterMap_cons_some hd] at hs
   simp only[um,not_or] at hs
   exact(ih s hs.2).imp id (fun h=>h.trans (by rw[xB,hd];exact xu kJ (aP _ _ hs.1)))
theorem a0S {id:Nat} {ops:Array Oper} {draw:Bool} {G:Gam} {R:Rho} {vc:List Prop} {G':Gam} {R':Rho} (h:nN B ops draw G R=some (vc,G',R')):Fr (asg (.region id ops draw)) G G':=by
 unfold nN at h
 cases draw with
 | true =>
  simp only[Dk] at h
  split at h<;>try(cases h;done)
  rename_i vc1 ss G1 R1 b5V
  split at h<;>try(cases h;done)
  simp only[ah,dh] at h
  obtain⟨_,rfl,_⟩:=h
  exact YR b5V
 | false =>
  simp only[zq,if_false] at h
  exact YO h
def PostF (B:Book) (W:World) (base:Fix) (Q:Exit->Gam->Rho->Prop) (l:List Nat) (G:Gam) (e:Exit) (a:Act) (w:World):Prop:=∃ G' R,Q e G' R/\Fr l G G'/\St B W base G' R a w
theorem vX {l:List Nat} {s:Nat} (h:s ∈ l):∀ (G:Gam),bP (cut l G) s=.any
 | []=>rfl
 | (q,k)::G=>by
  unfold cut
  rw[List.filter_cons]
  have ih:=vX h G
  unfold cut at ih
  split
  ·rename_i hq
   simp only[bP]
   rw[ig]
   ·exact ih
   ·rintro rfl
    have:l.contains s=true:=by simpa using h
    rw[this] at hq;cases hq
  ·exact ih
theorem nH {l:List Nat} {s:Nat} (h:s ∉ l):∀ (G:Gam),bP (cut l G) s=bP G s
 | []=>rfl
 | (q,k)::G=>by
  unfold cut
  rw[List.filter_cons]
  have ih:=nH h G
  unfold cut at ih
  split
  ·simp only[bP]
   split
   ·rfl
   ·exact ih
  ·rename_i hq
   simp only[bP]
   rw[ig]
   ·exact ih
   ·rintro rfl
    have:l.contains s=true:=by simpa using hq
    exact h (by simpa using this)
theorem a5H {S:Gam} {L l:List Nat} {G:Gam} (h:b9K S L=true):Fr L G (S++rE (cut (S.map (·.1)++l) G)):=fun s hs=>by
 rcases SK S (rE (cut (S.map (·.1)++l) G)) s with⟨p,k1,rfl,k3⟩|⟨k1,k2⟩
 ·left
  obtain⟨p',j1,j2,j3⟩:=yQ ⟨p,k1,rfl⟩
  have:=xk.1 h p' j1
  rw[j2] at this
  simp only[tu,List.contains_eq_mem,ay,MS] at this
  rw[k3,j3,this.resolve_left hs]
  rfl
 ·rw[k2,uS,WL]
  by_cases hm:s ∈ S.map (·.1)++l
  ·left;rw[vX hm];rfl
  ·right;rw[nH hm]
theorem a7r {S:Gam} {L l:List Nat} {G G':Gam} (h:Fr L G G') (hL:∀ s ∈ L,s ∈ S.map (·.1)++l) (hb:bY (a9H G G' (S.map (·.1)++l))) (s:Nat):bP (S++rE (cut (S.map (·.1)++l) G)) s=bP (S++rE (cut (S.map (·.1)++l) G')) s:=by
 have hb:b4O G G' (S.map (·.1)++l)=true:=by
  unfold a9H at hb
  split at hb
  ·assumption
  ·exact hb.1.elim
 have e:bP (rE (cut (S.map (·.1)++l) G)) s=bP (rE (cut (S.map (·.1)++l) G')) s:=by
  rw[uS,uS]
  by_cases hm:s ∈ S.map (·.1)++l
  ·rw[vX hm,vX hm]
  ·rw[nH hm,nH hm]
   rcases h s (fun h'=>hm (hL s h')) with e|e
   ·rcases SL (cut (S.map (·.1)++l) G) s with e2|⟨p,hp,rfl⟩
    ·rw[nH hm] at e2
     rw[e,e2];rfl
    ·have:=xk.1 hb p hp
     rw[e] at this
     simp only[MP,Bool.not_true,Bool.or_false,MS] at this
     rw[e,MS.1 this]
   ·exact e.symm
 have:∀ (S:Gam) (X Y:Gam),bP X s=bP Y s->bP (S++X) s=bP (S++Y) s:=by
  intro S
  induction S with
  | nil=>intro X Y h;exact h
  | cons p S ih =>
   intro X Y h
   simp only[List.cons_append,bP]
   split
   ·rfl
   ·exact ih X Y h
 exact this S _ _ e
def b6A (l:Option (Nat × K)) (G:Gam):Gam:=match l with
 | some p=>p::G
 | none=>G
theorem a6j {c:Code} {l:Option (Nat × K)} {A:List Ann} {G:Gam} {R:Rho} (h:one1 B G c=some l):vwp B c A (fun e G' R'=>e=.normal/\G'=b6A l G/\R'=R) G R:=by
 cases c<;>try (simp[one1] at h;done)
 case skip =>
  simp only[one1,ah] at h
  subst h
  exact⟨rfl,rfl,rfl⟩
 case region id ops draw =>
  cases draw<;>try (simp[one1] at h;done)
  simp only[one1] at h
  split at h<;>try(cases h;done)
  rename_i o ho
  split at h<;>try(cases h;done)
  rename_i x d h1 h2 h3
  split at h<;>try(cases h;done)
  rename_i hd
  simp only[ah] at h
  subst h
  have hr:nN B ops false G R=some ([],(d,opK (kW (tmpsOf (.assign x)) (bP G)) x)::G,R):=by
   simp only[nN,zq,if_false,ho,zK,xW,h1,h2,h3,hd,Dk,qG,gI,Bd,b3R,aft]
  show (match nN B ops false G R with
   | some ([],G',R')=>(Exit.normal=.normal/\G'=_/\R'=R)
   | some (vc,G',R')=>bY vc/\(Exit.normal=.normal/\G'=_/\R'=R)
   | none=>False)
  rw[hr]
  exact⟨rfl,rfl,rfl⟩
theorem EY {b:Bool} {k k':K}:(b=true->a2z b k k'=k\/a2z b k k'=.any)/\(b=false->a2z b k k'=k'\/a2z b k k'=.any):=by
 cases k<;>try exact⟨fun _=>.inr rfl,fun _=>.inr rfl⟩
 cases k'<;>try exact⟨fun _=>.inr rfl,fun _=>.inr rfl⟩
 rename_i t x t' y
 simp only[a2z]
 split
 ·rename_i x' hc
  obtain⟨rfl,rfl⟩:=fC hc
  exact⟨fun h=>.inl (by rw[h];rfl),fun h=>.inl (by rw[h];rfl)⟩
 ·exact⟨fun _=>.inr rfl,fun _=>.inr rfl⟩
theorem b0b {b:Bool} {G:Gam} {l1 l2:Option (Nat × K)} {p:Nat × K} (h:XQ b G l1 l2=some p):(b=true->∀ s,bP (p::G) s=bP (b6A l1 G) s\/bP (p::G) s=.any)/\(b=false->∀ s,bP (p::G) s=bP (b6A l2 G) s\/bP (p::G) s=.any):=by
 have hc:∀ (d:Nat) (k:K) (s:Nat),bP ((d,k)::G) s=if s=d then k else bP G s:=fun _ _ _=>rfl
 have hs:∀ (s d:Nat),s=d->bP G s=bP G d:=fun s d h=>by rw[h]
 cases l1 with
 | none =>
  cases l2 with
  | none=>simp[XQ] at h
  | some q =>
   obtain⟨d,k⟩:=q
   simp only[XQ,ah] at h
   subst h
   refine⟨fun hb s=>?_,fun hb s=>?_⟩
   ·show bP ((d,_)::G) s=bP G s\/_
    rw[hc]
    split
    ·rename_i e;rw[hs s d e];exact EY.1 hb
    ·exact .inl rfl
   ·show bP ((d,_)::G) s=bP ((d,k)::G) s\/_
    rw[hc,hc]
    split
    ·exact EY.2 hb
    ·exact .inl rfl
 | some p1 =>
  obtain⟨d,k⟩:=p1
  cases l2 with
  | none =>
   simp only[XQ,ah] at h
   subst h
   refine⟨fun hb s=>?_,fun hb s=>?_⟩
   ·show bP ((d,_)::G) s=bP ((d,k)::G) s\/_
    rw[hc,hc]
    split
    ·exact EY.1 hb
    ·exact .inl rfl
   ·show bP ((d,_)::G) s=bP G s\/_
    rw[hc]
    split
    ·rename_i e;rw[hs s d e];exact EY.2 hb
    ·exact .inl rfl
  | some q =>
   obtain⟨d',k'⟩:=q
   simp only[XQ] at h
   split at h<;>try(cases h;done)
   rename_i e
   subst e
   simp only[ah] at h
   subst h
   refine⟨fun hb s=>?_,fun hb s=>?_⟩
   ·show bP ((d,_)::G) s=bP ((d,k)::G) s\/_
    rw[hc,hc]
    split
    ·exact EY.1 hb
    ·exact .inl rfl
   ·show bP ((d,_)::G) s=bP ((d,k')::G) s\/_
    rw[hc,hc]
    split
    ·exact EY.2 hb
    ·exact .inl rfl
theorem St.less {G G':Gam} {R:Rho} {a:Act} {w:World} (h:St B W base G R a w) (hk:∀ s,bP G' s=bP G s\/bP G' s=.any):St B W base G' R a w:=by
 obtain⟨E,h0,h1,h2⟩:=h
 refine⟨E,h0,h1,h2.size,h2.defers,fun s=>?_,fun s=>?_,h2.par⟩
 ·rcases hk s with e|e
  ·rw[e];exact h2.wf s
  ·rw[e];trivial
 ·rcases hk s with e|e
  ·rw[e];exact h2.holds s
  ·rw[e];trivial
theorem Fr.less {l:List Nat} {G G1 G':Gam} (h:Fr l G G1) (hk:∀ s,bP G' s=bP G1 s\/bP G' s=.any):Fr l G G':=fun s hs=>by
 rcases hk s with e|e
 ·rw[e];exact h s hs
 ·exact .inl (by rw[e];rfl)
theorem a5d (hB:B.Ok) (hm:B.P.follows .mixedOrders=true):∀ (c:Code) {A:List Ann} {Q:Exit->Gam->Rho->Prop} {G:Gam} {R:Rho} {a:Act} {w:World},vwp B c A Q G R->St B W base G R a w->c.wp B.P (PostF B W base Q (asg c) G) a w:=by
 intro c
 induction c with
 | skip=>intro A Q G R a w h hs;exact wp_skip ⟨G,R,h,Fr.refl _ _,hs⟩
 | label l=>intro A Q G R a w h hs;exact wp_label ⟨G,R,h,Fr.refl _ _,hs⟩
 | exit i=>intro A Q G R a w h hs;exact wp_exit ⟨G,R,h,Fr.refl _ _,hs⟩
 | ret=>intro A Q G R a w h hs;exact wp_ret ⟨G,R,h,Fr.refl _ _,hs⟩
 | region id ops draw =>
  intro A Q G R a w h hs
  have key:∀ (vc:List Prop) (G':Gam) (R':Rho),nN B ops draw G R=some (vc,G',R')->bY vc->Q .normal G' R'->(Code.region id ops draw).wp B.P (PostF B W base Q (asg (.region id ops draw)) G) a w:=fun vc G' R' hr hv hq =>
   wp_mono (a0T (id:=id) hB hm (Q:=fun e G2 R2=>e=.normal/\G2=G'/\R2=R') hr hv ⟨rfl,rfl,rfl⟩ hs) (fun e a' w' hp=>by
    obtain⟨G2,R2,⟨rfl,rfl,rfl⟩,k2⟩:=hp
    exact⟨_,_,hq,a0S (id:=id) hr,k2⟩)
  simp only[vwp] at h
  split at h
  ·rename_i G' R' hr;exact key [] G' R' hr trivial h
  ·rename_i vc G' R' _ hr;exact key vc G' R' hr h.1 h.2
  ·exact h.elim
 | seq x y ihx ihy =>
  intro A Q G R a w h hs
  refine wp_seq (wp_mono (ihx h hs) (fun e a' w' hq=>?_))
  obtain⟨G',R',k1,k2,k3⟩:=hq
  have hfr:Fr (asg (.seq x y)) G G':=fun s hs'=>k2 s (fun h'=>hs' (zf _ h'))
  cases e with
  | normal =>
   refine wp_mono (ihy k1 k3) (fun e2 a2 w2 hq2=>?_)
   obtain⟨G2,R2,j1,j2,j3⟩:=hq2
   exact⟨G2,R2,j1,k2.trans j2,j3⟩
  | _=>exact⟨G',R',k1,hfr,k3⟩
 | cond c t e iht ihe =>
  intro A Q G R a w h hs
  simp only[vwp] at h
  split at h<;>first|exact h.elim|skip
  rename_i b hk
  have hs2:=hs
  obtain⟨E,h0,h1,h2⟩:=hs2
  have hv:=(UA h2).2 c
  rw[hk] at hv
  split at h
  ·rename_i d9 k9 hj
   have h:=named_ok h
   unfold b5a at hj
   split at hj<;>first|(cases hj;done)|skip
   split at hj<;>first|(cases hj;done)|skip
   split at hj<;>first|(cases hj;done)|skip
   rename_i l1 l2 hl1 hl2
   obtain⟨j1,j2⟩:=b0b hj
   refine wp_cond_split (sK hv) (fun hb=>wp_mono (iht (A:=[]) (a6j hl1) hs) (fun e a' w' hq=>?_)) (fun hb=>wp_mono (ihe (A:=[]) (a6j hl2) hs) (fun e a' w' hq=>?_))
   ·obtain⟨G1,R1,⟨rfl,rfl,rfl⟩,k2,k3⟩:=hq
    exact⟨_,_,h,(k2.less (j1 hb)).more (fun s hs'=>zf _ hs'),k3.less (j1 hb)⟩
   ·obtain⟨G1,R1,⟨rfl,rfl,rfl⟩,k2,k3⟩:=hq
    exact⟨_,_,h,(k2.less (j2 hb)).more (fun s hs'=>Bg _ hs'),k3.less (j2 hb)⟩
  have h:=aU.1 h
  refine wp_cond_split (sK hv) (fun hb=>wp_mono (iht (h.1 hb) hs) (fun e a' w' hq=>?_)) (fun hb=>wp_mono (ihe (h.2 hb) hs) (fun e a' w' hq=>?_))
  all_goals
   obtain⟨G',R',k1,k2,k3⟩:=hq
  ·exact⟨G',R',k1,fun s hs'=>k2 s (fun h'=>hs' (zf _ h')),k3⟩
  ·exact⟨G',R',k1,fun s hs'=>k2 s (fun h'=>hs' (Bg _ h')),k3⟩
 | block id c ih =>
  intro A Q G R a w h hs
  refine wp_block (wp_mono (ih h hs) (fun e a' w' hq=>?_))
  obtain⟨G',R',k1,k2,k3⟩:=hq
  cases e with
  | exit i =>
   simp only[a8C] at k1
   simp only[Exit.inBlock]
   split
   ·rename_i e;rw[gy e] at k1;exact⟨G',R',k1,k2,k3⟩
   ·rename_i e;rw[ig e] at k1;exact⟨G',R',k1,k2,k3⟩
  | _=>exact⟨G',R',k1,k2,k3⟩
 | loop c ih =>
  intro A Q G R a w h hs
  simp only[vwp] at h
  split at h
  ·rename_i ι S Z m i0 sub rest
   obtain⟨h1,h2⟩:=h
   refine wp_loop_rounds (m i0+1) (YJ (B:=B) (fun i a w=>St B W base (S i++rE (cut ((S i).map (·.1)++(asg c++SH G R ((Z i0).map (·.1)))) G)) (Z i) a w) m (fun i a' w' hi=>?_) (m i0+1) i0 a w (by omega) (a4a hs (a0z h1)))
   obtain⟨h3,h4⟩:=h2 i
   refine wp_mono (ih h4 hi) (fun e a2 w2 hq=>?_)
   obtain⟨G',R',k1,k2,k3⟩:=hq
   have hfr:Fr (asg c) G G':=(a5H h3).two k2
   cases e with
   | normal =>
    obtain⟨i',k4,k5⟩:=k1
    obtain⟨k6,k7⟩:=bW.1 k5
    exact⟨i',k4,(a4a k3 (a0z k7)).congr (fun s=>a7r hfr (fun s hs'=>Bg _ (zf _ hs')) k6 s)⟩
   | _=>exact⟨G',R',k1,hfr,k3⟩
  ·rename_i n l sub rest
   refine wp_loop_rounds n ?_
   have key:∀ n G1 R a w,Fr (asg c) G G1->a1h (vwp B c sub) (less (asg c) l) Q n G1 R->St B W base G1 R a w->Code.rounds B.P c (PostF B W base Q (asg (.loop c)) G) n a w:=by
    intro n
    induction n with
    | zero=>intro G1 R a w _ h _;exact h.elim
    | succ n ihn =>
     intro G1 R a w hf h hs
     rw[rounds_succ]
     refine wp_mono (ih h hs) (fun e a2 w2 hq=>?_)
     obtain⟨G',R',k1,k2,k3⟩:=hq
     have hfr:Fr (asg c) G G':=hf.two k2
     cases e with
     | normal =>
      refine ihn _ _ _ _ (fun s hs'=>?_) k1 (k3.cut (l:=less (asg c) l))
      have hns:s ∉ less (asg c) l:=fun h'=>hs' (List.mem_filter.1 h').1
      rw[nH hns]
      exact hfr s hs'
     | _=>exact⟨G',R',k1,hfr,k3⟩
   exact key n G R a w (Fr.refl _ _) h hs
  ·rename_i n l k sub rest
   refine wp_loop_rounds n ?_
   have key:∀ n G1 R a w,Fr (asg c) G G1->a4W (vwp B c sub) (asg c) l k Q n G1 R->St B W base G1 R a w->Code.rounds B.P c (PostF B W base Q (asg (.loop c)) G) n a w:=by
    intro n
    induction n with
    | zero=>intro G1 R a w _ h _;exact h.elim
    | succ n ihn =>
     intro G1 R a w hf h hs
     rw[rounds_succ]
     refine wp_mono (ih h hs) (fun e a2 w2 hq=>?_)
     obtain⟨G',R',k1,k2,k3⟩:=hq
     have hfr:Fr (asg c) G G':=hf.two k2
     cases e with
     | normal =>
      obtain⟨k4,k5,k6⟩:=k1
      refine ihn _ _ _ _ (fun s hs'=>?_) k6 (a4a k3 (a0z k4))
      exact(hfr.two (a5H k5)) s hs'
     | _=>exact⟨G',R',k1,hfr,k3⟩
   exact key n G R a w (Fr.refl _ _) h hs
  ·exact h.elim
 | scope c ih=>intro A Q G R a w h hs;simp only[vwp] at h
 | goto l=>intro A Q G R a w h hs;simp only[vwp] at h
 | rangeFunc f ps x y _ _=>intro A Q G R a w h hs;simp only[vwp] at h
 | refuse s=>intro A Q G R a w h hs;simp only[vwp] at h
end
attribute [irreducible] vwp
end
section
set_option linter.unusedSimpArgs false
set_option linter.unusedVariables false
set_option maxRecDepth 20000
def a0O (B:Book) (G:Nat->K) (ρ:Nat->Res) (t:Ty):ResultVar->Option (Part × List (Nat × Res))
 | .tmp s=>yJ ρ (some t) (G s)
 | .cell s ty=>match G s with
  | .ptr r o=>match ρ r with
   | .box ps=>(a5T B.P B.T ty ps o).map fun p=>(p,[])
   | _=>none
  | .val (.ref u) y=>if fitsT B.P ty u then some (⟨u,y⟩,[]) else none
  | .nK r=>match ρ r with
   | .mJ k=>if uU B.P ty==some false then yJ ρ (some t) k else none
   | _=>none
  | _=>none
def a2Q (B:Book) (G:Nat->K):(Nat->Res)->(ts:List Ty)->List ResultVar->(nest ts).den->Prop
 | _,[],[],_=>True
 | ρ,t::ts,r::rs,y=>match a0O B G ρ t r with
  | some (p,l)=>match oP p.t t with
   | some q=>bY (q.c p.x)/\q.f p.x=y.1/\a2Q B G (after ρ l) ts rs y.2
   | none=>False
  | none=>False
 | _,_,_,_=>False
def b6E (B:Book) (ts:List Ty) (rs:List ResultVar) (y:(nest ts).den):Exit->Gam->Rho->Prop
 | .normal,G,R=>a2Q B (bP G) (aT R) ts rs y
 | .ret,G,R=>a2Q B (bP G) (aT R) ts rs y
 | _,_,_=>False
def yI:Nat->(ts:List Ty)->(nest ts).den->Gam
 | _,[],_=>[]
 | i,t::ts,x=>(i,.val t x.1)::yI (i+1) ts x.2
section
variable {B:Book} {W:World}
def DI (P:Program) (a:Act):ResultVar->Sem Value
 | .tmp t=>pure (a.tmps.getD t undef)
 | .cell s t=>do loadVar t (<-asAddr (a.tmps.getD s undef))
theorem a2w {P:Program} {w:World} {f:ResultVar->Sem Value}:∀ {rs:List ResultVar} {vs:List Value},lY (fun r v=>(f r).run P w=.ok v w) rs vs->(rs.mapM f).run P w=.ok vs w
 | _,_,.nil=>by simp
 | _,_,.cons h1 h2=>by
  rw[List.mapM_cons,jc,h1]
  simp only[Result.andThen_ok,jc,a2w h2]
  rfl
theorem DK {P:Program} {fn:Func} {a:Act} {w:World} {vs:List Value} (h:lY (fun r v=>(DI P a r).run P w=.ok v w) fn.results.toList vs):(results fn a.tmps).run P w=.ok (if h:vs.toArray.size=1 then vs.toArray[0] else .tuple vs.toArray) w:=by
 have e:results fn a.tmps=(do let us <-fn.results.mapM (DI P a);pure (if h:us.size=1 then us[0] else .tuple us)):=by
  unfold results
  congr 2
 rw[e,Array.mapM_eq_mapM_toList]
 simp only[jc,map_eq_pure_bind,a2w h,Result.andThen_ok,Sem.run_pure]
theorem YI {G:Nat->K} {ρ:Nat->Res} {E:Env} {w:World} {a:Act} {t:Ty} {r:ResultVar} {p:Part} {l:List (Nat × Res)} (h:a0O B G ρ t r=some (p,l)) (hM:Mem E ρ W w) (hf:Fits E ρ w B a G) :
  ∃ v E',(DI B.P a r).run B.P w=.ok v w/\Mem E' (after ρ l) W w/\Ext E ρ w E' (after ρ l) w/\kC (fz w E') w p.t v p.x:=by
 cases r with
 | tmp s =>
  obtain⟨E',m1,m2,m3⟩:=rO h hM (hf.wf s) (hf.holds s)
  exact⟨_,E',rfl,m1,m2,m3⟩
 | cell s ty =>
  simp only[a0O] at h
  have hs:=hf.holds s
  have hs':a.tmps.getD s undef=a.eval (.tmp s):=rfl
  split at h<;>try(cases h;done)
  ·rename_i rr o hk
   rw[hk] at hs
   split at h<;>try(cases h;done)
   rename_i ps hr
   simp only[je,dh] at h
   obtain⟨p',h1,rfl,rfl⟩:=h
   obtain⟨b,hb,hp⟩:=hs
   have hres:=hM.res rr
   rw[hr] at hres
   obtain⟨b',cs,e,k1,k3,k4⟩:=hres
   rw[hb] at k1;cases k1
   obtain⟨hft,c,hc,hrep⟩:=a2s h1 k4
   have hrg:w.rangeAt b o c:=fun j v hv=>by
    rw[zy _ _ _ _ _ _ k3,<-hv]
    simp only[List.getElem?_toArray]
    rw[<-hc,List.getElem?_take,gy (by have:=(qg.1 hv).1;exact this),List.getElem?_drop]
   refine⟨p'.t.toV c,E,?_,hM,Ext.refl _ _ _,c,rfl,hrep⟩
   simp only[DI,hs',hp,asAddr,jc,Sem.run_pure,Result.andThen_ok]
   exact kT hft hrg hrep
  ·rename_i u y hk
   rw[hk] at hs
   split at h<;>try(cases h;done)
   rename_i hft
   simp only[ah,dh] at h
   obtain⟨rfl,rfl⟩:=h
   obtain⟨b,o,ds,hp,k1,k2,k3⟩:=FM hs
   refine⟨u.toV ds,E,?_,hM,Ext.refl _ _ _,ds,rfl,k3⟩
   simp only[DI,hs',hp,asAddr,jc,Sem.run_pure,Result.andThen_ok]
   exact kT hft k2 k3
  ·rename_i rr hk
   rw[hk] at hs
   split at h<;>try(cases h;done)
   rename_i k9 hr
   split at h<;>try(cases h;done)
   rename_i ha
   obtain⟨q1,q2,b,u,e,q3,q4,q5,q6⟩:=hM.kbx rr k9 hr
   obtain⟨b',g1,g2⟩:=hs (by rw[hr];trivial)
   rw[g1] at q3;cases q3
   obtain⟨E',m1,m2,m3⟩:=rO h hM q1 q6
   refine⟨u,E',?_,m1,m2,m3⟩
   simp only[DI,hs',g2,asAddr,jc,Sem.run_pure,Result.andThen_ok]
   exact TQ (by simpa using ha) (by rw[zy w _ _ _ _ _ q4];rfl)
theorem a6s {G:Nat->K} {w:World} {a:Act}:∀ {ts:List Ty} {rs:List ResultVar} {y:(nest ts).den} {ρ:Nat->Res} {E:Env},a2Q B G ρ ts rs y->Mem E ρ W w->Fits E ρ w B a G ->
  ∃ vs E',lY (fun r v=>(DI B.P a r).run B.P w=.ok v w) rs vs/\E'.fix=E.fix/\jT (fz w E') w ts vs y/\∀ q,fz w E q->fz w E' q
 | [],[],y,ρ,E,h,hM,hf=>⟨[],E,.nil,rfl,rfl,fun _ h=>h⟩
 | t::ts,r::rs,y,ρ,E,h,hM,hf=>by
  simp only[a2Q] at h
  split at h<;>first|exact h.elim|skip
  rename_i p l h1
  split at h<;>first|exact h.elim|skip
  rename_i q hq
  obtain⟨hc,hy,h2⟩:=h
  obtain⟨v,E1,k1,m1,m2,m3⟩:=YI h1 hM hf
  obtain⟨vs,E2,j1,j2,j3,j4⟩:=a6s h2 m1 ⟨hf.size,hf.defers,fun s=>m2.wf _ (hf.wf s),fun s=>m2.holds _ _ (hf.wf s) (hf.holds s),fun s hs=>by rw[m2.par];exact hf.par s hs⟩
  refine⟨v::vs,E2,.cons k1 j1,j2.trans m2.fix,⟨v,vs,rfl,?_,j3⟩,fun q hq=>j4 q (m2.fz q hq)⟩
  obtain⟨cs,rfl,hr⟩:=gW j4 (jW.refl _ _) m3
  refine⟨cs,by unfold Ty.toV;rw[wW _ _ _ hq],?_⟩
  rw[<-hy]
  exact yK _ _ _ hq cs _ hr hc
 | [],_::_,y,ρ,E,h,hM,hf=>by simp[a2Q] at h
 | _::_,[],y,ρ,E,h,hM,hf=>by simp[a2Q] at h
theorem LG {F:Nat->Prop} {w:World}:∀ {ts:List Ty} {vs:List Value} {y:(nest ts).den},jT F w ts vs y->vs.length=ts.length
 | [],vs,y,h=>by rw[show vs=[] from h];rfl
 | t::ts,vs,y,⟨v,vs',h1,h2,h3⟩=>by rw[h1,List.length_cons,LG h3];rfl
theorem b1e {F:Nat->Prop} {w:World} {ts:List Ty} {vs:List Value} {y:(nest ts).den} (h:jT F w ts vs y):rF F w ts (if h:vs.toArray.size=1 then vs.toArray[0] else .tuple vs.toArray) y:=by
 have hl:=LG h
 match ts,y,h with
 | [t],y,⟨v,vs',h1,h2,h3⟩ =>
  have h3:vs'=[]:=h3
  subst h3
  subst h1
  exact h2
 | [],y,h =>
  have h:vs=[]:=h
  subst h
  exact⟨[],rfl,rfl⟩
 | t1::t2::ts,y,h =>
  refine⟨vs,?_,h⟩
  rw[dif_neg (by simp[hl])]
theorem uJ {F:Nat->Prop} {w:World} {E:Env} {ρ:Nat->Res} (hF:∀ q,F q->fz w E q):∀ {ts:List Ty} {vs:List Value} {x:(nest ts).den} (i s:Nat),jT F w ts vs x->(bP (yI i ts x) s).wf ρ/\(i<=s->(bP (yI i ts x) s).holds E ρ w (vs.getD (s-i) undef))/\(s<i->bP (yI i ts x) s=.any)
 | [],vs,x,i,s,h=>⟨trivial,fun _=>trivial,fun _=>rfl⟩
 | t::ts,vs,x,i,s,⟨v,vs',h1,h2,h3⟩=>by
  obtain⟨k1,k2,k3⟩:=uJ hF (i+1) s h3
  simp only[yI,bP]
  split
  ·rename_i e
   subst e
   refine⟨trivial,fun _=>?_,fun h=>by omega⟩
   rw[h1,Nat.sub_self]
   exact gW hF (jW.refl _ _) h2
  ·rename_i e
   refine⟨k1,fun h=>?_,fun h=>k3 (by omega)⟩
   have:=k2 (by omega)
   rw[h1]
   have e2:s-i=(s-(i+1))+1:=by omega
   rw[e2,List.getD_cons_succ]
   exact this
theorem b5A (hB:B.Ok) (hm:B.P.follows .mixedOrders=true) {f:FuncId} {fn:Func} {code:Code} {c:Ctr} (hf:B.P.funcs[f]?=some fn) (hb:fn.body=some code) (hN:fn.ntmps=B.N) (hkeep:B.keep=fun _=>false) (hargs:c.args.length<=fn.ntmps) (A:(nest c.args).den->List Ann)
  (h:∀ x,c.pre x->vwp B code (A x) (b6E B c.res fn.results.toList (c.fn x)) (yI 0 c.args x) []):aW B.P f c:=by
 intro F w vs x hF hvs hpre
 have hl:=LG hvs
 let E:Env:=⟨fun _=>none,fun _=>undef,fun q=>F q\/w.heap.size<=q,fun _ _=>undef,fun _=>False,fun _=>undef⟩
 have hhas:∀ r j q,¬ E.has r j q:=fun r j q h=>by cases j<;>cases h
 have hFz:∀ q,F q->fz w E q:=fun q hq=>uO (hF q hq) (.inl hq) (fun r j=>hhas r j q)
 have hM:Mem E (aT []) w w:=⟨⟨rfl,rfl,rfl,aj _,fun _ _ _=>rfl⟩,fun r=>rfl,fun r j r' j' b e=>(hhas r j b e).elim,fun r j b e=>(hhas r j b e).elim,fun q hq=>hq.elim (fun h=>h.elim) .inr,fun r i _=>rfl,fun r k e=>(by cases e),fun b o n h=>h⟩
 refine calls_of_wp hf hb (wp_mono (a5d (W:=w) (base:=E.fix) hB hm code (h x hpre) ⟨E,rfl,hM,?_⟩) (fun e a w' hq=>?_))
 ·refine⟨by simp[hN];omega,rfl,fun s=>(uJ hFz 0 s hvs).1,fun s=>?_,fun s hs=>by rw[hkeep] at hs;cases hs⟩
  have h1:=(uJ (ρ:=aT []) hFz 0 s hvs).2.1 (uw _)
  rw[Nat.sub_zero] at h1
  by_cases hs:s<vs.length
  ·have:(({ tmps:=vs.toArray++Array.replicate (fn.ntmps-vs.toArray.size) undef,defers:=[] }:Act).eval (.tmp s))=vs.getD s undef:=by
    simp[Act.eval,jw,Array.getElem?_append,hs]
   rw[this];exact h1
  ·have hany:bP (yI 0 c.args x) s=.any:=by
    have:∀ (ts:List Ty) (x:(nest ts).den) (i:Nat),i+ts.length<=s->bP (yI i ts x) s=.any:=by
     intro ts
     induction ts with
     | nil=>intro x i _;rfl
     | cons t ts ih =>
      intro x i hi
      simp only[List.length_cons] at hi
      simp only[yI,bP]
      rw[ig (by omega)]
      exact ih x.2 (i+1) (by omega)
    exact this c.args x 0 (by omega)
   rw[hany];trivial
 ·obtain⟨G',R',k1,_,E',k2,k3,k4⟩:=hq
  have fin:a2Q B (bP G') (aT R') c.res fn.results.toList (c.fn x)->a.defers=[]/\∃ v,(results fn a.tmps).run B.P w'=.ok v w'/\∃ v',Ending.returned v=.returned v'/\rF (newF F w w') w' c.res v' (c.fn x)/\Below w.heap.size w w':=fun hr=>by
   obtain⟨us,E2,j1,j2,j3,_⟩:=a6s hr k3 k4
   refine⟨k4.defers,_,DK j1,_,rfl,b1e (kZ (fun q hq=>⟨?_,hq.1.1⟩) (jW.refl _ _) _ _ _ j3),k3.below.below (fun q=>by rw[show E'.qK=E.qK from xu Fix.qK k2];exact id)⟩
   have:=hq.1.2
   rw[show E2.base=E.base from(xu Fix.base j2).trans (xu Fix.base k2)] at this
   exact this
  cases e with
  | normal=>exact fin k1
  | ret=>exact fin k1
  | exit i=>exact k1.elim
  | goto l=>exact k1.elim
  | panic ch=>exact k1.elim
  | outgrown=>exact k1.elim
end
end
end Go.Proofs.YtgplhbhfdgempaaGreat
