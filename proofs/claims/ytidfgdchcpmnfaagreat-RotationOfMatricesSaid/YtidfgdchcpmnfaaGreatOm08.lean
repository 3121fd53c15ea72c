/-
  Lemmas for the theorem vofmatrices_holds, part 8 of 32.
-/
import Derived.Deep.OwnRows
import Derived.Laws.Small
import Derived.Laws.Tables
import Derived.Test.YtidfgdchcpmnfaaGreatOm05
import Derived.Test.YtidfgdchcpmnfaaGreatOm07
namespace Go.Proofs.YtidfgdchcpmnfaaGreat
open Go Go.RowKit
set_option linter.unusedSimpArgs false
set_option linter.unusedVariables false
structure Part where
 t:Ty
 x:t.den
def nest:List Ty->Ty
 | []=>.unit
 | t::ts=>.pair t (nest ts)
def Ty.toV (t:Ty) (cs:List Value):Value:=if t.agg then .agg cs.toArray else cs.headD undef
def iZ (F:Nat->Prop) (w:World) (t:Ty) (v:Value) (x:t.den):Prop:=∃ cs,v=t.toV cs/\rep F w t cs x
def jF (F:Nat->Prop) (w:World):(ts:List Ty)->List Value->(nest ts).den->Prop
 | [],vs,_=>vs=[]
 | t::ts,vs,x=>∃ v vs',vs=v::vs'/\iZ F w t v x.1/\jF F w ts vs' x.2
theorem gQ {F F':Nat->Prop} {w w':World} (hF:∀ b,F b->F' b) (hs:jG F w w') {t:Ty} {v:Value} {x:t.den} (h:iZ F w t v x):iZ F' w' t v x:=by
 obtain⟨cs,h1,h2⟩:=h
 exact⟨cs,h1,dA hF hs t _ _ h2⟩
theorem jV {F F':Nat->Prop} {w w':World} (hF:∀ b,F b->F' b) (hs:jG F w w'):(ts:List Ty)->(vs:List Value)->(x:(nest ts).den)->jF F w ts vs x->jF F' w' ts vs x
 | [],_,_,h=>h
 | t::ts,_,x,⟨v,vs',h1,h2,h3⟩=>⟨v,vs',h1,gQ hF hs h2,jV hF hs ts vs' x.2 h3⟩
inductive K0 where
 | val (t:Ty) (x:t.den)
 | own (r ver:Nat)
 | ptr (r off:Nat)
 | lJ (r:Nat)
inductive K where
 | any
 | val (t:Ty) (x:t.den)
 | nil
 | ptr (r off:Nat)
 | own (r ver:Nat)
 | when (b:Bool) (k:K)
 | tup (ts:List Ty) (x:(nest ts).den)
 | cell (r ver i:Nat)
 | mrow (r ver id:Nat)
 | mpos (r ver id j:Nat)
 | lJ (r:Nat)
 | mix (l:List K0)
 | fn (g:FuncId) (l:List K0)
 | sng (r ver:Nat)
def k0K:K0->K
 | .val t x=>.val t x
 | .own r v=>.own r v
 | .ptr r o=>.ptr r o
 | .lJ r=>.lJ r
inductive Res where
 | none
 | box (ps:List Part)
 | row (e:TypeId) (t:Ty) (xs:List t.den) (ver:Nat)
 | fro (t:Ty) (xs:List t.den) (ver:Nat)
 | mat (e e2:TypeId) (t:Ty) (ids:Option (List Nat)) (xss:List (List t.den)) (ver:Nat)
 | kT (k:K)
 | gone
structure Env where
 blk:Nat->Option Nat
 sl:Nat->Value
 base:Nat->Prop
 inn:Nat->Nat->Value
 sW:Nat->Prop
 par:Nat->Value
structure Fix where
 base:Nat->Prop
 sW:Nat->Prop
 par:Nat->Value
def Env.fix (E:Env):Fix:=⟨E.base,E.sW,E.par⟩
def bT:Value->Option Nat
 | .slice (some a) _ _=>some a.block
 | _=>none
def fz (w:World) (E:Env) (q:Nat):Prop:=(q<w.heap.size/\E.base q)/\(∀ r,E.blk r≠some q)/\∀ r id,bT (E.inn r id)≠some q
def gv (v:Nat):Nat:=v / 65536
def nx (v:Nat):Nat:=(v / 65536+1)*65536
theorem a0g (v:Nat):gv v<gv (nx v):=by unfold gv nx;omega
theorem a4k (v:Nat):v<=nx v:=by unfold nx;omega
theorem KC {v v':Nat} (h:v<=v'):gv v<=gv v':=by unfold gv;omega
def Res.isRow (v:Nat):Res->Prop
 | .row _ _ _ v'=>gv v'=gv v
 | .fro _ _ v'=>gv v'=gv v
 | .mat _ _ _ _ _ v'=>gv v'=gv v
 | _=>False
def Res.lX (v:Nat):Res->Prop
 | .mat _ _ _ _ _ v'=>v'=v
 | _=>False
def Res.eP (v:Nat):Res->Prop
 | .row _ _ _ v'=>v<=v'
 | .fro _ _ v'=>v<=v'
 | .mat _ _ _ _ _ v'=>v<=v'
 | _=>False
def Res.fQ:Res->Prop
 | .box _=>True
 | _=>False
def Res.lT:Res->Prop
 | .kT _=>True
 | _=>False
def Res.BI:Res->Prop
 | .kT _=>True
 | .gone=>True
 | _=>False
def Res.esz:Res->Nat
 | .row _ t _ _=>t.n
 | .fro t _ _=>t.n
 | .mat _ _ _ _ _ _=>1
 | _=>0
def Res.msz:Res->Nat
 | .mat _ _ t _ _ _=>t.n
 | _=>0
def Res.cnt:Res->Nat
 | .mat _ _ _ _ xss _=>xss.length
 | _=>0
def a4h (F:Nat->Prop) (E:Env) (ρ:Nat->Res) (w:World):K0->Value->Prop
 | .val t x,v=>iZ F w t v x
 | .own r ver,v=>Res.isRow ver (ρ r)->v=E.sl r
 | .ptr r off,v=>∃ b,E.blk r=some b/\v=.pointer (some ⟨b,off,none⟩)
 | .lJ r,v=>Res.lT (ρ r)->∃ b,E.blk r=some b/\v=.pointer (some ⟨b,0,none⟩)
def mO (F:Nat->Prop) (E:Env) (ρ:Nat->Res) (w:World):List K0->List Value->Prop
 | [],vs=>vs=[]
 | k::ks,vs=>∃ v vs',vs=v::vs'/\a4h F E ρ w k v/\mO F E ρ w ks vs'
def K.holds (E:Env) (ρ:Nat->Res) (w:World):K->Value->Prop
 | .any,_=>True
 | .val t x,v=>iZ (fz w E) w t v x
 | .nil,v=>v=.slice none 0 0
 | .ptr r off,v=>∃ b,E.blk r=some b/\v=.pointer (some ⟨b,off,none⟩)
 | .own r ver,v=>Res.isRow ver (ρ r)->v=E.sl r
 | .when b k,v=>b=true->k.holds E ρ w v
 | .tup ts x,v=>∃ vs,v=.tuple vs.toArray/\jF (fz w E) w ts vs x
 | .cell r ver i,v=>Res.isRow ver (ρ r)->∃ b,bT (E.sl r)=some b/\v=.pointer (some ⟨b,i*(ρ r).esz,none⟩)
 | .mrow r ver id,v=>Res.lX ver (ρ r)->v=E.inn r id
 | .mpos r ver id j,v=>Res.lX ver (ρ r)->∃ b,bT (E.inn r id)=some b/\v=.pointer (some ⟨b,j*(ρ r).msz,none⟩)
 | .lJ r,v=>Res.lT (ρ r)->∃ b,E.blk r=some b/\v=.pointer (some ⟨b,0,none⟩)
 | .mix ks,v=>∃ vs,v=.tuple vs.toArray/\mO (fz w E) E ρ w ks vs
 | .fn g ks,v=>∃ vs,v=.func (.func g) #[] vs.toArray/\mO (fz w E) E ρ w ks vs
 | .sng r ver,v=>Res.isRow ver (ρ r)->∃ b,v=.slice (some ⟨b,0,none⟩) 1 1/\fz w E b/\w.rangeAt b 0 [E.sl r]
theorem AV {E:Env} {ρ:Nat->Res} {w:World} {k:K0} {v:Value}:a4h (fz w E) E ρ w k v↔(k0K k).holds E ρ w v:=by cases k<;>exact Iff.rfl
def dZ:List Prop->Prop
 | []=>True
 | p::ps=>p/\dZ ps
theorem bI {a b:List Prop}:dZ (a++b)↔dZ a/\dZ b:=by
 induction a with
 | nil=>simp[dZ]
 | cons p ps ih=>simp[dZ,ih,and_assoc]
abbrev PK:=Option (List Prop × K)
def sF (P:Program) (t:TypeId):Option Bool:=(P.underlying t).map fun d=>match d with | .struct _ | .array _ _=>true|_=>false
def fitsT (P:Program) (t:TypeId) (ty:Ty):Bool:=(P.info? t).map (·.size)==some ty.n&&sF P t==some ty.agg
def nK:(t:Ty)->t.den->Nat->Option (Nat × Part)
 | .pair a _,x,0=>some (0,⟨a,x.1⟩)
 | .pair a b,x,i+1=>(nK b x.2 i).map fun p=>(a.n+p.1,p.2)
 | .lf .rat,x,0=>some (0,⟨.lf .big,Rat.num x⟩)
 | .lf .rat,x,1=>some (2,⟨.lf .big,(Rat.den x:Int)⟩)
 | .lf .iH,x,0=>some (0,⟨.lf .grp,aI.g x⟩)
 | .lf .iH,x,1=>some (2,⟨.lf .grp,aI.h x⟩)
 | .lf .grp,x,1=>some (1,⟨.lf .gsl,x⟩)
 | _,_,_=>none
def a2a (P:Program) (s:TypeId) (i o:Nat) (ty:Ty):Bool:=match P.underlying s with
 | some (.struct fs)=>match fs[i]? with
  | some f=>f.offset==o&&fitsT P f.type ty&&decide (0<ty.n)
  | none=>false
 | _=>false
def pV (P:Program) (s:TypeId) (n:Option Nat) (ty:Ty):Bool:=match P.underlying s,n with
 | some (.slice e),none=>fitsT P e ty
 | some (.array m e),some k=>m==k&&fitsT P e ty
 | _,_=>false
def a3R (P:Program) (s:TypeId):Bool:=match P.underlying s with
 | some (.slice e)=>fitsT P e (.int .u32)
 | _=>false
theorem tN {F:Nat->Prop} {w:World}:(t:Ty)->(x:t.den)->(i o:Nat)->(p:Part)->(cs:List Value)->nK t x i=some (o,p)->rep F w t cs x->rep F w p.t ((cs.drop o).take p.t.n) p.x
 | .pair a b,x,0,o,p,cs,h,⟨c1,c2,h1,h2,h3⟩=>by
  simp only[nK,Option.some.injEq,Prod.mk.injEq] at h
  obtain⟨rfl,rfl⟩:=h
  have:=dU a _ _ h2
  rw[h1,List.drop_zero,<-this,List.take_left]
  exact h2
 | .pair a b,x,i+1,o,p,cs,h,⟨c1,c2,h1,h2,h3⟩=>by
  simp only[nK,Option.map_eq_some_iff] at h
  obtain⟨⟨o',p'⟩,h4,h5⟩:=h
  simp only[Prod.mk.injEq] at h5
  obtain⟨rfl,rfl⟩:=h5
  have:=dU a _ _ h2
  rw[h1,<-List.drop_drop,<-this,List.drop_left]
  exact tN b x.2 i o' p' c2 h4 h3
 | .lf .rat,x,0,o,p,cs,h,hr=>by
  simp only[nK,Option.some.injEq,Prod.mk.injEq] at h
  obtain⟨rfl,rfl⟩:=h
  obtain⟨b,s,c,t,h1,h2,h3⟩:RQ w (.agg cs.toArray) x:=hr
  rw[show cs=[b,s,c,t] by simpa using h1]
  exact h2
 | .lf .rat,x,1,o,p,cs,h,hr=>by
  simp only[nK,Option.some.injEq,Prod.mk.injEq] at h
  obtain⟨rfl,rfl⟩:=h
  obtain⟨b,s,c,t,h1,h2,h3⟩:RQ w (.agg cs.toArray) x:=hr
  rw[show cs=[b,s,c,t] by simpa using h1]
  exact h3
 | .lf .iH,x,0,o,p,cs,h,hr=>by
  simp only[nK,Option.some.injEq,Prod.mk.injEq] at h
  obtain⟨rfl,rfl⟩:=h
  obtain⟨b,q,c,b',q',c',rfl,h2,h3,h4⟩:=hr
  exact⟨b,_,rfl,h3⟩
 | .lf .iH,x,1,o,p,cs,h,hr=>by
  simp only[nK,Option.some.injEq,Prod.mk.injEq] at h
  obtain⟨rfl,rfl⟩:=h
  obtain⟨b,q,c,b',q',c',rfl,h2,h3,h4⟩:=hr
  exact⟨b',_,rfl,h4⟩
 | .lf .grp,x,1,o,p,cs,h,hr=>by
  simp only[nK,Option.some.injEq,Prod.mk.injEq] at h
  obtain⟨rfl,rfl⟩:=h
  obtain⟨b,s,rfl,h2⟩:=hr
  exact⟨s,rfl,h2⟩
def a1s:(ts:List Ty)->(nest ts).den->Nat->Option Part
 | [],_,_=>none
 | t::_,x,0=>some ⟨t,x.1⟩
 | _::ts,x,i+1=>a1s ts x.2 i
theorem VL {F:Nat->Prop} {w:World}:(ts:List Ty)->(x:(nest ts).den)->(i:Nat)->(p:Part)->(vs:List Value)->a1s ts x i=some p->jF F w ts vs x->∃ v,vs[i]?=some v/\iZ F w p.t v p.x
 | [],_,_,_,_,h,_=>by simp[a1s] at h
 | t::ts,x,0,p,vs,h,⟨v,vs',h1,h2,h3⟩=>by
  simp only[a1s,Option.some.injEq] at h
  subst h
  exact⟨v,by rw[h1];rfl,h2⟩
 | t::ts,x,i+1,p,vs,h,⟨v,vs',h1,h2,h3⟩=>by
  obtain⟨v',k1,k2⟩:=VL ts x.2 i p vs' h h3
  exact⟨v',by rw[h1];exact k1,k2⟩
def jP (t t':Ty) (x:t.den):Option t'.den:=if h:t=t' then some (h ▸ x) else none
def kV (c:Bool):K->K->PK
 | .val t x,.val t' y=>(jP t' t y).map fun y=>([],.val t (bif c then x else y))
 | .when b (.val t x),.val t' y=>(jP t' t y).map fun y=>([c=true->b=true],.val t (bif c then x else y))
 | .val t x,.when b (.val t' y)=>(jP t' t y).map fun y=>([c=false->b=true],.val t (bif c then x else y))
 | .when b (.val t x),.when b' (.val t' y)=>(jP t' t y).map fun y=>([c=true->b=true,c=false->b'=true],.val t (bif c then x else y))
 | _,_=>none
def a7Y (op:BinOp) (k:IntKind) (a b:Int):PK:=match op with
 | .add=>some ([],.val (.int k) (k.wrap (a+b)))
 | .sub=>some ([],.val (.int k) (k.wrap (a-b)))
 | .mul=>some ([],.val (.int k) (k.wrap (a*b)))
 | .quo=>some ([b≠0],.val (.int k) (k.wrap (a.tdiv b)))
 | .rem=>some ([b≠0],.val (.int k) (a.tmod b))
 | .eql=>some ([],.val .bool (a==b))
 | .neq=>some ([],.val .bool (a != b))
 | .lss=>some ([],.val .bool (decide (a<b)))
 | .leq=>some ([],.val .bool (decide (a<=b)))
 | .gtr=>some ([],.val .bool (decide (a > b)))
 | .geq=>some ([],.val .bool (decide (a ≥ b)))
 | _=>none
def wE:Value->K
 | .bool b=>.val .bool b
 | .int k n=>.val (.int k) n
 | .slice none 0 0=>.nil
 | _=>.any
def a4d (P:Program) (t:TypeId):Bool:=match P.underlying t with
 | some .bool=>true
 | _=>false
def b6M (P:Program) (s t:TypeId):Option IntKind:=match P.underlying s,P.underlying t with
 | some _,some (.int k)=>some k
 | _,_=>none
def yU (P:Program) (t:TypeId):Bool:=match P.underlying t with
 | some (.slice _)=>true
 | _=>false
def EF (ty:Ty) (ys:List ty.den) (m:Nat) (n:Int):PK:=some ([0<=n,n<m],.val (.ref ty) (ys.getD n.toNat ty.zero))
def b0a (ty:Ty) (ys:List ty.den) (m:Nat) (n:Int):PK:=some ([0<=n,n<m],.val ty (ys.getD n.toNat ty.zero))
def PD (ty:Ty) (ys:List ty.den):PK:=some ([],.val (.int .i64) (ys.length:Int))
def b2s (l:List Nat):PK:=some ([],.val (.int .i64) (l.length:Int))
def a3O (l:List Nat) (n:Int):PK:=some ([0<=n,n<l.length],.val (.lf .NV) (l.getD n.toNat 0))
def eqB (op:BinOp) (a b:Bool):PK:=match op with
 | .eql=>some ([],.val .bool (a==b))
 | .neq=>some ([],.val .bool (a != b))
 | _=>none
def VQ (k:IntKind) (n:Int):PK:=some ([],.val (.int k) (k.wrap n))
def b2x (k:IntKind) (n:Int):PK:=VQ k (0-n)
def b2y (b:Bool):PK:=some ([],.val .bool (!b))
def yJ (ref:Bool) (P:Program) (s:TypeId) (i:Nat) (ty:Ty) (y:ty.den):PK:=match nK ty y i with
 | some (o,p)=>if a2a P s i o p.t&&ty.agg then some ([],if ref then .val (.ref p.t) p.x else .val p.t p.x) else none
 | none=>none
def fG (P:Program) (k:Operand->K):Op->PK
 | .move x=>some ([],k x)
 | .assign x=>some ([],k x)
 | .pick c a b=>match k c with
  | .val .bool cb=>kV cb (k a) (k b)
  | _=>none
 | .load t x=>match k x with
  | .val (.ref ty) y=>if fitsT P t ty then some ([],.val ty y) else none
  | .val (.lf .NV) y=>if fitsT P t (.int .u32) then some ([],.val (.int .u32) (Nat.cast (R:=Int) y)) else none
  | _=>none
 | .fieldAddr s x i=>match k x with
  | .val (.ref ty) y=>yJ true P s i ty y
  | _=>none
 | .field s x i=>match k x with
  | .val ty y=>yJ false P s i ty y
  | _=>none
 | .indexAddr s x i=>match k x,k i with
  | .val (.list ty) ys,.val (.int _) n=>if pV P s none ty then EF ty ys (List.length (α:=ty.den) ys) n else none
  | .val (.ref (.arr m ty)) ys,.val (.int _) n=>if pV P s (some m) ty then EF ty ys m n else none
  | .val (.lf .gsl) l,.val (.int _) n=>if a3R P s then a3O l n else none
  | _,_=>none
 | .index s x i=>match k x,k i with
  | .val (.arr m ty) ys,.val (.int _) n=>if pV P s (some m) ty then b0a ty ys m n else none
  | _,_=>none
 | .extract x i=>match k x with
  | .tup ts y=>match a1s ts y i with
   | some p=>some ([],.val p.t p.x)
   | none=>none
  | .mix ks=>match ks[i]? with
   | some k=>some ([],k0K k)
   | none=>none
  | _=>none
 | .binOp op t x y _=>match k x,k y with
  | .val (.int ka) a,.val (.int kb) b=>if ka=kb then a7Y op ka a b else none
  | .val .bool a,.val .bool b=>if a4d P t then eqB op a b else none
  | _,_=>none
 | .unOp .not _ x=>match k x with
  | .val .bool b=>b2y b
  | _=>none
 | .unOp .neg _ x=>match k x with
  | .val (.int kk) n=>b2x kk n
  | _=>none
 | .convert s t x=>match k x,b6M P s t with
  | .val (.int _) n,some kk=>VQ kk n
  | _,_=>none
 | .nilCheck x=>match k x with
  | .val (.ref t) y=>some ([],.val (.ref t) y)
  | .val (.clo f t) y=>some ([],.val (.clo f t) y)
  | _=>none
 | .call { callee:=.builtin .len,args:=xs,argTypes:=ts }=>match xs.toList,ts.toList with
  | [x],[t]=>if yU P t then (match k x with
   | .val (.list ty) ys=>PD ty ys
   | .val (.lf .gsl) l=>b2s l
   | .nil=>PD .unit []
   | _=>none) else none
  | _,_=>none
 | _=>none
def xP (P:Program) (E:Env) (ρ:Nat->Res) (w:World) (o:Oper) (ev:Operand->Value) (k:K):Prop:=∃ v,(execOp ev o).run P w=.ok (.value v) w/\k.holds E ρ w v
section
variable {P:Program} {E:Env} {ρ:Nat->Res} {w:World}
theorem fK {t t':Ty} {x:t.den} {y:t'.den} (h:jP t t' x=some y):∃ e:t=t',e ▸ x=y:=by
 unfold jP at h
 split at h
 ·rename_i e;exact⟨e,by simpa using h⟩
 ·cases h
theorem a8z {c:Bool} {ka kb k:K} {vc:List Prop} (h:kV c ka kb=some (vc,k)) (hv:dZ vc) {u v:Value} (ha:ka.holds E ρ w u) (hb:kb.holds E ρ w v):k.holds E ρ w (if c then u else v):=by
 cases ka<;>try (simp[kV] at h;done)
 case val t x =>
  cases kb<;>try (simp[kV] at h;done)
  case val t' y =>
   simp only[kV,Option.map_eq_some_iff,Prod.mk.injEq] at h
   obtain⟨y',h1,rfl,rfl⟩:=h
   obtain⟨rfl,rfl⟩:=fK h1
   cases c
   ·exact hb
   ·exact ha
  case when b kb =>
   cases kb<;>try (simp[kV] at h;done)
   case val t' y =>
    simp only[kV,Option.map_eq_some_iff,Prod.mk.injEq] at h
    obtain⟨y',h1,rfl,rfl⟩:=h
    obtain⟨rfl,rfl⟩:=fK h1
    cases c
    ·exact hb (hv.1 rfl)
    ·exact ha
 case when b ka =>
  cases ka<;>try (simp[kV] at h;done)
  case val t x =>
   cases kb<;>try (simp[kV] at h;done)
   case val t' y =>
    simp only[kV,Option.map_eq_some_iff,Prod.mk.injEq] at h
    obtain⟨y',h1,rfl,rfl⟩:=h
    obtain⟨rfl,rfl⟩:=fK h1
    cases c
    ·exact hb
    ·exact ha (hv.1 rfl)
   case when b' kb =>
    cases kb<;>try (simp[kV] at h;done)
    case val t' y =>
     simp only[kV,Option.map_eq_some_iff,Prod.mk.injEq] at h
     obtain⟨y',h1,rfl,rfl⟩:=h
     obtain⟨rfl,rfl⟩:=fK h1
     cases c
     ·exact hb (hv.2.1 rfl)
     ·exact ha (hv.1 rfl)
theorem a5j (v:Value):(wE v).holds E ρ w v:=by
 unfold wE
 split
 ·exact⟨[.bool _],rfl,rfl⟩
 ·exact⟨[.int _ _],rfl,rfl⟩
 ·rfl
 ·trivial
theorem CX {t:TypeId} {b:Bool} (h:sF P t=some b):(isAgg t).run P w=.ok b w:=by
 unfold sF at h
 cases hu:P.underlying t with
 | none=>rw[hu] at h;cases h
 | some d =>
  rw[hu] at h
  simp only[Option.map_some,Option.some.injEq] at h
  unfold isAgg
  rw[Sem.run_bind,run_underlying hu w]
  cases d<;>simp_all
theorem iG {t:TypeId} {ty:Ty} (h:fitsT P t ty=true):(∃ i,P.info? t=some i/\i.size=ty.n)/\sF P t=some ty.agg:=by
 unfold fitsT at h
 simp only[Bool.and_eq_true,beq_iff_eq] at h
 refine⟨?_,h.2⟩
 cases hi:P.info? t with
 | none=>rw[hi] at h;simp at h
 | some i=>rw[hi] at h;exact⟨i,rfl,by simpa using h.1⟩
theorem run_sizeOf {t:TypeId} {i:TypeInfo} (h:P.info? t=some i):(sizeOf t).run P w=.ok i.size w:=by simp[sizeOf,typeInfo,h]
theorem uH {t:TypeId} {ty:Ty} (h:fitsT P t ty=true) {cs:List Value} {o:Nat} {F:Nat->Prop} {x:ty.den} (hr:rep F w ty ((cs.drop o).take ty.n) x):(part t cs.toArray o).run P w=.ok (ty.toV ((cs.drop o).take ty.n)) w:=by
 obtain⟨⟨i,hi,hn⟩,ha⟩:=iG h
 have hl:=dU ty _ _ hr
 unfold part Ty.toV
 rw[Sem.run_bind,CX ha]
 cases hg:ty.agg
 ·have h1:ty.n=1:=by cases ty<;>simp_all [Ty.agg,Ty.n];rename_i l;cases l<;>simp_all [Lf.agg,Lf.n]
  rw[h1] at hl ⊢
  have h2:o<cs.length:=by
   rw[List.length_take,List.length_drop] at hl;omega
  simp[List.getElem?_eq_getElem h2,List.take_one,List.head?_drop,h2]
 ·simp only[Result.andThen_ok,if_true,Sem.run_bind,run_sizeOf hi,hn,Sem.run_pure]
  congr 2
  simp[List.extract_eq_take_drop]
theorem jR {t:TypeId} {ty:Ty} (h:fitsT P t ty=true) {b o:Nat} {ds:List Value} {F:Nat->Prop} {x:ty.den} (hc:w.rangeAt b o ds) (hr:rep F w ty ds x):(loadVar t ⟨b,o,none⟩).run P w=.ok (ty.toV ds) w:=by
 obtain⟨⟨i,hi,hn⟩,ha⟩:=iG h
 have hl:=dU ty _ _ hr
 unfold Ty.toV
 cases hg:ty.agg
 ·have h1:ty.n=1:=by cases ty<;>simp_all [Ty.agg,Ty.n];rename_i l;cases l<;>simp_all [Lf.agg,Lf.n]
  rw[h1] at hl
  obtain⟨v,rfl⟩:∃ v,ds=[v]:=by
   match ds,hl with
   | [v],_=>exact⟨v,rfl⟩
  have hc0:=hc 0 v rfl
  rw[Nat.add_zero] at hc0
  rw[hg] at ha
  simp[loadVar,Sem.run_bind,CX ha,hc0]
 ·rw[hg] at ha
  have hd:∃ d,P.underlying t=some d/\d.isRow=true:=by
   unfold sF at ha
   cases hu:P.underlying t with
   | none=>rw[hu] at ha;cases ha
   | some d=>rw[hu] at ha;exact⟨d,rfl,by cases d<;>simp_all⟩
  obtain⟨d,hu,hd⟩:=hd
  exact run_loadVar_mid w b o t ds d hc hu hd (by simp[hi,hn,hl])
end
section
variable {P:Program} {E:Env} {ρ:Nat->Res} {w:World}
theorem vO {v:Value} {b:Bool} (h:(K.val .bool b).holds E ρ w v):v=.bool b:=by
 obtain⟨cs,rfl,h2⟩:=h
 rw[show cs=_ from h2];rfl
theorem kM {v:Value} {k:IntKind} {n:Int} (h:(K.val (.int k) n).holds E ρ w v):v=.int k n:=by
 obtain⟨cs,rfl,h2⟩:=h
 rw[show cs=_ from h2];rfl
theorem kQ (b:Bool):(K.val .bool b).holds E ρ w (.bool b):=⟨[.bool b],rfl,rfl⟩
theorem mF (k:IntKind) (n:Int):(K.val (.int k) n).holds E ρ w (.int k n):=⟨[.int k n],rfl,rfl⟩
theorem FY {v:Value} {t:Ty} {xs:List t.den} (h:(K.val (.list t) xs).holds E ρ w v) :
  ∃ p c,v=.slice p xs.length c/\xs.length<=c/\c<=9223372036854775807/\(xs=[]\/∃ b o ds,p=some ⟨b,o,none⟩/\fz w E b/\w.rangeAt b o ds/\chunks (rep (fz w E) w t) ds xs):=by
 obtain⟨cs,rfl,p,c,h1,h2,h3,h4⟩:=h
 exact⟨p,c,by rw[h1];rfl,h2,h3,h4⟩
theorem BD {v:Value} {t:Ty} {x:t.den} (h:(K.val (.ref t) x).holds E ρ w v):∃ b o ds,v=.pointer (some ⟨b,o,none⟩)/\fz w E b/\w.rangeAt b o ds/\rep (fz w E) w t ds x:=by
 obtain⟨cs,rfl,b,o,ds,h1,h2⟩:=h
 exact⟨b,o,ds,by rw[h1];rfl,h2⟩
theorem LY {t:Ty} {x:t.den} {b o:Nat} {ds:List Value} (h1:fz w E b) (h2:w.rangeAt b o ds) (h3:rep (fz w E) w t ds x):(K.val (.ref t) x).holds E ρ w (.pointer (some ⟨b,o,none⟩)):=⟨[.pointer (some ⟨b,o,none⟩)],rfl,b,o,ds,rfl,h1,h2,h3⟩
theorem JW {s:TypeId} {i o:Nat} {ty:Ty} (h:a2a P s i o ty=true):∃ fs f,P.underlying s=some (.struct fs)/\fs[i]?=some f/\f.offset=o/\fitsT P f.type ty=true/\0<ty.n:=by
 unfold a2a at h
 split at h
 ·rename_i fs hu
  split at h
  ·rename_i f hf
   simp only[Bool.and_eq_true,beq_iff_eq,decide_eq_true_eq] at h
   exact⟨fs,f,hu,hf,h.1.1,h.1.2,h.2⟩
  ·cases h
 ·cases h
theorem a5s {s:TypeId} {i:Nat} {ty:Ty} {y:ty.den} {vc:List Prop} {kk:K} {v:Value} (h:yJ false P s i ty y=some (vc,kk)) (hv:iZ (fz w E) w ty v y):∃ u,(Instr.field s v i).run P w=.ok u w/\kk.holds E ρ w u:=by
 unfold yJ at h
 split at h
 ·rename_i o p hf
  split at h
  ·rename_i hb
   simp only[Bool.and_eq_true] at hb
   simp only[Option.some.injEq,Prod.mk.injEq,Bool.false_eq_true,if_false] at h
   obtain⟨_,rfl⟩:=h
   obtain⟨cs,rfl,hr⟩:=hv
   obtain⟨fs,f,h1,h2,rfl,h4,h5⟩:=JW hb.1
   have hr2:=tN ty y i _ p cs hf hr
   refine⟨_,?_,_,rfl,hr2⟩
   simp only[Instr.field,Sem.run_bind,run_underlying h1 w,Result.andThen_ok,h2,Ty.toV,hb.2,if_true,asAgg,Sem.run_pure]
   exact uH h4 hr2
  ·cases h
 ·cases h
theorem ZY {s:TypeId} {i:Nat} {ty:Ty} {y:ty.den} {vc:List Prop} {kk:K} {v:Value} (h:yJ true P s i ty y=some (vc,kk)) (hv:(K.val (.ref ty) y).holds E ρ w v):∃ u,(Instr.fieldAt s v i).run P w=.ok u w/\kk.holds E ρ w u:=by
 unfold yJ at h
 split at h
 ·rename_i o p hf
  split at h
  ·rename_i hb
   simp only[Bool.and_eq_true] at hb
   simp only[Option.some.injEq,Prod.mk.injEq,if_true] at h
   obtain⟨_,rfl⟩:=h
   obtain⟨b,oo,ds,rfl,h1,h2,h3⟩:=BD (ρ:=ρ) hv
   obtain⟨fs,f,k1,k2,rfl,k4,k5⟩:=JW hb.1
   have hr2:=tN ty y i _ p ds hf h3
   refine⟨.pointer (some ⟨b,oo+f.offset,none⟩),?_,LY h1 (wK h2 _ _) hr2⟩
   obtain⟨⟨i2,hi,hn⟩,_⟩:=iG k4
   have hz:¬ i2.size=0:=by omega
   simp[Instr.fieldAt,Sem.run_bind,run_underlying k1 w,k2,Instr.sureAddr,fieldPlace,run_sizeOf hi,hz,Addr.add_mid]
  ·cases h
 ·cases h
theorem yF {s:TypeId} {ty:Ty} (h:pV P s none ty=true):∃ e,P.underlying s=some (.slice e)/\fitsT P e ty=true:=by
 unfold pV at h
 split at h<;>first|(cases h;done)|skip
 ·rename_i e hu _;exact⟨e,hu,h⟩
 ·rename_i hx;cases hx
theorem GY {s:TypeId} {m:Nat} {ty:Ty} (h:pV P s (some m) ty=true):∃ e,P.underlying s=some (.array m e)/\fitsT P e ty=true:=by
 unfold pV at h
 split at h<;>first|(cases h;done)|skip
 ·rename_i hx;cases hx
 ·rename_i m' e k hu hx
  cases hx
  simp only[Bool.and_eq_true,beq_iff_eq] at h
  obtain⟨rfl,h2⟩:=h
  exact⟨e,hu,h2⟩
theorem uY {F:Nat->Prop} {ty:Ty} {ys:List ty.den} {ds:List Value} (h:chunks (rep F w ty) ds ys) {n:Nat} (hn:n<ys.length):rep F w ty ((ds.drop (n*ty.n)).take ty.n) (ys.getD n ty.zero):=by
 obtain⟨c,rfl,h2⟩:=TL (fun c y=>dU ty c y) ys ds h n ty.zero hn
 exact h2
theorem yT {s:TypeId} {ty:Ty} {ys:List ty.den} {n:Int} {kd:IntKind} {vc:List Prop} {kk:K} {v:Value} (hb:pV P s none ty=true) (h:EF ty ys ys.length n=some (vc,kk)) (hc:dZ vc) (hv:(K.val (.list ty) ys).holds E ρ w v):∃ u,(Instr.indexAt s v (.int kd n)).run P w=.ok u w/\kk.holds E ρ w u:=by
 simp only[EF,Option.some.injEq,Prod.mk.injEq] at h
 obtain⟨rfl,rfl⟩:=h
 obtain⟨h0,h1,_⟩:=hc
 have hn:n.toNat<ys.length:=by omega
 obtain⟨p,c,rfl,_,_,hx|⟨b,o,ds,rfl,k1,k2,k3⟩⟩:=FY (ρ:=ρ) hv
 ·rw[hx] at hn;simp at hn
 obtain⟨e,k4,k5⟩:=yF hb
 obtain⟨⟨i2,hi,hsz⟩,_⟩:=iG k5
 refine⟨.pointer (some ⟨b,o+n.toNat*ty.n,none⟩),?_,LY k1 (wK k2 _ _) (uY k3 hn)⟩
 simp[Instr.indexAt,asIntOf,Sem.run_bind,run_underlying k4 w,h0,h1,run_sizeOf hi,hsz,Addr.add_mid]
theorem SH {s:TypeId} {ty:Ty} {m:Nat} {ys:List ty.den} {n:Int} {kd:IntKind} {vc:List Prop} {kk:K} {v:Value} (hb:pV P s (some m) ty=true) (h:EF ty ys m n=some (vc,kk)) (hc:dZ vc) (hv:(K.val (.ref (.arr m ty)) ys).holds E ρ w v):∃ u,(Instr.indexAt s v (.int kd n)).run P w=.ok u w/\kk.holds E ρ w u:=by
 simp only[EF,Option.some.injEq,Prod.mk.injEq] at h
 obtain⟨rfl,rfl⟩:=h
 obtain⟨h0,h1,_⟩:=hc
 obtain⟨b,o,ds,rfl,k1,k2,kl,k3⟩:=BD (ρ:=ρ) hv
 have hn:n.toNat<ys.length:=by have:ys.length=m:=kl;omega
 obtain⟨e,k4,k5⟩:=GY hb
 obtain⟨⟨i2,hi,hsz⟩,_⟩:=iG k5
 refine⟨.pointer (some ⟨b,o+n.toNat*ty.n,none⟩),?_,LY k1 (wK k2 _ _) (uY k3 hn)⟩
 simp[Instr.indexAt,asIntOf,Sem.run_bind,run_underlying k4 w,h0,h1,run_sizeOf hi,hsz,Addr.add_mid,Instr.sureAddr]
theorem a5x {s:TypeId} {ty:Ty} {m:Nat} {ys:List ty.den} {n:Int} {kd:IntKind} {vc:List Prop} {kk:K} {v:Value} (hb:pV P s (some m) ty=true) (h:b0a ty ys m n=some (vc,kk)) (hc:dZ vc) (hv:(K.val (.arr m ty) ys).holds E ρ w v):∃ u,(Instr.index s v (.int kd n)).run P w=.ok u w/\kk.holds E ρ w u:=by
 simp only[b0a,Option.some.injEq,Prod.mk.injEq] at h
 obtain⟨rfl,rfl⟩:=h
 obtain⟨h0,h1,_⟩:=hc
 obtain⟨cs,rfl,kl,k3⟩:=hv
 have hn:n.toNat<List.length (α:=ty.den) ys:=by have:List.length (α:=ty.den) ys=m:=kl;omega
 obtain⟨e,k4,k5⟩:=GY hb
 obtain⟨⟨i2,hi,hsz⟩,_⟩:=iG k5
 have hr:=uY k3 hn
 refine⟨_,?_,_,rfl,hr⟩
 have:=uH k5 hr
 change (Instr.index s (.agg cs.toArray) (.int kd n)).run P w=_
 simp[Instr.index,asIntOf,run_underlying k4 w,h0,h1,run_sizeOf hi,hsz,Sem.run_bind,this]
theorem b0c {op:BinOp} {t:TypeId} {k:IntKind} {a b:Int} {x y:Operand} {vc:List Prop} {kk:K} (h:a7Y op k a b=some (vc,kk)) (hc:dZ vc):∃ u,(do eqGuard op t x y (.int k a) (.int k b);binOp op t (.int k a) (.int k b):Sem Value).run P w=.ok u w/\kk.holds E ρ w u:=by
 cases op<;>simp only[a7Y,Option.some.injEq,Prod.mk.injEq] at h<;>first|(cases h;done)|obtain⟨rfl,rfl⟩:=h
 case quo=>exact⟨.int k (k.wrap (a.tdiv b)),by have:=hc.1;simp[eqGuard,binOp,Op.intDiv,Sem.run_bind,this],mF _ _⟩
 case rem=>exact⟨.int k (a.tmod b),by have:=hc.1;simp[eqGuard,binOp,Op.intDiv,Sem.run_bind,this],mF _ _⟩
 case eql=>exact⟨.bool (a==b),by simp[eqGuard,binOp,Op.intCmp,Sem.run_bind],kQ _⟩
 case neq=>exact⟨.bool (a != b),by simp[eqGuard,binOp,Op.intCmp,Sem.run_bind],kQ _⟩
 case add=>exact⟨.int k (k.wrap (a+b)),by simp[eqGuard,binOp,Op.intArith,Sem.run_bind],mF _ _⟩
 case sub=>exact⟨.int k (k.wrap (a-b)),by simp[eqGuard,binOp,Op.intArith,Sem.run_bind],mF _ _⟩
 case mul=>exact⟨.int k (k.wrap (a*b)),by simp[eqGuard,binOp,Op.intArith,Sem.run_bind],mF _ _⟩
 case lss=>exact⟨.bool (decide (a<b)),by simp[eqGuard,binOp,Op.intCmp,Sem.run_bind],kQ _⟩
 case leq=>exact⟨.bool (decide (a<=b)),by simp[eqGuard,binOp,Op.intCmp,Sem.run_bind],kQ _⟩
 case gtr=>exact⟨.bool (decide (a > b)),by simp[eqGuard,binOp,Op.intCmp,Sem.run_bind],kQ _⟩
 case geq=>exact⟨.bool (decide (a ≥ b)),by simp[eqGuard,binOp,Op.intCmp,Sem.run_bind],kQ _⟩
theorem b1I {op:BinOp} {t:TypeId} {a b:Bool} {x y:Operand} {vc:List Prop} {kk:K} (hu:P.underlying t=some .bool) (h:eqB op a b=some (vc,kk)):∃ u,(do eqGuard op t x y (.bool a) (.bool b);binOp op t (.bool a) (.bool b):Sem Value).run P w=.ok u w/\kk.holds E ρ w u:=by
 cases op<;>simp only[eqB,Option.some.injEq,Prod.mk.injEq] at h<;>first|(cases h;done)|obtain⟨rfl,rfl⟩:=h
 ·exact⟨.bool (a==b),by simp[eqGuard,binOp,Sem.run_bind,run_equal_bool w t a b hu],kQ _⟩
 ·exact⟨.bool (a != b),by simp[eqGuard,binOp,Sem.run_bind,run_equal_bool w t a b hu];cases a<;>cases b<;>rfl,kQ _⟩
theorem iE {s:Sem Value} {o:Oper} {ev:Operand->Value} {kk:K} (he:execOp ev o=(do pure (.value (<-s)))) (h:∃ u,s.run P w=.ok u w/\kk.holds E ρ w u):xP P E ρ w o ev kk:=by
 obtain⟨u,h1,h2⟩:=h
 exact⟨u,by rw[he,Sem.run_bind,h1];simp,h2⟩
theorem a8m {F:Nat->Prop}:∀ {ks:List K0} {vs:List Value} {i:Nat} {k:K0},mO F E ρ w ks vs->ks[i]?=some k->∃ v,vs[i]?=some v/\a4h F E ρ w k v
 | [],_,i,k,_,h=>by simp at h
 | k'::ks,_,0,k,⟨v,vs',h1,h2,_⟩,h=>by
  simp at h
  subst h
  exact⟨v,by rw[h1];rfl,h2⟩
 | k'::ks,_,i+1,k,⟨v,vs',h1,h2,h3⟩,h=>by
  obtain⟨u,k1,k2⟩:=a8m (i:=i) h3 (by simpa using h)
  exact⟨u,by rw[h1];exact k1,k2⟩
theorem a1Z {s:TypeId} (h:a3R P s=true):∃ e,P.underlying s=some (.slice e)/\fitsT P e (.int .u32)=true:=by
 unfold a3R at h
 split at h<;>first|(cases h;done)|skip
 rename_i e he
 exact⟨e,he,h⟩
theorem SI {s:TypeId} {l:List Nat} {n:Int} {kd:IntKind} {vc:List Prop} {kk:K} {v:Value} (hb:a3R P s=true) (h:a3O l n=some (vc,kk)) (hc:dZ vc) (hv:(K.val (.lf .gsl) l).holds E ρ w v):∃ u,(Instr.indexAt s v (.int kd n)).run P w=.ok u w/\kk.holds E ρ w u:=by
 simp only[a3O,Option.some.injEq,Prod.mk.injEq] at h
 obtain⟨rfl,rfl⟩:=h
 obtain⟨h0,h1,_⟩:=hc
 obtain⟨e,he,hf⟩:=a1Z hb
 obtain⟨⟨i,hi,hs⟩,_⟩:=iG hf
 obtain⟨cs,rfl,sv,rfl,hr⟩:=hv
 obtain⟨n',rfl⟩:∃ n':Nat,n=n':=⟨n.toNat,by omega⟩
 have hlt:n'<l.length:=by omega
 rcases hr with⟨_,_,hl⟩|⟨b,o,c,rfl,k2,k3,k4,k5⟩
 ·rw[hl] at hlt;simp at hlt
 ·refine⟨.pointer (some ⟨b,o+n',none⟩),?_,[.pointer (some ⟨b,o+n',none⟩)],rfl,b,o+n',rfl,?_⟩
  ·have hs:i.size=1:=hs
   simp[Instr.indexAt,asIntOf,Sem.run_bind,run_underlying he w,Ty.toV,Ty.agg,Lf.agg,run_sizeOf hi,hs,Addr.add_mid,hlt,show (0:Int)<=(n':Int) from Int.natCast_nonneg _,show (n':Int)<(l.length:Int) from by omega]
  ·have:=k5 n' hlt
   rw[this,Int.toNat_natCast]
   rfl
theorem a5P {k:Operand->K} {ev:Operand->Value} {o:Oper} {vc:List Prop} {kk:K} (h:fG P k o.op=some (vc,kk)) (hv:dZ vc) (hk:∀ x,(k x).holds E ρ w (ev x)):xP P E ρ w o ev kk:=by
 cases ho:o.op<;>rw[ho] at h<;>try (simp[fG] at h;done)
 case move x =>
  simp only[fG,Option.some.injEq,Prod.mk.injEq] at h
  obtain⟨_,rfl⟩:=h
  exact⟨ev x,by simp[execOp,ho],hk x⟩
 case assign x =>
  simp only[fG,Option.some.injEq,Prod.mk.injEq] at h
  obtain⟨_,rfl⟩:=h
  exact⟨ev x,by simp[execOp,ho],hk x⟩
 case pick c a b =>
  simp only[fG] at h
  split at h<;>first|(cases h;done)|skip
  rename_i cb hcb
  have h1:=hk c
  rw[hcb] at h1
  have h2:=vO h1
  exact⟨_,by simp[execOp,ho,h2,asBool,Sem.run_bind];rfl,a8z h hv (hk a) (hk b)⟩
 case load t x =>
  simp only[fG] at h
  split at h<;>first|(cases h;done)|skip
  ·rename_i ty y hx
   split at h<;>first|(cases h;done)|skip
   rename_i hf
   simp only[Option.some.injEq,Prod.mk.injEq] at h
   obtain⟨_,rfl⟩:=h
   have h1:=hk x
   rw[hx] at h1
   obtain⟨b,oo,ds,h2,k1,k2,k3⟩:=BD h1
   refine iE (by simp only[execOp,ho];rfl) ⟨_,?_,ds,rfl,k3⟩
   rw[h2]
   simp only[Instr.loadAt,Instr.sureAddr,Sem.run_bind,Sem.run_pure,Result.andThen_ok]
   exact jR hf k2 k3
  ·rename_i y hx
   split at h<;>first|(cases h;done)|skip
   rename_i hf
   simp only[Option.some.injEq,Prod.mk.injEq] at h
   obtain⟨_,rfl⟩:=h
   have h1:=hk x
   rw[hx] at h1
   obtain⟨cs,h2,b,oo,rfl,k2⟩:=h1
   refine iE (by simp only[execOp,ho];rfl) ⟨_,?_,[.int .u32 (Nat.cast (R:=Int) y)],rfl,rfl⟩
   rw[h2]
   simp only[Instr.loadAt,Ty.toV,Ty.agg,Lf.agg,Bool.false_eq_true,if_false,List.headD_cons,Instr.sureAddr,Sem.run_bind,Sem.run_pure,Result.andThen_ok]
   exact jR (F:=fun _=>True) (x:=(Nat.cast (R:=Int) y)) hf (fun j v hv=>by
    cases j with
    | zero=>simp at hv;rw[<-hv];exact k2
    | succ j=>simp at hv) rfl
 case fieldAddr s x i =>
  simp only[fG] at h
  split at h<;>first|(cases h;done)|skip
  rename_i ty y hx
  have h1:=hk x
  rw[hx] at h1
  exact iE (by simp only[execOp,ho]) (ZY h h1)
 case field s x i =>
  simp only[fG] at h
  split at h<;>first|(cases h;done)|skip
  rename_i ty y hx
  have h1:=hk x
  rw[hx] at h1
  exact iE (by simp only[execOp,ho]) (a5s h h1)
 case indexAddr s x i =>
  simp only[fG] at h
  have h1:=hk x
  have h2:=hk i
  split at h<;>first|(cases h;done)|skip
  all_goals
   rename_i hx hi
   split at h<;>first|(cases h;done)|skip
   rename_i hb
   rw[hx] at h1
   rw[hi] at h2
   refine iE (by simp only[execOp,ho];rfl) ?_
   rw[kM h2]
  ·exact yT hb h hv h1
  ·exact SH hb h hv h1
  ·exact SI hb h hv h1
 case index s x i =>
  simp only[fG] at h
  have h1:=hk x
  have h2:=hk i
  split at h<;>first|(cases h;done)|skip
  rename_i hx hi
  split at h<;>first|(cases h;done)|skip
  rename_i hb
  rw[hx] at h1
  rw[hi] at h2
  refine iE (by simp only[execOp,ho];rfl) ?_
  rw[kM h2]
  exact a5x hb h hv h1
 case extract x i =>
  simp only[fG] at h
  have h1:=hk x
  split at h<;>first|(cases h;done)|skip
  ·rename_i ts y hx
   split at h<;>first|(cases h;done)|skip
   rename_i p hp
   simp only[Option.some.injEq,Prod.mk.injEq] at h
   obtain⟨_,rfl⟩:=h
   rw[hx] at h1
   obtain⟨vs,h2,h3⟩:=h1
   obtain⟨u,k1,k2⟩:=VL ts y i p vs hp h3
   refine iE (by simp only[execOp,ho];rfl) ⟨u,?_,k2⟩
   rw[h2]
   simp[Instr.extract,k1]
  ·rename_i ks hx
   rw[hx] at h1
   obtain⟨vs,h2,h3⟩:=h1
   split at h<;>first|(cases h;done)|skip
   rename_i hks
   simp only[Option.some.injEq,Prod.mk.injEq] at h
   obtain⟨_,rfl⟩:=h
   obtain⟨u,k1,k2⟩:=a8m h3 hks
   refine iE (by simp only[execOp,ho];rfl) ⟨u,?_,AV.1 k2⟩
   rw[h2]
   simp[Instr.extract,k1]
 case binOp op t x y yt =>
  simp only[fG] at h
  have h1:=hk x
  have h2:=hk y
  split at h<;>first|(cases h;done)|skip
  ·rename_i ka a kb b hx hy
   split at h<;>first|(cases h;done)|skip
   rename_i he
   subst he
   rw[hx] at h1
   rw[hy] at h2
   refine iE (by simp only[execOp,ho];rfl) ?_
   rw[kM h1,kM h2]
   exact b0c h hv
  ·rename_i a b hx hy
   split at h<;>first|(cases h;done)|skip
   rename_i hb
   rw[hx] at h1
   rw[hy] at h2
   have hu:P.underlying t=some .bool:=by
    unfold a4d at hb
    split at hb
    ·assumption
    ·cases hb
   refine iE (by simp only[execOp,ho];rfl) ?_
   rw[vO h1,vO h2]
   exact b1I hu h
 case unOp op t x =>
  have h1:=hk x
  cases op<;>simp only[fG] at h<;>first|(cases h;done)|skip
  case not =>
   split at h<;>first|(cases h;done)|skip
   rename_i b hx
   simp only[b2y,Option.some.injEq,Prod.mk.injEq] at h
   obtain⟨_,rfl⟩:=h
   rw[hx] at h1
   refine iE (by simp only[execOp,ho];rfl) ⟨_,?_,kQ _⟩
   rw[vO h1]
   rfl
  case neg =>
   split at h<;>first|(cases h;done)|skip
   rename_i kd n hx
   simp only[b2x,VQ,Option.some.injEq,Prod.mk.injEq] at h
   obtain⟨_,rfl⟩:=h
   rw[hx] at h1
   refine iE (by simp only[execOp,ho];rfl) ⟨_,?_,mF _ _⟩
   rw[kM h1]
   rfl
 case convert s t x =>
  simp only[fG] at h
  have h1:=hk x
  split at h<;>first|(cases h;done)|skip
  rename_i kd n kk' hx hi
  simp only[VQ,Option.some.injEq,Prod.mk.injEq] at h
  obtain⟨_,rfl⟩:=h
  rw[hx] at h1
  refine iE (by simp only[execOp,ho];rfl) ⟨_,?_,mF _ _⟩
  rw[kM h1]
  unfold b6M at hi
  split at hi<;>first|(cases hi;done)|skip
  rename_i d k' hs ht
  cases hi
  simp[convert,Sem.run_bind,run_underlying hs w,run_underlying ht w,Conv.intToInt]
 case nilCheck x =>
  simp only[fG] at h
  have h1:=hk x
  split at h<;>first|(cases h;done)|skip
  ·rename_i t y hx
   simp only[Option.some.injEq,Prod.mk.injEq] at h
   obtain⟨_,rfl⟩:=h
   rw[hx] at h1
   obtain⟨b,oo,ds,h2,k⟩:=BD h1
   exact⟨ev x,by simp[execOp,ho,h2],h1⟩
  ·rename_i f t y hx
   simp only[Option.some.injEq,Prod.mk.injEq] at h
   obtain⟨_,rfl⟩:=h
   rw[hx] at h1
   obtain⟨cs,h2,ds,h3,k⟩:=h1
   exact⟨ev x,by simp[execOp,ho,h2,h3,Ty.toV,Ty.agg],cs,h2,ds,h3,k⟩
 case call c =>
  obtain⟨cl,xs,ts⟩:=c
  cases cl<;>try (simp[fG] at h;done)
  rename_i bi
  cases bi<;>try (simp[fG] at h;done)
  simp only[fG] at h
  split at h<;>first|(cases h;done)|skip
  rename_i x t hxs hts
  have exs:xs=#[x]:=by rw[<-Array.toArray_toList (xs:=xs),hxs]
  have ets:ts=#[t]:=by rw[<-Array.toArray_toList (xs:=ts),hts]
  subst exs ets
  have h1:=hk x
  split at h<;>first|(cases h;done)|skip
  rename_i hsl
  have hu:∃ e,P.underlying t=some (.slice e):=by
   unfold yU at hsl
   split at hsl
   ·rename_i e he;exact⟨e,he⟩
   ·cases hsl
  obtain⟨e,hu⟩:=hu
  split at h<;>first|(cases h;done)|skip
  ·rename_i ty ys hx
   simp only[PD,Option.some.injEq,Prod.mk.injEq] at h
   obtain⟨_,rfl⟩:=h
   rw[hx] at h1
   obtain⟨p,c,h2,_⟩:=FY h1
   exact⟨_,by simp[execOp,ho,resolve,invoke,builtin,Sem.run_bind,h2,Builtin.len_,run_underlying hu w,goInt],mF _ _⟩
  ·rename_i l hx
   simp only[b2s,Option.some.injEq,Prod.mk.injEq] at h
   obtain⟨_,rfl⟩:=h
   rw[hx] at h1
   obtain⟨cs,h2,sv,rfl,hr⟩:=h1
   obtain⟨p,c,rfl,_,_⟩:=hr.form
   have h2:ev x=.slice p l.length c:=h2
   exact⟨_,by simp[execOp,ho,resolve,invoke,builtin,Sem.run_bind,h2,Builtin.len_,run_underlying hu w,goInt],mF _ _⟩
  ·rename_i hx
   simp only[PD,Option.some.injEq,Prod.mk.injEq] at h
   obtain⟨_,rfl⟩:=h
   rw[hx] at h1
   have h2:ev x=.slice none 0 0:=h1
   exact⟨_,by simp[execOp,ho,resolve,invoke,builtin,Sem.run_bind,h2,Builtin.len_,run_underlying hu w,goInt],mF _ _⟩
end
end Go.Proofs.YtidfgdchcpmnfaaGreat
namespace Go.Proofs.YtidfgdchcpmnfaaGreat
open Go.RowKit
set_option linter.unusedSimpArgs false
set_option linter.unusedVariables false
set_option maxRecDepth 20000
def QC (w:World) (u0 u1 u2 u3:Value) (K:Nat) (ok:Bool) (q:Rat):Prop :=
 ∃ g p n c h p' n' c',u0=.bool g/\u1=.slice p n c/\u2=.bool h/\u3=.slice p' n' c'/\fE w (.agg #[.bool g,.slice p n c,.bool h,.slice p' n' c']) ok q/\n<=K/\n'<=K
theorem QC.below {w w':World} {u0 u1 u2 u3:Value} {K:Nat} {ok:Bool} {q:Rat} (h:QC w u0 u1 u2 u3 K ok q) (hb:Below w.heap.size w w'):QC w' u0 u1 u2 u3 K ok q:=by
 obtain⟨g,p,n,c,h,p',n',c',e0,e1,e2,e3,hq,k⟩:=h
 exact⟨g,p,n,c,h,p',n',c',e0,e1,e2,e3,hq.below hb,k⟩
theorem QC.fZ {w:World} {u0 u1 u2 u3:Value} {K:Nat} {ok:Bool} {q:Rat} (h:QC w u0 u1 u2 u3 K ok q) {a:Addr} {u:Value} (hc:w.cell? a=some u) (hu:aS u=true) (u':Value):QC (w.setCell a u') u0 u1 u2 u3 K ok q:=by
 obtain⟨g,p,n,c,h,p',n',c',e0,e1,e2,e3,hq,k⟩:=h
 exact⟨g,p,n,c,h,p',n',c',e0,e1,e2,e3,hq.fZ hc hu u',k⟩
theorem QC.nu {w:World} {u0 u1 u2 u3:Value} {K:Nat} {ok:Bool} {q:Rat} (h:QC w u0 u1 u2 u3 K ok q):aS u0=true/\aS u1=true/\aS u2=true/\aS u3=true:=by
 obtain⟨g,p,n,c,h,p',n',c',rfl,rfl,rfl,rfl,hq,k⟩:=h
 exact⟨rfl,rfl,rfl,rfl⟩
theorem QC.mono {w:World} {u0 u1 u2 u3:Value} {K K':Nat} {ok:Bool} {q:Rat} (h:QC w u0 u1 u2 u3 K ok q) (hK:K<=K'):QC w u0 u1 u2 u3 K' ok q:=by
 obtain⟨g,p,n,c,h,p',n',c',e0,e1,e2,e3,hq,k,k'⟩:=h
 exact⟨g,p,n,c,h,p',n',c',e0,e1,e2,e3,hq,by omega,by omega⟩
theorem QC.of {w:World} {g h:Bool} {p p':Option Addr} {n c n' c' K:Nat} {q:Rat} (hq:RQ w (.agg #[.bool g,.slice p n c,.bool h,.slice p' n' c']) q) (hK:rsz q<=K):QC w (.bool g) (.slice p n c) (.bool h) (.slice p' n' c') K true q:=by
 have hn:=hq.qn hK
 obtain⟨_,_,_,_,_,_,_,_,e,l1,l2⟩:=hn
 simp only[Value.agg.injEq,Array.mk.injEq,List.cons.injEq,Value.slice.injEq,Value.bool.injEq] at e
 obtain⟨rfl,⟨rfl,rfl,rfl⟩,rfl,⟨rfl,rfl,rfl⟩,_⟩:=e
 exact⟨g,p,_,c,h,p',_,c',rfl,rfl,rfl,rfl,hq.raw,l1,l2⟩
theorem QC.zero (w:World) (K:Nat):QC w (.bool false) (.slice none 0 0) (.bool false) (.slice none 0 0) K false 0:=by
 refine⟨false,none,0,0,false,none,0,0,rfl,rfl,rfl,rfl,⟨_,_,_,_,true,true,0,0,rfl,?_,?_,?_,by simp⟩,by omega,by omega⟩
 ·exact⟨false,_,[],rfl,.inl ⟨none,rfl,rfl⟩,by simp,by simp[cnt,vS],by simp[vS]⟩
 ·exact⟨false,_,[],rfl,.inl ⟨none,rfl,rfl⟩,by simp,by simp[cnt,vS],by simp[vS]⟩
 ·simp
theorem QC.open {w:World} {u0 u1 u2 u3:Value} {K:Nat} {ok:Bool} {q:Rat} (h:QC w u0 u1 u2 u3 K ok q):∃ g p n c h p' n' c',u0=.bool g/\u1=.slice p n c/\u2=.bool h/\u3=.slice p' n' c'/\fE w (.agg #[.bool g,.slice p n c,.bool h,.slice p' n' c']) ok q/\Qn (.agg #[.bool g,.slice p n c,.bool h,.slice p' n' c']) K:=by
 obtain⟨g,p,n,c,h,p',n',c',e0,e1,e2,e3,hq,k,k'⟩:=h
 exact⟨g,p,n,c,h,p',n',c',e0,e1,e2,e3,hq,⟨_,_,_,_,_,_,_,_,rfl,k,k'⟩⟩
def nX (w:World) (s:Value) (n K:Nat) (ok:Nat->Bool) (e:Nat->Rat):Prop :=
 ∃ p c,s=.slice p n c/\n<=c/\c<=9223372036854775807/\(0<n->∃ b o,p=some ⟨b,o,none⟩/\b<w.heap.size/\∀ i,i<n->∃ u0 u1 u2 u3,w.cell? ⟨b,o+i*4,none⟩=some u0/\w.cell? ⟨b,o+i*4+1,none⟩=some u1/\w.cell? ⟨b,o+i*4+2,none⟩=some u2/\w.cell? ⟨b,o+i*4+3,none⟩=some u3/\QC w u0 u1 u2 u3 K (ok i) (e i))
theorem nX.below {w w':World} {s:Value} {n K:Nat} {ok:Nat->Bool} {e:Nat->Rat} (h:nX w s n K ok e) (hb:Below w.heap.size w w'):nX w' s n K ok e:=by
 obtain⟨p,c,hs,h1,h2,h3⟩:=h
 refine⟨p,c,hs,h1,h2,fun hn=>?_⟩
 obtain⟨b,o,hp,hlt,hi⟩:=h3 hn
 have hc:=(eX hb).1
 refine⟨b,o,hp,Nat.lt_of_lt_of_le hlt hb.size,fun i hin=>?_⟩
 obtain⟨u0,u1,u2,u3,c0,c1,c2,c3,hq⟩:=hi i hin
 exact⟨u0,u1,u2,u3,by rw[hc _ _ hlt];exact c0,by rw[hc _ _ hlt];exact c1,by rw[hc _ _ hlt];exact c2,by rw[hc _ _ hlt];exact c3,hq.below hb⟩
theorem nX.form {w:World} {s:Value} {n K:Nat} {ok:Nat->Bool} {e:Nat->Rat} (h:nX w s n K ok e):∃ p c,s=.slice p n c/\n<=c/\c<=9223372036854775807:=by
 obtain⟨p,c,hs,h1,h2,h3⟩:=h
 exact⟨p,c,hs,h1,h2⟩
theorem nX.congr {w:World} {s:Value} {n K:Nat} {ok ok':Nat->Bool} {e e':Nat->Rat} (h:nX w s n K ok e) (h1:∀ i,i<n->ok i=ok' i) (h2:∀ i,i<n->e i=e' i):nX w s n K ok' e':=by
 obtain⟨p,c,hs,k1,k2,h3⟩:=h
 refine⟨p,c,hs,k1,k2,fun hn=>?_⟩
 obtain⟨b,o,hp,hlt,hi⟩:=h3 hn
 refine⟨b,o,hp,hlt,fun i hin=>?_⟩
 rw[<-h1 i hin,<-h2 i hin]
 exact hi i hin
theorem nX.mono {w:World} {s:Value} {n K K':Nat} {ok:Nat->Bool} {e:Nat->Rat} (h:nX w s n K ok e) (hK:K<=K'):nX w s n K' ok e:=by
 obtain⟨p,c,hs,k1,k2,h3⟩:=h
 refine⟨p,c,hs,k1,k2,fun hn=>?_⟩
 obtain⟨b,o,hp,hlt,hi⟩:=h3 hn
 refine⟨b,o,hp,hlt,fun i hin=>?_⟩
 obtain⟨u0,u1,u2,u3,c0,c1,c2,c3,hq⟩:=hi i hin
 exact⟨u0,u1,u2,u3,c0,c1,c2,c3,hq.mono hK⟩
theorem nX.at_ {w:World} {p:Option Addr} {n c K:Nat} {ok:Nat->Bool} {e:Nat->Rat} (h:nX w (.slice p n c) n K ok e) {k:Nat} (hk:k<n) :
  ∃ b o g q m d g' q' m' d',p=some ⟨b,o,none⟩/\b<w.heap.size/\w.cell? ⟨b,o+k*4,none⟩=some (.bool g)/\w.cell? ⟨b,o+k*4+1,none⟩=some (.slice q m d)/\w.cell? ⟨b,o+k*4+2,none⟩=some (.bool g')/\w.cell? ⟨b,o+k*4+3,none⟩=some (.slice q' m' d') /\
   fE w (.agg #[.bool g,.slice q m d,.bool g',.slice q' m' d']) (ok k) (e k)/\Qn (.agg #[.bool g,.slice q m d,.bool g',.slice q' m' d']) K:=by
 obtain⟨p',c',hs,h1,h2,h3⟩:=h
 cases hs
 obtain⟨b,o,hp,hlt,hi⟩:=h3 (by omega)
 obtain⟨u0,u1,u2,u3,c0,c1,c2,c3,hq⟩:=hi k hk
 obtain⟨g,q,m,d,g',q',m',d',rfl,rfl,rfl,rfl,hr,hn⟩:=hq.open
 exact⟨b,o,g,q,m,d,g',q',m',d',hp,hlt,c0,c1,c2,c3,hr,hn⟩
def rQ (w:World) (v:Value) (R:Nat) (L:Nat->Nat) (K:Nat) (ok:Nat->Nat->Bool) (e:Nat->Nat->Rat):Prop :=
 ∃ p c,v=.slice p R c/\R<=c/\c<=9223372036854775807/\(0<R->∃ b o,p=some ⟨b,o,none⟩/\b<w.heap.size/\∀ i,i<R->∃ s,w.cell? ⟨b,o+i,none⟩=some s/\nX w s (L i) K (ok i) (e i))
theorem rQ.below {w w':World} {v:Value} {R K:Nat} {L:Nat->Nat} {ok:Nat->Nat->Bool} {e:Nat->Nat->Rat} (h:rQ w v R L K ok e) (hb:Below w.heap.size w w'):rQ w' v R L K ok e:=by
 obtain⟨p,c,hs,h1,h2,h3⟩:=h
 refine⟨p,c,hs,h1,h2,fun hn=>?_⟩
 obtain⟨b,o,hp,hlt,hi⟩:=h3 hn
 have hc:=(eX hb).1
 refine⟨b,o,hp,Nat.lt_of_lt_of_le hlt hb.size,fun i hin=>?_⟩
 obtain⟨s,c0,hr⟩:=hi i hin
 exact⟨s,by rw[hc _ _ hlt];exact c0,hr.below hb⟩
theorem rQ.form {w:World} {v:Value} {R K:Nat} {L:Nat->Nat} {ok:Nat->Nat->Bool} {e:Nat->Nat->Rat} (h:rQ w v R L K ok e):∃ p c,v=.slice p R c/\R<=c/\c<=9223372036854775807:=by
 obtain⟨p,c,hs,h1,h2,h3⟩:=h
 exact⟨p,c,hs,h1,h2⟩
theorem rQ.congr {w:World} {v:Value} {R K:Nat} {L L':Nat->Nat} {ok ok':Nat->Nat->Bool} {e e':Nat->Nat->Rat} (h:rQ w v R L K ok e) (hL:∀ i,i<R->L i=L' i) (h1:∀ i,i<R->∀ j,j<L i->ok i j=ok' i j) (h2:∀ i,i<R->∀ j,j<L i->e i j=e' i j):rQ w v R L' K ok' e':=by
 obtain⟨p,c,hs,k1,k2,h3⟩:=h
 refine⟨p,c,hs,k1,k2,fun hn=>?_⟩
 obtain⟨b,o,hp,hlt,hi⟩:=h3 hn
 refine⟨b,o,hp,hlt,fun i hin=>?_⟩
 obtain⟨s,c0,hr⟩:=hi i hin
 rw[<-hL i hin]
 exact⟨s,c0,hr.congr (h1 i hin) (h2 i hin)⟩
theorem rQ.mono {w:World} {v:Value} {R K K':Nat} {L:Nat->Nat} {ok:Nat->Nat->Bool} {e:Nat->Nat->Rat} (h:rQ w v R L K ok e) (hK:K<=K'):rQ w v R L K' ok e:=by
 obtain⟨p,c,hs,k1,k2,h3⟩:=h
 refine⟨p,c,hs,k1,k2,fun hn=>?_⟩
 obtain⟨b,o,hp,hlt,hi⟩:=h3 hn
 refine⟨b,o,hp,hlt,fun i hin=>?_⟩
 obtain⟨s,c0,hr⟩:=hi i hin
 exact⟨s,c0,hr.mono hK⟩
theorem rQ.at_ {w:World} {p:Option Addr} {R c K:Nat} {L:Nat->Nat} {ok:Nat->Nat->Bool} {e:Nat->Nat->Rat} (h:rQ w (.slice p R c) R L K ok e) {k:Nat} (hk:k<R) :
  ∃ b o q d,p=some ⟨b,o,none⟩/\b<w.heap.size/\w.cell? ⟨b,o+k,none⟩=some (.slice q (L k) d)/\nX w (.slice q (L k) d) (L k) K (ok k) (e k):=by
 obtain⟨p',c',hs,h1,h2,h3⟩:=h
 cases hs
 obtain⟨b,o,hp,hlt,hi⟩:=h3 (by omega)
 obtain⟨s,c0,hr⟩:=hi k hk
 obtain⟨q,d,rfl,_,_⟩:=hr.form
 exact⟨b,o,q,d,hp,hlt,c0,hr⟩
def qN (w:World) (v:Value) (R C K:Nat) (e:Nat->Nat->Rat):Prop:=rQ w v R (fun _=>C) K (fun _ _=>true) e
def KU (w:World) (v:Value) (n K:Nat) (e:Nat->Rat):Prop:=nX w v n K (fun _=>true) e
def jE (w:World) (b n K:Nat) (ok:Nat->Bool) (e:Nat->Rat):Prop :=
 ∃ f,w.rowIs b 30 (n*4) f/\∀ j,j<n->QC w (f (j*4)) (f (j*4+1)) (f (j*4+2)) (f (j*4+3)) K (ok j) (e j)
theorem jE.lt {w:World} {b n K:Nat} {ok:Nat->Bool} {e:Nat->Rat} (h:jE w b n K ok e):b<w.heap.size:=by
 obtain⟨f,h1,h2⟩:=h;exact h1.lt
theorem jE.below {w w':World} {b n K m:Nat} {ok:Nat->Bool} {e:Nat->Rat} (h:jE w b n K ok e) (hb:Below w.heap.size w w'):jE w' b n K ok e:=by
 obtain⟨f,h1,h2⟩:=h
 exact⟨f,h1.of_block (hb.block b h1.lt),fun j hj=>(h2 j hj).below hb⟩
theorem jE.cells {w:World} {b n K:Nat} {ok:Nat->Bool} {e:Nat->Rat} (h:jE w b n K ok e) {k:Nat} (hk:k<n) :
  ∃ g q m d g' q' m' d',w.cell? ⟨b,k*4,none⟩=some (.bool g)/\w.cell? ⟨b,k*4+1,none⟩=some (.slice q m d)/\w.cell? ⟨b,k*4+2,none⟩=some (.bool g')/\w.cell? ⟨b,k*4+3,none⟩=some (.slice q' m' d') /\
   fE w (.agg #[.bool g,.slice q m d,.bool g',.slice q' m' d']) (ok k) (e k)/\Qn (.agg #[.bool g,.slice q m d,.bool g',.slice q' m' d']) K:=by
 obtain⟨f,h1,h2⟩:=h
 obtain⟨g,q,m,d,g',q',m',d',e0,e1,e2,e3,hr,hn⟩:=(h2 k hk).open
 exact⟨g,q,m,d,g',q',m',d',by rw[<-e0];exact h1.cell (by omega),by rw[<-e1];exact h1.cell (by omega),by rw[<-e2];exact h1.cell (by omega),by rw[<-e3];exact h1.cell (by omega),hr,hn⟩
theorem jE.frozen {w:World} {b n K:Nat} {ok:Nat->Bool} {e:Nat->Rat} (h:jE w b n K ok e) (i:Nat):w.frozen? ⟨b,i,none⟩=false:=by
 obtain⟨f,h1,h2⟩:=h;exact h1.frozen i
theorem jE.toR {w:World} {b n K:Nat} {ok:Nat->Bool} {e:Nat->Rat} (h:jE w b n K ok e) (hn:n<=9223372036854775807):nX w (.slice (some ⟨b,0,none⟩) n n) n K ok e:=by
 refine⟨_,_,rfl,Nat.le_refl _,hn,fun _=>⟨b,0,rfl,h.lt,fun i hi=>?_⟩⟩
 obtain⟨f,h1,h2⟩:=h
 exact⟨_,_,_,_,by rw[Nat.zero_add];exact h1.cell (by omega),by rw[Nat.zero_add];exact h1.cell (by omega),by rw[Nat.zero_add];exact h1.cell (by omega),by rw[Nat.zero_add];exact h1.cell (by omega),h2 i hi⟩
theorem jE.other {w:World} {b n K:Nat} {ok:Nat->Bool} {e:Nat->Rat} (h:jE w b n K ok e) {b' o':Nat} (hne:b≠b') {u:Value} (hc:w.cell? ⟨b',o',none⟩=some u) (hu:aS u=true) (x:Value):jE (w.setCell ⟨b',o',none⟩ x) b n K ok e:=by
 obtain⟨f,h1,h2⟩:=h
 exact⟨f,h1.setOther (by simpa using hne) x,fun j hj=>(h2 j hj).fZ hc hu x⟩
def st4 (w:World) (b o:Nat) (x0 x1 x2 x3:Value):World:=(((w.setCell ⟨b,o,none⟩ x0).setCell ⟨b,o+1,none⟩ x1).setCell ⟨b,o+2,none⟩ x2).setCell ⟨b,o+3,none⟩ x3
theorem QC.QX {w:World} {y0 y1 y2 y3:Value} {K:Nat} {ok:Bool} {q:Rat} (h:QC w y0 y1 y2 y3 K ok q) {b o:Nat} {u0 u1 u2 u3:Value} (c0:w.cell? ⟨b,o,none⟩=some u0) (c1:w.cell? ⟨b,o+1,none⟩=some u1) (c2:w.cell? ⟨b,o+2,none⟩=some u2) (c3:w.cell? ⟨b,o+3,none⟩=some u3)
  (n0:aS u0=true) (n1:aS u1=true) (n2:aS u2=true) (n3:aS u3=true) (x0 x1 x2 x3:Value):QC (st4 w b o x0 x1 x2 x3) y0 y1 y2 y3 K ok q:=by
 refine(((h.fZ c0 n0 x0).fZ (a:=⟨b,o+1,none⟩) (u:=u1) ?_ n1 x1).fZ (a:=⟨b,o+2,none⟩) (u:=u2) ?_ n2 x2).fZ (a:=⟨b,o+3,none⟩) (u:=u3) ?_ n3 x3
 ·rw[World.cell?_setCell_other _ _ _ _ (by simp)];exact c1
 ·rw[World.cell?_setCell_other _ _ _ _ (by simp),World.cell?_setCell_other _ _ _ _ (by simp)];exact c2
 ·rw[World.cell?_setCell_other _ _ _ _ (by simp),World.cell?_setCell_other _ _ _ _ (by simp),World.cell?_setCell_other _ _ _ _ (by simp)];exact c3
theorem jE.QX {w:World} {b n K:Nat} {ok:Nat->Bool} {e:Nat->Rat} (h:jE w b n K ok e) {k:Nat} (hk:k<n) {x0 x1 x2 x3:Value} {q:Rat} (hq:QC w x0 x1 x2 x3 K true q) :
  jE (st4 w b (k*4) x0 x1 x2 x3) b n K (fun j=>if j=k then true else ok j) (fun j=>if j=k then q else e j):=by
 obtain⟨f,h1,h2⟩:=h
 refine⟨_,(((h1.set (k*4) x0).set (k*4+1) x1).set (k*4+2) x2).set (k*4+3) x3,fun j hj=>?_⟩
 have N:=(h2 k hk).nu
 have hc:∀ i,i<4->w.cell? ⟨b,k*4+i,none⟩=some (f (k*4+i)):=fun i hi=>h1.cell (by omega)
 have S:=fun {y0 y1 y2 y3:Value} {ok':Bool} {q':Rat} (g:QC w y0 y1 y2 y3 K ok' q')=>g.QX (b:=b) (o:=k*4) (hc 0 (by omega)) (hc 1 (by omega)) (hc 2 (by omega)) (hc 3 (by omega)) N.1 N.2.1 N.2.2.1 N.2.2.2 x0 x1 x2 x3
 by_cases e1:j=k
 ·subst e1
  simp only[if_pos]
  have:=S hq
  simpa [show ∀ a:Nat,¬ a=a+1 from fun a=>by omega,show ∀ a:Nat,¬ a=a+2 from fun a=>by omega,show ∀ a:Nat,¬ a=a+3 from fun a=>by omega] using this
 ·simp only[if_neg e1]
  have:=S (h2 j hj)
  have a0:∀ x y,x<4->y<4->¬ j*4+x=k*4+y:=fun x y hx hy=>by omega
  have a1:=a0 0
  have a2:=fun y=>a0 y 0
  simpa [a0 0 0 (by omega) (by omega),a0 0 1 (by omega) (by omega),a0 0 2 (by omega) (by omega),a0 0 3 (by omega) (by omega),a0 1 0 (by omega) (by omega),a0 1 1 (by omega) (by omega),a0 1 2 (by omega) (by omega),a0 1 3 (by omega) (by omega),
   a0 2 0 (by omega) (by omega),a0 2 1 (by omega) (by omega),a0 2 2 (by omega) (by omega),a0 2 3 (by omega) (by omega),a0 3 0 (by omega) (by omega),a0 3 1 (by omega) (by omega),a0 3 2 (by omega) (by omega),a0 3 3 (by omega) (by omega),
   show ¬ j*4=k*4 by omega,show ¬ j*4=k*4+1 by omega,show ¬ j*4=k*4+2 by omega,show ¬ j*4=k*4+3 by omega,show ¬ j*4+1=k*4 by omega,show ¬ j*4+2=k*4 by omega,show ¬ j*4+3=k*4 by omega,e1] using this
theorem jE.dI {w:World} {b n K:Nat} {ok:Nat->Bool} {e:Nat->Rat} (h:jE w b n K ok e) {b' n' K':Nat} {ok':Nat->Bool} {e':Nat->Rat} (h':jE w b' n' K' ok' e') (hne:b≠b') {k:Nat} (hk:k<n') (x0 x1 x2 x3:Value):jE (st4 w b' (k*4) x0 x1 x2 x3) b n K ok e:=by
 obtain⟨f,h1,h2⟩:=h
 obtain⟨g,h3,h4⟩:=h'
 refine⟨f,(((h1.setOther (by simpa using hne) x0).setOther (by simpa using hne) x1).setOther (by simpa using hne) x2).setOther (by simpa using hne) x3,fun j hj=>?_⟩
 have N:=(h4 k hk).nu
 have hc:∀ i,i<4->w.cell? ⟨b',k*4+i,none⟩=some (g (k*4+i)):=fun i hi=>h3.cell (by omega)
 exact(h2 j hj).QX (b:=b') (o:=k*4) (hc 0 (by omega)) (hc 1 (by omega)) (hc 2 (by omega)) (hc 3 (by omega)) N.1 N.2.1 N.2.2.1 N.2.2.2 x0 x1 x2 x3
structure jW (w:World) (base b R C K m:Nat) (rb:Nat->Nat) (e:Nat->Nat->Rat):Prop where
 outer:w.rowIs b 25 R (fun i=>if i<m then .slice (some ⟨rb i,0,none⟩) C C else .slice none 0 0)
 hb:base<=b
 rows:∀ i,i<m->jE w (rb i) C K (fun _=>true) (e i)
 hrb:∀ i,i<m->base<=rb i/\rb i≠b
 inj:∀ i j,i<m->j<m->rb i=rb j->i=j
theorem jW.below {w w':World} {base b R C K m:Nat} {rb:Nat->Nat} {e:Nat->Nat->Rat} (h:jW w base b R C K m rb e) (hb:Below w.heap.size w w'):jW w' base b R C K m rb e :=
 ⟨h.outer.of_block (hb.block b h.outer.lt),h.hb,fun i hi=>(h.rows i hi).below (m:=0) hb,h.hrb,h.inj⟩
theorem jW.toR {w:World} {base b R C K:Nat} {rb:Nat->Nat} {e:Nat->Nat->Rat} (h:jW w base b R C K R rb e) (hR:R<=9223372036854775807) (hC:C<=9223372036854775807):qN w (.slice (some ⟨b,0,none⟩) R R) R C K e:=by
 refine⟨_,_,rfl,Nat.le_refl _,hR,fun _=>⟨b,0,rfl,h.outer.lt,fun i hi=>⟨_,?_,(h.rows i hi).toR hC⟩⟩⟩
 rw[Nat.zero_add,h.outer.cell hi,if_pos hi]
end Go.Proofs.YtidfgdchcpmnfaaGreat
