/-
  Lemmas for the theorem vstations28_holds, part 6 of 34.
-/
import Derived.Laws.Cover3
import Derived.Laws.Small
import Derived.Laws.StructEq
import Derived.Laws.Tables
import Derived.Test.YtbkocjmmbkifjaaGreatQs05
namespace Go.Proofs.YtbkocjmmbkifjaaGreat
open Go Go.RowKit
theorem dh:type_of% @Prod.mk.injEq:=@Prod.mk.injEq
theorem jw:type_of% @Option.map_eq_some_iff:=@Option.map_eq_some_iff
theorem jf:type_of% @beq_iff_eq:=@beq_iff_eq
theorem Bc:type_of% @Addr.add_mid:=@Addr.add_mid
theorem jy:type_of% @bne_iff_ne:=@bne_iff_ne
theorem yc:type_of% @Int.natCast_nonneg:=@Int.natCast_nonneg
section
set_option linter.unusedSimpArgs false
set_option linter.unusedVariables false
structure Part where
 t:Ty
 x:t.den
def nest:List Ty->Ty
 | []=>.unit
 | t::ts=>.pair t (nest ts)
def Ty.toV (t:Ty) (cs:List Value):Value:=if t.agg then .agg cs.toArray else cs.headD undef
def iY (F:Nat->Prop) (w:World) (t:Ty) (v:Value) (x:t.den):Prop:=∃ cs,v=t.toV cs/\rep F w t cs x
def iO (F:Nat->Prop) (w:World):(ts:List Ty)->List Value->(nest ts).den->Prop
 | [],vs,_=>vs=[]
 | t::ts,vs,x=>∃ v vs',vs=v::vs'/\iY F w t v x.1/\iO F w ts vs' x.2
theorem fJ {F F':Nat->Prop} {w w':World} (hF:∀ b,F b->F' b) (hs:iP F w w') {t:Ty} {v:Value} {x:t.den} (h:iY F w t v x):iY F' w' t v x:=by
 obtain⟨cs,h1,h2⟩:=h
 exact⟨cs,h1,bW hF hs t _ _ h2⟩
theorem jM {F F':Nat->Prop} {w w':World} (hF:∀ b,F b->F' b) (hs:iP F w w'):(ts:List Ty)->(vs:List Value)->(x:(nest ts).den)->iO F w ts vs x->iO F' w' ts vs x
 | [],_,_,h=>h
 | t::ts,_,x,⟨v,vs',h1,h2,h3⟩=>⟨v,vs',h1,fJ hF hs h2,jM hF hs ts vs' x.2 h3⟩
inductive K0 where
 | val (t:Ty) (x:t.den)
 | own (r ver:Nat)
 | ptr (r off:Nat)
 | lQ (r:Nat)
inductive K where
 | any
 | val (t:Ty) (x:t.den)
 | nil
 | ptr (r off:Nat)
 | own (r ver:Nat)
 | when (b:Bool) (k:K)
 | tup (ts:List Ty) (x:(nest ts).den)
 | cell (r ver i:Nat)
 | mrow (r ver id:Nat)
 | mpos (r ver id j:Nat)
 | lQ (r:Nat)
 | mix (l:List K0)
 | fn (g:FuncId) (l:List K0)
 | sng (r ver:Nat)
 | pls (l:List K0)
 | pcl (l:List K0) (i:Nat)
def k0K:K0->K
 | .val t x=>.val t x
 | .own r v=>.own r v
 | .ptr r o=>.ptr r o
 | .lQ r=>.lQ r
inductive Res where
 | none
 | box (ps:List Part)
 | row (e:TypeId) (t:Ty) (xs:List t.den) (ver:Nat)
 | fro (t:Ty) (xs:List t.den) (ver:Nat)
 | mat (e e2:TypeId) (t:Ty) (ids:Option (List Nat)) (xss:List (List t.den)) (ver:Nat)
 | kF (k:K)
 | gone
structure Env where
 blk:Nat->Option Nat
 sl:Nat->Value
 base:Nat->Prop
 inn:Nat->Nat->Value
 oM:Nat->Prop
 par:Nat->Value
structure Fix where
 base:Nat->Prop
 oM:Nat->Prop
 par:Nat->Value
def Env.fix (E:Env):Fix:=⟨E.base,E.oM,E.par⟩
def bI:Value->Option Nat
 | .slice (some a) _ _=>some a.block
 | _=>none
def fz (w:World) (E:Env) (q:Nat):Prop:=(q<w.heap.size/\E.base q)/\(∀ r,E.blk r≠some q)/\∀ r id,bI (E.inn r id)≠some q
def gv (v:Nat):Nat:=v / 65536
def nx (v:Nat):Nat:=(v / 65536+1)*65536
theorem XK (v:Nat):gv v<gv (nx v):=by unfold gv nx;omega
def nxf (v:Nat):Nat:=nx v+v%2
theorem a9W (v:Nat):gv v<gv (nxf v):=by unfold gv nxf nx;omega
theorem b0N (v:Nat):v<=nxf v:=by unfold nxf nx;omega
theorem a2q (v:Nat):v<=nx v:=by unfold nx;omega
theorem IC {v v':Nat} (h:v<=v'):gv v<=gv v':=by unfold gv;omega
def Res.isRow (v:Nat):Res->Prop
 | .row _ _ _ v'=>gv v'=gv v
 | .fro _ _ v'=>gv v'=gv v
 | .mat _ _ _ _ _ v'=>gv v'=gv v
 | _=>False
def Res.mF (v:Nat):Res->Prop
 | .mat _ _ _ _ _ v'=>v'=v
 | _=>False
def Res.dW (v:Nat):Res->Prop
 | .row _ _ _ v'=>v<=v'
 | .fro _ _ v'=>v<=v'
 | .mat _ _ _ _ _ v'=>v<=v'
 | _=>False
def Res.nN:Res->Prop
 | .box _=>True
 | _=>False
def Res.lU:Res->Prop
 | .kF _=>True
 | _=>False
def Res.DX:Res->Prop
 | .kF _=>True
 | .gone=>True
 | _=>False
def Res.esz:Res->Nat
 | .row _ t _ _=>t.n
 | .fro t _ _=>t.n
 | .mat _ _ _ _ _ _=>1
 | _=>0
def Res.msz:Res->Nat
 | .mat _ _ t _ _ _=>t.n
 | _=>0
def Res.cnt:Res->Nat
 | .mat _ _ _ _ xss _=>xss.length
 | _=>0
def a5y (F:Nat->Prop) (E:Env) (ρ:Nat->Res) (w:World):K0->Value->Prop
 | .val t x,v=>iY F w t v x
 | .own r ver,v=>Res.isRow ver (ρ r)->v=E.sl r
 | .ptr r off,v=>∃ b,E.blk r=some b/\v=.pointer (some ⟨b,off,none⟩)
 | .lQ r,v=>Res.lU (ρ r)->∃ b,E.blk r=some b/\v=.pointer (some ⟨b,0,none⟩)
def kW (F:Nat->Prop) (E:Env) (ρ:Nat->Res) (w:World):List K0->List Value->Prop
 | [],vs=>vs=[]
 | k::ks,vs=>∃ v vs',vs=v::vs'/\a5y F E ρ w k v/\kW F E ρ w ks vs'
def K.holds (E:Env) (ρ:Nat->Res) (w:World):K->Value->Prop
 | .any,_=>True
 | .val t x,v=>iY (fz w E) w t v x
 | .nil,v=>v=.slice none 0 0
 | .ptr r off,v=>∃ b,E.blk r=some b/\v=.pointer (some ⟨b,off,none⟩)
 | .own r ver,v=>Res.isRow ver (ρ r)->v=E.sl r
 | .when b k,v=>(b=true->k.holds E ρ w v)/\(b=false->v=undef)
 | .tup ts x,v=>∃ vs,v=.tuple vs.toArray/\iO (fz w E) w ts vs x
 | .cell r ver i,v=>Res.isRow ver (ρ r)->∃ b,bI (E.sl r)=some b/\v=.pointer (some ⟨b,i*(ρ r).esz,none⟩)
 | .mrow r ver id,v=>Res.mF ver (ρ r)->v=E.inn r id
 | .mpos r ver id j,v=>Res.mF ver (ρ r)->∃ b,bI (E.inn r id)=some b/\v=.pointer (some ⟨b,j*(ρ r).msz,none⟩)
 | .lQ r,v=>Res.lU (ρ r)->∃ b,E.blk r=some b/\v=.pointer (some ⟨b,0,none⟩)
 | .mix ks,v=>∃ vs,v=.tuple vs.toArray/\kW (fz w E) E ρ w ks vs
 | .fn g ks,v=>∃ vs,v=.func (.func g) #[] vs.toArray/\kW (fz w E) E ρ w ks vs
 | .sng r ver,v=>Res.isRow ver (ρ r)->∃ b,v=.slice (some ⟨b,0,none⟩) 1 1/\fz w E b/\w.rangeAt b 0 [E.sl r]
 | .pls ks,v=>∃ b vs,v=.slice (some ⟨b,0,none⟩) ks.length ks.length/\fz w E b/\w.rangeAt b 0 vs/\kW (fz w E) E ρ w ks vs
 | .pcl ks i,v=>∃ b vs,v=.pointer (some ⟨b,i,none⟩)/\fz w E b/\w.rangeAt b 0 vs/\kW (fz w E) E ρ w ks vs
theorem wJ {E:Env} {ρ:Nat->Res} {w:World} {k:K0} {v:Value}:a5y (fz w E) E ρ w k v↔(k0K k).holds E ρ w v:=by cases k<;>exact Iff.rfl
class Dc (p:Prop) where
 d:Decidable p
instance (priority:=high) (p:Prop) [h:Decidable p]:Dc p:=⟨h⟩
noncomputable instance (priority:=low) (p:Prop):Dc p:=⟨Classical.propDecidable p⟩
structure Cd where
 p:Prop
 d:Decidable p
instance (p:Prop) [h:Dc p]:CoeDep Prop p Cd:=⟨⟨p,h.d⟩⟩
def dJ:List Cd->Prop
 | []=>True
 | ⟨p,_⟩::ps=>p/\dJ ps
instance a1u:(l:List Cd)->Decidable (dJ l)
 | []=>.isTrue trivial
 | ⟨_,d⟩::l=>match d with
  | .isTrue h=>match a1u l with
   | .isTrue h2=>.isTrue ⟨h,h2⟩
   | .isFalse h2=>.isFalse fun q=>h2 q.2
  | .isFalse h=>.isFalse fun q=>h q.1
theorem dB {a b:List Cd}:dJ (a++b)↔dJ a/\dJ b:=by
 induction a with
 | nil=>simp[dJ]
 | cons p ps ih=>cases p;simp[dJ,ih,and_assoc]
abbrev PK:=Option (List Cd × K)
def rM (P:Program) (t:TypeId):Option Bool:=(P.underlying t).map fun d=>match d with | .struct _ | .array _ _=>true|_=>false
def fitsT (P:Program) (t:TypeId) (ty:Ty):Bool:=(P.info? t).map (·.size)==some ty.n&&rM P t==some ty.agg
def lK:(t:Ty)->t.den->Nat->Option (Nat × Part)
 | .pair a _,x,0=>some (0,⟨a,x.1⟩)
 | .pair a b,x,i+1=>(lK b x.2 i).map fun p=>(a.n+p.1,p.2)
 | .lf .rat,x,0=>some (0,⟨.lf .big,Rat.num x⟩)
 | .lf .rat,x,1=>some (2,⟨.lf .big,(Rat.den x:Int)⟩)
 | .lf .iL,x,0=>some (0,⟨.lf .grp,aH.g x⟩)
 | .lf .iL,x,1=>some (2,⟨.lf .grp,aH.h x⟩)
 | .lf .grp,x,1=>some (1,⟨.lf .gsl,x⟩)
 | .lf .big,x,0=>some (0,⟨.bool,decide ((show Int from x)<0)⟩)
 | .lf .big,x,1=>some (1,⟨.lf .gsl,dig (Int.natAbs x)⟩)
 | _,_,_=>none
def a3D (P:Program) (s:TypeId) (i o:Nat) (ty:Ty):Bool:=match P.underlying s with
 | some (.struct fs)=>match fs[i]? with
  | some f=>f.offset==o&&fitsT P f.type ty&&decide (0<ty.n)
  | none=>false
 | _=>false
def lZ (P:Program) (s:TypeId) (n:Option Nat) (ty:Ty):Bool:=match P.underlying s,n with
 | some (.slice e),none=>fitsT P e ty
 | some (.array m e),some k=>m==k&&fitsT P e ty
 | _,_=>false
def a5h (P:Program) (s:TypeId):Bool:=match P.underlying s with
 | some (.slice e)=>fitsT P e (.int .u32)
 | _=>false
theorem uY {F:Nat->Prop} {w:World}:(t:Ty)->(x:t.den)->(i o:Nat)->(p:Part)->(cs:List Value)->lK t x i=some (o,p)->rep F w t cs x->rep F w p.t ((cs.drop o).take p.t.n) p.x
 | .pair a b,x,0,o,p,cs,h,⟨c1,c2,h1,h2,h3⟩=>by
  simp only[lK,ak,dh] at h
  obtain⟨rfl,rfl⟩:=h
  have:=dI a _ _ h2
  rw[h1,List.drop_zero,<-this,Ce]
  exact h2
 | .pair a b,x,i+1,o,p,cs,h,⟨c1,c2,h1,h2,h3⟩=>by
  simp only[lK,jw] at h
  obtain⟨⟨o',p'⟩,h4,h5⟩:=h
  simp only[dh] at h5
  obtain⟨rfl,rfl⟩:=h5
  have:=dI a _ _ h2
  rw[h1,<-Dz,<-this,Az]
  exact uY b x.2 i o' p' c2 h4 h3
 | .lf .rat,x,0,o,p,cs,h,hr=>by
  simp only[lK,ak,dh] at h
  obtain⟨rfl,rfl⟩:=h
  obtain⟨b,s,c,t,h1,h2,h3⟩:RQ w (.agg cs.toArray) x:=hr
  rw[show cs=[b,s,c,t] by simpa using h1]
  exact h2
 | .lf .rat,x,1,o,p,cs,h,hr=>by
  simp only[lK,ak,dh] at h
  obtain⟨rfl,rfl⟩:=h
  obtain⟨b,s,c,t,h1,h2,h3⟩:RQ w (.agg cs.toArray) x:=hr
  rw[show cs=[b,s,c,t] by simpa using h1]
  exact h3
 | .lf .iL,x,0,o,p,cs,h,hr=>by
  simp only[lK,ak,dh] at h
  obtain⟨rfl,rfl⟩:=h
  obtain⟨b,q,c,b',q',c',rfl,h2,h3,h4⟩:=hr
  exact⟨b,_,rfl,h3⟩
 | .lf .iL,x,1,o,p,cs,h,hr=>by
  simp only[lK,ak,dh] at h
  obtain⟨rfl,rfl⟩:=h
  obtain⟨b,q,c,b',q',c',rfl,h2,h3,h4⟩:=hr
  exact⟨b',_,rfl,h4⟩
 | .lf .grp,x,1,o,p,cs,h,hr=>by
  simp only[lK,ak,dh] at h
  obtain⟨rfl,rfl⟩:=h
  obtain⟨b,s,rfl,h2⟩:=hr
  exact⟨s,rfl,h2⟩
 | .lf .big,x,0,o,p,cs,h,hr=>by
  simp only[lK,ak,dh] at h
  obtain⟨rfl,rfl⟩:=h
  obtain⟨s,h1,h2⟩:dX w (.agg cs.toArray) x:=hr
  rw[show cs=[.bool (decide ((show Int from x)<0)),s] by simpa using h1];rfl
 | .lf .big,x,1,o,p,cs,h,hr=>by
  simp only[lK,ak,dh] at h
  obtain⟨rfl,rfl⟩:=h
  obtain⟨s,h1,h2⟩:dX w (.agg cs.toArray) x:=hr
  rw[show cs=[.bool (decide ((show Int from x)<0)),s] by simpa using h1]
  exact⟨s,rfl,h2⟩
def a6D:(ts:List Ty)->(nest ts).den->Nat->Option Part
 | [],_,_=>none
 | t::_,x,0=>some ⟨t,x.1⟩
 | _::ts,x,i+1=>a6D ts x.2 i
theorem ZB {F:Nat->Prop} {w:World}:(ts:List Ty)->(x:(nest ts).den)->(i:Nat)->(p:Part)->(vs:List Value)->a6D ts x i=some p->iO F w ts vs x->∃ v,vs[i]?=some v/\iY F w p.t v p.x
 | t::ts,x,0,p,vs,h,⟨v,vs',h1,h2,h3⟩=>by
  simp only[a6D] at h
  grind
 | t::ts,x,i+1,p,vs,h,⟨v,vs',h1,h2,h3⟩=>by
  obtain⟨v',k1,k2⟩:=ZB ts x.2 i p vs' h h3
  grind
def fU (t t':Ty) (x:t.den):Option t'.den:=if h:t=t' then some (h ▸ x) else none
def kY (c:Bool):K->K->PK
 | .val t x,.val t' y=>(fU t' t y).map fun y=>([],.val t (bif c then x else y))
 | .when b (.val t x),.val t' y=>(fU t' t y).map fun y=>([c=true->b=true],.val t (bif c then x else y))
 | .val t x,.when b (.val t' y)=>(fU t' t y).map fun y=>([c=false->b=true],.val t (bif c then x else y))
 | .when b (.val t x),.when b' (.val t' y)=>(fU t' t y).map fun y=>([c=true->b=true,c=false->b'=true],.val t (bif c then x else y))
 | _,_=>none
def b0q (op:BinOp) (k:IntKind) (a b:Int):PK:=match op with
 | .add=>some ([],.val (.int k) (k.wrap (a+b)))
 | .sub=>some ([],.val (.int k) (k.wrap (a-b)))
 | .mul=>some ([],.val (.int k) (k.wrap (a*b)))
 | .quo=>some ([b≠0],.val (.int k) (k.wrap (a.tdiv b)))
 | .rem=>some ([b≠0],.val (.int k) (a.tmod b))
 | .eql=>some ([],.val .bool (a==b))
 | .neq=>some ([],.val .bool (a != b))
 | .lss=>some ([],.val .bool (decide (a<b)))
 | .leq=>some ([],.val .bool (decide (a<=b)))
 | .gtr=>some ([],.val .bool (decide (a > b)))
 | .geq=>some ([],.val .bool (decide (a ≥ b)))
 | _=>none
def wX:Value->K
 | .bool b=>.val .bool b
 | .int k n=>.val (.int k) n
 | .slice none 0 0=>.nil
 | _=>.any
def II (P:Program) (t:TypeId):Bool:=match P.underlying t with
 | some .bool=>true
 | _=>false
def c3e (P:Program) (s t:TypeId):Option IntKind:=match P.underlying s,P.underlying t with
 | some _,some (.int k)=>some k
 | _,_=>none
def qY (P:Program) (t:TypeId):Bool:=match P.underlying t with
 | some (.slice _)=>true
 | _=>false
def GR (ty:Ty) (ys:List ty.den) (m:Nat) (n:Int):PK:=some ([0<=n,n<m],.val (.ref ty) (ys.getD n.toNat ty.zero))
def b3M (ty:Ty) (ys:List ty.den) (m:Nat) (n:Int):PK:=some ([0<=n,n<m],.val ty (ys.getD n.toNat ty.zero))
def LP (ty:Ty) (ys:List ty.den):PK:=some ([],.val (.int .i64) (ys.length:Int))
def b7w (l:List Nat):PK:=some ([],.val (.int .i64) (l.length:Int))
def a5f (l:List Nat) (n:Int):PK:=some ([0<=n,n<l.length],.val (.lf .OA) (l.getD n.toNat 0))
def eqB (op:BinOp) (a b:Bool):PK:=match op with
 | .eql=>some ([],.val .bool (a==b))
 | .neq=>some ([],.val .bool (a != b))
 | _=>none
def b4s (op:BinOp) (b:Bool):PK:=match op with
 | .eql=>some ([],.val .bool (!b))
 | .neq=>some ([],.val .bool b)
 | _=>none
def ZI (k:IntKind) (n:Int):PK:=some ([],.val (.int k) (k.wrap n))
def b7E (k:IntKind) (n:Int):PK:=ZI k (0-n)
def b7H (b:Bool):PK:=some ([],.val .bool (!b))
def zD (ref:Bool) (P:Program) (s:TypeId) (i:Nat) (ty:Ty) (y:ty.den):PK:=match lK ty y i with
 | some (o,p)=>if a3D P s i o p.t&&ty.agg then some ([],if ref then .val (.ref p.t) p.x else .val p.t p.x) else none
 | none=>none
def eqD:(t:Ty)->t.den->t.den->Bool
 | .bool,x,y=>(show Bool from x)==(show Bool from y)
 | .int _,x,y=>(show Int from x)==(show Int from y)
 | .pair a b,x,y=>eqD a x.1 y.1&&eqD b x.2 y.2
 | _,_,_=>true
def b3k (C:TypeId->Ty->Bool) (P:Program):List Field->Nat->Ty->Bool
 | [],_,.unit=>true
 | f::fs,o,.pair a b=>f.name != "_" && f.offset==o&&fitsT P f.type a&&C f.type a&&b3k C P fs (o+a.n) b
 | _,_,_=>false
def a7a (P:Program):Nat->TypeId->Ty->Bool
 | _+1,t,.int _=>match P.underlying t with
  | some (.int _)=>true
  | _=>false
 | _+1,t,.bool=>II P t
 | n+1,t,.pair a b=>match P.underlying t with
  | some (.struct fs)=>!P.stoodInHeld t&&b3k (a7a P n) P fs.toList 0 (.pair a b)
  | _=>false
 | _,_,_=>false
def eqS (op:BinOp) (b:Bool):PK:=match op with
 | .eql=>some ([],.val .bool b)
 | .neq=>some ([],.val .bool (!b))
 | _=>none
def fB (P:Program) (k:Operand->K):Op->PK
 | .move x=>some ([],k x)
 | .assign x=>some ([],k x)
 | .pick c a b=>match k c with
  | .val .bool cb=>kY cb (k a) (k b)
  | _=>none
 | .load t x=>match k x with
  | .val (.ref ty) y=>if fitsT P t ty then some ([],.val ty y) else none
  | .val (.lf .OA) y=>if fitsT P t (.int .u32) then some ([],.val (.int .u32) (Nat.cast (R:=Int) y)) else none
  | _=>none
 | .fieldAddr s x i=>match k x with
  | .val (.ref ty) y=>zD true P s i ty y
  | _=>none
 | .field s x i=>match k x with
  | .val ty y=>zD false P s i ty y
  | _=>none
 | .indexAddr s x i=>match k x,k i with
  | .val (.list ty) ys,.val (.int _) n=>if lZ P s none ty then GR ty ys (List.length (α:=ty.den) ys) n else none
  | .val (.ref (.arr m ty)) ys,.val (.int _) n=>if lZ P s (some m) ty then GR ty ys m n else none
  | .val (.lf .gsl) l,.val (.int _) n=>if a5h P s then a5f l n else none
  | _,_=>none
 | .index s x i=>match k x,k i with
  | .val (.arr m ty) ys,.val (.int _) n=>if lZ P s (some m) ty then b3M ty ys m n else none
  | _,_=>none
 | .extract x i=>match k x with
  | .tup ts y=>match a6D ts y i with
   | some p=>some ([],.val p.t p.x)
   | none=>none
  | .mix ks=>match ks[i]? with
   | some k=>some ([],k0K k)
   | none=>none
  | _=>none
 | .binOp op t x y _=>match k x,k y with
  | .val (.int ka) a,.val (.int kb) b=>if ka=kb then b0q op ka a b else none
  | .val .bool a,.val .bool b=>if II P t then eqB op a b else none
  | .val (.nls ty) x,.nil=>if qY P t then b4s op (Option.isSome (α:=List ty.den) x) else none
  | .val (.pair a b) x,.val (.pair a' b') y=>match fU (.pair a' b') (.pair a b) y with
   | some z=>if a7a P 6 t (.pair a b)&&!P.eqGuardType P.depth t then eqS op (eqD (.pair a b) x z) else none
   | none=>none
  | _,_=>none
 | .unOp .not _ x=>match k x with
  | .val .bool b=>b7H b
  | _=>none
 | .unOp .neg _ x=>match k x with
  | .val (.int kk) n=>b7E kk n
  | _=>none
 | .convert s t x=>match k x,c3e P s t with
  | .val (.int _) n,some kk=>ZI kk n
  | _,_=>none
 | .nilCheck x=>match k x with
  | .val (.ref t) y=>some ([],.val (.ref t) y)
  | .val (.clo f t) y=>some ([],.val (.clo f t) y)
  | _=>none
 | .call { callee:=.builtin .len,args:=xs,argTypes:=ts }=>match xs.toList,ts.toList with
  | [x],[t]=>if qY P t then (match k x with
   | .val (.list ty) ys=>LP ty ys
   | .val (.lf .gsl) l=>b7w l
   | .nil=>LP .unit []
   | .val (.nls ty) ys=>LP ty (Option.getD (α:=List ty.den) ys [])
   | _=>none) else none
  | _,_=>none
 | _=>none
def yT (P:Program) (E:Env) (ρ:Nat->Res) (w:World) (o:Oper) (ev:Operand->Value) (k:K):Prop:=∃ v,(execOp ev o).run P w=.ok (.value v) w/\k.holds E ρ w v
section
variable {P:Program} {E:Env} {ρ:Nat->Res} {w:World}
theorem dL {t t':Ty} {x:t.den} {y:t'.den} (h:fU t t' x=some y):∃ e:t=t',e ▸ x=y:=by
 unfold fU at h
 split at h
 ·grind
 ·cases h
theorem b1x {c:Bool} {ka kb k:K} {vc:List Cd} (h:kY c ka kb=some (vc,k)) (hv:dJ vc) {u v:Value} (ha:ka.holds E ρ w u) (hb:kb.holds E ρ w v):k.holds E ρ w (if c then u else v):=by
 cases ka<;>try (simp[kY] at h;done)
 case val t x =>
  cases kb<;>try (simp[kY] at h;done)
  case val t' y =>
   simp only[kY,jw,dh] at h
   obtain⟨y',h1,rfl,rfl⟩:=h
   obtain⟨rfl,rfl⟩:=dL h1
   cases c
   ·exact hb
   ·exact ha
  case when b kb =>
   cases kb<;>try (simp[kY] at h;done)
   case val t' y =>
    simp only[kY,jw,dh] at h
    obtain⟨y',h1,rfl,rfl⟩:=h
    obtain⟨rfl,rfl⟩:=dL h1
    cases c
    ·exact hb.1 (hv.1 rfl)
    ·exact ha
 case when b ka =>
  cases ka<;>try (simp[kY] at h;done)
  case val t x =>
   cases kb<;>try (simp[kY] at h;done)
   case val t' y =>
    simp only[kY,jw,dh] at h
    obtain⟨y',h1,rfl,rfl⟩:=h
    obtain⟨rfl,rfl⟩:=dL h1
    cases c
    ·exact hb
    ·exact ha.1 (hv.1 rfl)
   case when b' kb =>
    cases kb<;>try (simp[kY] at h;done)
    case val t' y =>
     simp only[kY,jw,dh] at h
     obtain⟨y',h1,rfl,rfl⟩:=h
     obtain⟨rfl,rfl⟩:=dL h1
     cases c
     ·exact hb.1 (hv.2.1 rfl)
     ·exact ha.1 (hv.1 rfl)
theorem a7b (v:Value):(wX v).holds E ρ w v:=by
 unfold wX
 split
 ·exact⟨[.bool _],rfl,rfl⟩
 ·exact⟨[.int _ _],rfl,rfl⟩
 ·rfl
 ·trivial
theorem EY {t:TypeId} {b:Bool} (h:rM P t=some b):(isAgg t).run P w=.ok b w:=by
 unfold rM at h
 cases hu:P.underlying t with
 | none=>rw[hu] at h;cases h
 | some d =>
  rw[hu] at h
  unfold isAgg
  rw[jq,qo hu w]
  cases d<;>simp_all
theorem fF {t:TypeId} {ty:Ty} (h:fitsT P t ty=true):(∃ i,P.info? t=some i/\i.size=ty.n)/\rM P t=some ty.agg:=by
 unfold fitsT at h
 simp only[au,jf] at h
 refine⟨?_,h.2⟩
 cases hi:P.info? t with
 | none=>rw[hi] at h;simp at h
 | some i=>rw[hi] at h;exact⟨i,rfl,by simpa using h.1⟩
theorem run_sizeOf {t:TypeId} {i:TypeInfo} (h:P.info? t=some i):(sizeOf t).run P w=.ok i.size w:=by simp[sizeOf,typeInfo,h]
theorem nO {t:TypeId} {ty:Ty} (h:fitsT P t ty=true) {cs:List Value} {o:Nat} {F:Nat->Prop} {x:ty.den} (hr:rep F w ty ((cs.drop o).take ty.n) x):(part t cs.toArray o).run P w=.ok (ty.toV ((cs.drop o).take ty.n)) w:=by
 obtain⟨⟨i,hi,hn⟩,ha⟩:=fF h
 have hl:=dI ty _ _ hr
 unfold part Ty.toV
 rw[jq,EY ha]
 cases hg:ty.agg
 ·have h1:ty.n=1:=by cases ty<;>simp_all [Ty.agg,Ty.n];rename_i l;cases l<;>simp_all [Lf.agg,Lf.n]
  rw[h1] at hl ⊢
  have h2:o<cs.length:=by
   grind
  simp[jc h2,List.take_one]
 ·simp only[Result.andThen_ok,Dl,jq,run_sizeOf hi,Sem.run_pure]
  grind
theorem jJ {t:TypeId} {ty:Ty} (h:fitsT P t ty=true) {b o:Nat} {ds:List Value} {F:Nat->Prop} {x:ty.den} (hc:w.rangeAt b o ds) (hr:rep F w ty ds x):(loadVar t ⟨b,o,none⟩).run P w=.ok (ty.toV ds) w:=by
 obtain⟨⟨i,hi,hn⟩,ha⟩:=fF h
 have hl:=dI ty _ _ hr
 unfold Ty.toV
 cases hg:ty.agg
 ·have h1:ty.n=1:=by cases ty<;>simp_all [Ty.agg,Ty.n];rename_i l;cases l<;>simp_all [Lf.agg,Lf.n]
  rw[h1] at hl
  obtain⟨v,rfl⟩:∃ v,ds=[v]:=by
   match ds,hl with
   | [v],_=>exact⟨v,rfl⟩
  have hc0:=hc 0 v rfl
  rw[Nat.add_zero] at hc0
  rw[hg] at ha
  simp[loadVar,EY ha,hc0]
 ·rw[hg] at ha
  have hd:∃ d,P.underlying t=some d/\d.isRow=true:=by
   unfold rM at ha
   cases hu:P.underlying t with
   | none=>rw[hu] at ha;cases ha
   | some d=>rw[hu] at ha;exact⟨d,rfl,by cases d<;>simp_all⟩
  obtain⟨d,hu,hd⟩:=hd
  exact run_loadVar_mid w b o t ds d hc hu hd (by simp[hi,hn,hl])
end
end
section
set_option linter.unusedSimpArgs false
set_option linter.unusedVariables false
section
variable {P:Program} {E:Env} {ρ:Nat->Res} {w:World}
theorem oV {v:Value} {b:Bool} (h:(K.val .bool b).holds E ρ w v):v=.bool b:=by
 obtain⟨cs,rfl,h2⟩:=h
 rw[show cs=_ from h2];rfl
theorem jS {v:Value} {k:IntKind} {n:Int} (h:(K.val (.int k) n).holds E ρ w v):v=.int k n:=by
 obtain⟨cs,rfl,h2⟩:=h
 rw[show cs=_ from h2];rfl
theorem iF (b:Bool):(K.val .bool b).holds E ρ w (.bool b):=⟨[.bool b],rfl,rfl⟩
theorem kG (k:IntKind) (n:Int):(K.val (.int k) n).holds E ρ w (.int k n):=⟨[.int k n],rfl,rfl⟩
theorem wP {v:Value} {t:Ty} {xs:List t.den} (h:(K.val (.list t) xs).holds E ρ w v) :
  ∃ p c,v=.slice p xs.length c/\xs.length<=c/\c<=9223372036854775807/\(xs=[]\/∃ b o ds,p=some ⟨b,o,none⟩/\fz w E b/\w.rangeAt b o ds/\chunks (rep (fz w E) w t) ds xs):=by
 obtain⟨cs,rfl,p,c,h1,h2,h3,h4⟩:=h
 exact⟨p,c,by rw[h1];rfl,h2,h3,h4⟩
theorem DI {v:Value} {t:Ty} {x:t.den} (h:(K.val (.ref t) x).holds E ρ w v):∃ b o ds,v=.pointer (some ⟨b,o,none⟩)/\fz w E b/\w.rangeAt b o ds/\rep (fz w E) w t ds x:=by
 obtain⟨cs,rfl,b,o,ds,h1,h2⟩:=h
 exact⟨b,o,ds,by rw[h1];rfl,h2⟩
theorem PL {t:Ty} {x:t.den} {b o:Nat} {ds:List Value} (h1:fz w E b) (h2:w.rangeAt b o ds) (h3:rep (fz w E) w t ds x):(K.val (.ref t) x).holds E ρ w (.pointer (some ⟨b,o,none⟩)):=⟨[.pointer (some ⟨b,o,none⟩)],rfl,b,o,ds,rfl,h1,h2,h3⟩
theorem a6E {v:Value} {t:Ty} {x:Option (List t.den)} (h:(K.val (.nls t) x).holds E ρ w v) :
  ∃ p c,v=.slice p (x.getD []).length c/\p.isNone=!x.isSome:=by
 obtain⟨cs,rfl,⟨rfl,rfl⟩|⟨ys,b,o,c,ds,rfl,rfl,_⟩⟩:=h
 ·exact⟨none,0,rfl,rfl⟩
 ·exact⟨_,c,rfl,rfl⟩
theorem NJ {s:TypeId} {i o:Nat} {ty:Ty} (h:a3D P s i o ty=true):∃ fs f,P.underlying s=some (.struct fs)/\fs[i]?=some f/\f.offset=o/\fitsT P f.type ty=true/\0<ty.n:=by
 unfold a3D at h
 split at h
 ·rename_i fs hu
  split at h
  ·rename_i f hf
   simp only[au,jf,aj] at h
   exact⟨fs,f,hu,hf,h.1.1,h.1.2,h.2⟩
  ·cases h
 ·cases h
theorem a7i {s:TypeId} {i:Nat} {ty:Ty} {y:ty.den} {vc:List Cd} {kk:K} {v:Value} (h:zD false P s i ty y=some (vc,kk)) (hv:iY (fz w E) w ty v y):∃ u,(Instr.field s v i).run P w=.ok u w/\kk.holds E ρ w u:=by
 unfold zD at h
 split at h
 ·rename_i o p hf
  split at h
  ·rename_i hb
   simp only[au] at hb
   simp only[ak,dh,Ad,if_false] at h
   obtain⟨_,rfl⟩:=h
   obtain⟨cs,rfl,hr⟩:=hv
   obtain⟨fs,f,h1,h2,rfl,h4,h5⟩:=NJ hb.1
   have hr2:=uY ty y i _ p cs hf hr
   refine⟨_,?_,_,rfl,hr2⟩
   simp only[Instr.field,jq,qo h1 w,Result.andThen_ok,h2,Ty.toV,hb.2,Dl,asAgg,Sem.run_pure]
   exact nO h4 hr2
  ·cases h
 ·cases h
theorem a1M {s:TypeId} {i:Nat} {ty:Ty} {y:ty.den} {vc:List Cd} {kk:K} {v:Value} (h:zD true P s i ty y=some (vc,kk)) (hv:(K.val (.ref ty) y).holds E ρ w v):∃ u,(Instr.fieldAt s v i).run P w=.ok u w/\kk.holds E ρ w u:=by
 unfold zD at h
 split at h
 ·rename_i o p hf
  split at h
  ·rename_i hb
   simp only[au] at hb
   simp only[ak,dh,Dl] at h
   obtain⟨_,rfl⟩:=h
   obtain⟨b,oo,ds,rfl,h1,h2,h3⟩:=DI (ρ:=ρ) hv
   obtain⟨fs,f,k1,k2,rfl,k4,k5⟩:=NJ hb.1
   have hr2:=uY ty y i _ p ds hf h3
   refine⟨.pointer (some ⟨b,oo+f.offset,none⟩),?_,PL h1 (xQ h2 _ _) hr2⟩
   obtain⟨⟨i2,hi,hn⟩,_⟩:=fF k4
   have hz:¬ i2.size=0:=by omega
   simp[Instr.fieldAt,jq,qo k1 w,k2,Instr.sureAddr,fieldPlace,run_sizeOf hi,hz,Bc]
  ·cases h
 ·cases h
theorem nH {s:TypeId} {ty:Ty} (h:lZ P s none ty=true):∃ e,P.underlying s=some (.slice e)/\fitsT P e ty=true:=by
 unfold lZ at h
 split at h<;>try(cases h;done)
 ·rename_i e hu _;exact⟨e,hu,h⟩
 ·rename_i hx;cases hx
theorem KO {s:TypeId} {m:Nat} {ty:Ty} (h:lZ P s (some m) ty=true):∃ e,P.underlying s=some (.array m e)/\fitsT P e ty=true:=by
 unfold lZ at h
 split at h<;>try(cases h;done)
 ·rename_i hx;cases hx
 ·rename_i m' e k hu hx
  cases hx
  simp only[au,jf] at h
  obtain⟨rfl,h2⟩:=h
  exact⟨e,hu,h2⟩
theorem GH {F:Nat->Prop} {ty:Ty} {ys:List ty.den} {ds:List Value} (h:chunks (rep F w ty) ds ys) {n:Nat} (hn:n<ys.length):rep F w ty ((ds.drop (n*ty.n)).take ty.n) (ys.getD n ty.zero):=by
 obtain⟨c,rfl,h2⟩:=WI (fun c y=>dI ty c y) ys ds h n ty.zero hn
 exact h2
theorem zM {s:TypeId} {ty:Ty} {ys:List ty.den} {n:Int} {kd:IntKind} {vc:List Cd} {kk:K} {v:Value} (hb:lZ P s none ty=true) (h:GR ty ys ys.length n=some (vc,kk)) (hc:dJ vc) (hv:(K.val (.list ty) ys).holds E ρ w v):∃ u,(Instr.indexAt s v (.int kd n)).run P w=.ok u w/\kk.holds E ρ w u:=by
 simp only[GR,ak,dh] at h
 obtain⟨rfl,rfl⟩:=h
 obtain⟨h0,h1,_⟩:=hc
 have hn:n.toNat<ys.length:=by omega
 obtain⟨p,c,rfl,_,_,hx|⟨b,o,ds,rfl,k1,k2,k3⟩⟩:=wP (ρ:=ρ) hv
 ·rw[hx] at hn;simp at hn
 obtain⟨e,k4,k5⟩:=nH hb
 obtain⟨⟨i2,hi,hsz⟩,_⟩:=fF k5
 refine⟨.pointer (some ⟨b,o+n.toNat*ty.n,none⟩),?_,PL k1 (xQ k2 _ _) (GH k3 hn)⟩
 simp[Instr.indexAt,asIntOf,jq,qo k4 w,h0,h1,run_sizeOf hi,hsz,Bc]
theorem VQ {s:TypeId} {ty:Ty} {m:Nat} {ys:List ty.den} {n:Int} {kd:IntKind} {vc:List Cd} {kk:K} {v:Value} (hb:lZ P s (some m) ty=true) (h:GR ty ys m n=some (vc,kk)) (hc:dJ vc) (hv:(K.val (.ref (.arr m ty)) ys).holds E ρ w v):∃ u,(Instr.indexAt s v (.int kd n)).run P w=.ok u w/\kk.holds E ρ w u:=by
 simp only[GR,ak,dh] at h
 obtain⟨rfl,rfl⟩:=h
 obtain⟨h0,h1,_⟩:=hc
 obtain⟨b,o,ds,rfl,k1,k2,kl,k3⟩:=DI (ρ:=ρ) hv
 have hn:n.toNat<ys.length:=by have:ys.length=m:=kl;omega
 obtain⟨e,k4,k5⟩:=KO hb
 obtain⟨⟨i2,hi,hsz⟩,_⟩:=fF k5
 refine⟨.pointer (some ⟨b,o+n.toNat*ty.n,none⟩),?_,PL k1 (xQ k2 _ _) (GH k3 hn)⟩
 simp[Instr.indexAt,asIntOf,jq,qo k4 w,h0,h1,run_sizeOf hi,hsz,Bc,Instr.sureAddr]
theorem a7o {s:TypeId} {ty:Ty} {m:Nat} {ys:List ty.den} {n:Int} {kd:IntKind} {vc:List Cd} {kk:K} {v:Value} (hb:lZ P s (some m) ty=true) (h:b3M ty ys m n=some (vc,kk)) (hc:dJ vc) (hv:(K.val (.arr m ty) ys).holds E ρ w v):∃ u,(Instr.index s v (.int kd n)).run P w=.ok u w/\kk.holds E ρ w u:=by
 simp only[b3M,ak,dh] at h
 obtain⟨rfl,rfl⟩:=h
 obtain⟨h0,h1,_⟩:=hc
 obtain⟨cs,rfl,kl,k3⟩:=hv
 have hn:n.toNat<List.length (α:=ty.den) ys:=by have:List.length (α:=ty.den) ys=m:=kl;omega
 obtain⟨e,k4,k5⟩:=KO hb
 obtain⟨⟨i2,hi,hsz⟩,_⟩:=fF k5
 have hr:=GH k3 hn
 refine⟨_,?_,_,rfl,hr⟩
 have:=nO k5 hr
 change (Instr.index s (.agg cs.toArray) (.int kd n)).run P w=_
 simp[Instr.index,asIntOf,qo k4 w,h0,h1,run_sizeOf hi,hsz,jq,this]
theorem b3P {op:BinOp} {t:TypeId} {k:IntKind} {a b:Int} {x y:Operand} {vc:List Cd} {kk:K} (h:b0q op k a b=some (vc,kk)) (hc:dJ vc):∃ u,(do eqGuard op t x y (.int k a) (.int k b);binOp op t (.int k a) (.int k b):Sem Value).run P w=.ok u w/\kk.holds E ρ w u:=by
 cases op<;>simp only[b0q,ak,dh] at h<;>first|(cases h;done)|obtain⟨rfl,rfl⟩:=h
 case quo=>exact⟨.int k (k.wrap (a.tdiv b)),by have:=hc.1;simp[eqGuard,binOp,Op.intDiv,jq,this],kG _ _⟩
 case rem=>exact⟨.int k (a.tmod b),by have:=hc.1;simp[eqGuard,binOp,Op.intDiv,jq,this],kG _ _⟩
 case eql=>exact⟨.bool (a==b),by simp[eqGuard,binOp,Op.intCmp,jq],iF _⟩
 case neq=>exact⟨.bool (a != b),by simp[eqGuard,binOp,Op.intCmp,jq],iF _⟩
 case add=>exact⟨.int k (k.wrap (a+b)),by simp[eqGuard,binOp,Op.intArith,jq],kG _ _⟩
 case sub=>exact⟨.int k (k.wrap (a-b)),by simp[eqGuard,binOp,Op.intArith,jq],kG _ _⟩
 case mul=>exact⟨.int k (k.wrap (a*b)),by simp[eqGuard,binOp,Op.intArith,jq],kG _ _⟩
 case lss=>exact⟨.bool (decide (a<b)),by simp[eqGuard,binOp,Op.intCmp,jq],iF _⟩
 case leq=>exact⟨.bool (decide (a<=b)),by simp[eqGuard,binOp,Op.intCmp,jq],iF _⟩
 case gtr=>exact⟨.bool (decide (a > b)),by simp[eqGuard,binOp,Op.intCmp,jq],iF _⟩
 case geq=>exact⟨.bool (decide (a ≥ b)),by simp[eqGuard,binOp,Op.intCmp,jq],iF _⟩
theorem b4t {op:BinOp} {t e:TypeId} {b:Bool} {p:Option Addr} {n c:Nat} {x y:Operand} {vc:List Cd} {kk:K} (hu:P.underlying t=some (.slice e)) (hp:p.isNone=!b) (h:b4s op b=some (vc,kk)):∃ u,(do eqGuard op t x y (.slice p n c) (.slice none 0 0);binOp op t (.slice p n c) (.slice none 0 0):Sem Value).run P w=.ok u w/\kk.holds E ρ w u:=by
 cases op<;>simp only[b4s,ak,dh] at h<;>first|(cases h;done)|obtain⟨rfl,rfl⟩:=h
 ·exact⟨.bool (!b),by simp[eqGuard,binOp,jq,run_equal_slice_nil w t e p n c hu,hp],iF _⟩
 ·exact⟨.bool b,by simp[eqGuard,binOp,jq,run_equal_slice_nil w t e p n c hu,hp],iF _⟩
theorem VT {t:TypeId} (hsl:qY P t=true):∃ e,P.underlying t=some (.slice e):=by
 unfold qY at hsl
 split at hsl
 ·rename_i e he;exact⟨e,he⟩
 ·cases hsl
theorem b6U {op:BinOp} {t:TypeId} {a b:Bool} {x y:Operand} {vc:List Cd} {kk:K} (hu:P.underlying t=some .bool) (h:eqB op a b=some (vc,kk)):∃ u,(do eqGuard op t x y (.bool a) (.bool b);binOp op t (.bool a) (.bool b):Sem Value).run P w=.ok u w/\kk.holds E ρ w u:=by
 cases op<;>simp only[eqB,ak,dh] at h<;>first|(cases h;done)|obtain⟨rfl,rfl⟩:=h
 ·exact⟨.bool (a==b),by simp[eqGuard,binOp,jq,run_equal_bool w t a b hu],iF _⟩
 ·exact⟨.bool (a != b),by simp[eqGuard,binOp,jq,run_equal_bool w t a b hu];cases a<;>cases b<;>rfl,iF _⟩
theorem a4X {F:Nat->Prop} {d:Nat} {C:TypeId->Ty->Bool} (hC:∀ t ty,C t ty=true->∀ cs cs' x y,rep F w ty cs x->rep F w ty cs' y->(Op.equalIn d t (ty.toV cs) (ty.toV cs')).run P w=.ok (eqD ty x y) w) {cs cs':List Value}:∀ (fs:List Field) (o:Nat) (ty:Ty) (x y:ty.den),b3k C P fs o ty=true->rep F w ty (cs.drop o) x->rep F w ty (cs'.drop o) y->(Op.eqFields d cs.toArray cs'.toArray fs).run P w=.ok (eqD ty x y) w
 | [],_,ty,x,y,h,_,_=>by
  cases ty<;>first|(cases h;done)|simp[Op.eqFields,eqD]
 | f::fs,o,ty,x,y,h,hx,hy=>by
  cases ty<;>try(cases h;done)
  rename_i a b
  simp only[b3k,au,jy,ne_eq,jf] at h
  obtain⟨⟨⟨⟨h1,h2⟩,h3⟩,h4⟩,h5⟩:=h
  obtain⟨c1,c2,e1,r1,r2⟩:=hx
  obtain⟨c1',c2',e1',r1',r2'⟩:=hy
  have l1:=dI a _ _ r1
  have l1':=dI a _ _ r1'
  have t1:(cs.drop o).take a.n=c1:=by rw[e1,<-l1,Ce]
  have t1':(cs'.drop o).take a.n=c1':=by rw[e1',<-l1',Ce]
  have d1:cs.drop (o+a.n)=c2:=by rw[<-Dz,e1,<-l1,Az]
  have d1':cs'.drop (o+a.n)=c2':=by rw[<-Dz,e1',<-l1',Az]
  have p1:=nO (P:=P) (w:=w) h3 (cs:=cs) (o:=o) (F:=F) (x:=x.1) (by rw[t1];exact r1)
  have p1':=nO (P:=P) (w:=w) h3 (cs:=cs') (o:=o) (F:=F) (x:=y.1) (by rw[t1'];exact r1')
  rw[t1] at p1
  rw[t1'] at p1'
  have q:=hC _ _ h4 _ _ _ _ r1 r1'
  have ih:=a4X hC fs (o+a.n) b x.2 y.2 h5 (by rw[d1];exact r2) (by rw[d1'];exact r2')
  simp only[Op.eqFields,h1,ne_eq,not_false_eq_true,Dl,jq,h2,p1,p1',q,Result.andThen_ok]
  show _=Result.ok (eqD a x.1 y.1&&eqD b x.2 y.2) w
  cases eqD a x.1 y.1
  ·simp
  ·simpa using ih
theorem a5a {F:Nat->Prop}:∀ (n d:Nat) (t:TypeId) (ty:Ty),a7a P n t ty=true->∀ cs cs' x y,rep F w ty cs x->rep F w ty cs' y->(Op.equalIn (d+n) t (ty.toV cs) (ty.toV cs')).run P w=.ok (eqD ty x y) w
 | 0,_,_,ty,h,_,_,_,_,_,_=>by cases ty<;>cases h
 | n+1,d,t,ty,h,cs,cs',x,y,hx,hy=>by
  cases ty<;>try(cases h;done)
  ·rw[show cs=_ from hx,show cs'=_ from hy]
   have hb:P.underlying t=some .bool:=by
    have h:II P t=true:=h
    unfold II at h
    split at h
    ·assumption
    ·cases h
   exact run_equalIn_bool w (d+n) t x y hb
  ·rw[show cs=_ from hx,show cs'=_ from hy]
   simp only[a7a] at h
   split at h<;>try(cases h;done)
   rename_i hu
   exact run_equalIn_int w (d+n) t _ _ x y hu
  ·simp only[a7a] at h
   split at h<;>try(cases h;done)
   rename_i a b fs hu
   simp only[au,dw] at h
   have hf:P.fieldsOf t=fs:=by unfold Program.fieldsOf;rw[hu]
   show (Op.equalIn (d+n+1) t (.agg cs.toArray) (.agg cs'.toArray)).run P w=_
   rw[run_equalIn_struct w (d+n) t _ _ (by rw[hf];exact hu) h.1,hf]
   exact a4X (fun t ty h=>a5a n d t ty h) fs.toList 0 _ x y h.2 hx hy
theorem b6V {op:BinOp} {t:TypeId} {a b:Ty} {u v:(Ty.pair a b).den} {x y:Operand} {vx vy:Value} {vc:List Cd} {kk:K} (hc:a7a P 6 t (.pair a b)=true) (hg:P.eqGuardType P.depth t=false) (h:eqS op (eqD (.pair a b) u v)=some (vc,kk)) (hx:(K.val (.pair a b) u).holds E ρ w vx) (hy:(K.val (.pair a b) v).holds E ρ w vy):∃ z,(do eqGuard op t x y vx vy;binOp op t vx vy:Sem Value).run P w=.ok z w/\kk.holds E ρ w z:=by
 obtain⟨cs,rfl,hr⟩:=hx
 obtain⟨cs',rfl,hr'⟩:=hy
 have q:(Op.equalIn 10000 t (.agg cs.toArray) (.agg cs'.toArray)).run P w=.ok (eqD (.pair a b) u v) w:=a5a 6 9994 t (.pair a b) hc cs cs' u v hr hr'
 show ∃ z,(do eqGuard op t x y (.agg cs.toArray) (.agg cs'.toArray);binOp op t (.agg cs.toArray) (.agg cs'.toArray):Sem Value).run P w=.ok z w/\kk.holds E ρ w z
 cases op<;>simp only[eqS,ak,dh] at h<;>first|(cases h;done)|obtain⟨rfl,rfl⟩:=h
 ·exact⟨_,by rw[jq,run_eqGuard_agg w _ t x y _ _ hg,Result.andThen_ok,run_eql_struct,q];rfl,iF _⟩
 ·exact⟨_,by rw[jq,run_eqGuard_agg w _ t x y _ _ hg,Result.andThen_ok,run_neq_struct,q];rfl,iF _⟩
theorem fH {s:Sem Value} {o:Oper} {ev:Operand->Value} {kk:K} (he:execOp ev o=(do pure (.value (<-s)))) (h:∃ u,s.run P w=.ok u w/\kk.holds E ρ w u):yT P E ρ w o ev kk:=by
 obtain⟨u,h1,h2⟩:=h
 exact⟨u,by rw[he,jq,h1];simp,h2⟩
theorem a3P {F:Nat->Prop}:∀ {ks:List K0} {vs:List Value} {i:Nat} {k:K0},kW F E ρ w ks vs->ks[i]?=some k->∃ v,vs[i]?=some v/\a5y F E ρ w k v
 | [],_,i,k,_,h=>by simp at h
 | k'::ks,_,0,k,⟨v,vs',h1,h2,_⟩,h=>by
  simp at h
  subst h
  exact⟨v,by rw[h1];rfl,h2⟩
 | k'::ks,_,i+1,k,⟨v,vs',h1,h2,h3⟩,h=>by
  obtain⟨u,k1,k2⟩:=a3P (i:=i) h3 (by simpa using h)
  exact⟨u,by rw[h1];exact k1,k2⟩
theorem a3B {s:TypeId} (h:a5h P s=true):∃ e,P.underlying s=some (.slice e)/\fitsT P e (.int .u32)=true:=by
 unfold a5h at h
 split at h<;>try(cases h;done)
 rename_i e he
 exact⟨e,he,h⟩
theorem VR {s:TypeId} {l:List Nat} {n:Int} {kd:IntKind} {vc:List Cd} {kk:K} {v:Value} (hb:a5h P s=true) (h:a5f l n=some (vc,kk)) (hc:dJ vc) (hv:(K.val (.lf .gsl) l).holds E ρ w v):∃ u,(Instr.indexAt s v (.int kd n)).run P w=.ok u w/\kk.holds E ρ w u:=by
 simp only[a5f,ak,dh] at h
 obtain⟨rfl,rfl⟩:=h
 obtain⟨h0,h1,_⟩:=hc
 obtain⟨e,he,hf⟩:=a3B hb
 obtain⟨⟨i,hi,hs⟩,_⟩:=fF hf
 obtain⟨cs,rfl,sv,rfl,hr⟩:=hv
 obtain⟨n',rfl⟩:∃ n':Nat,n=n':=⟨n.toNat,by omega⟩
 have hlt:n'<l.length:=by omega
 rcases hr with⟨_,_,hl⟩|⟨b,o,c,rfl,k2,k3,k4,k5⟩
 ·rw[hl] at hlt;simp at hlt
 ·refine⟨.pointer (some ⟨b,o+n',none⟩),?_,[.pointer (some ⟨b,o+n',none⟩)],rfl,b,o+n',rfl,?_⟩
  ·have hs:i.size=1:=hs
   simp[Instr.indexAt,asIntOf,jq,qo he w,Ty.toV,Ty.agg,Lf.agg,run_sizeOf hi,hs,Bc,hlt,show (0:Int)<=(n':Int) from yc _,show (n':Int)<(l.length:Int) from by omega]
  ·have:=k5 n' hlt
   rw[this,Int.toNat_natCast]
   rfl
theorem a7M {k:Operand->K} {ev:Operand->Value} {o:Oper} {vc:List Cd} {kk:K} (h:fB P k o.op=some (vc,kk)) (hv:dJ vc) (hk:∀ x,(k x).holds E ρ w (ev x)):yT P E ρ w o ev kk:=by
 cases ho:o.op<;>rw[ho] at h<;>try (simp[fB] at h;done)
 case move x =>
  simp only[fB,ak,dh] at h
  obtain⟨_,rfl⟩:=h
  exact⟨ev x,by simp[execOp,ho],hk x⟩
 case assign x =>
  simp only[fB,ak,dh] at h
  obtain⟨_,rfl⟩:=h
  exact⟨ev x,by simp[execOp,ho],hk x⟩
 case pick c a b =>
  simp only[fB] at h
  split at h<;>try(cases h;done)
  rename_i cb hcb
  have h1:=hk c
  rw[hcb] at h1
  have h2:=oV h1
  exact⟨_,by simp[execOp,ho,h2,asBool,jq];rfl,b1x h hv (hk a) (hk b)⟩
 case load t x =>
  simp only[fB] at h
  split at h<;>try(cases h;done)
  ·rename_i ty y hx
   split at h<;>try(cases h;done)
   rename_i hf
   simp only[ak,dh] at h
   obtain⟨_,rfl⟩:=h
   have h1:=hk x
   rw[hx] at h1
   obtain⟨b,oo,ds,h2,k1,k2,k3⟩:=DI h1
   refine fH (by simp only[execOp,ho];rfl) ⟨_,?_,ds,rfl,k3⟩
   rw[h2]
   simp only[Instr.loadAt,Instr.sureAddr,jq,Sem.run_pure,Result.andThen_ok]
   exact jJ hf k2 k3
  ·rename_i y hx
   split at h<;>try(cases h;done)
   rename_i hf
   simp only[ak,dh] at h
   obtain⟨_,rfl⟩:=h
   have h1:=hk x
   rw[hx] at h1
   obtain⟨cs,h2,b,oo,rfl,k2⟩:=h1
   refine fH (by simp only[execOp,ho];rfl) ⟨_,?_,[.int .u32 (Nat.cast (R:=Int) y)],rfl,rfl⟩
   rw[h2]
   simp only[Instr.loadAt,Ty.toV,Ty.agg,Lf.agg,Ad,if_false,List.headD_cons,Instr.sureAddr,jq,Sem.run_pure,Result.andThen_ok]
   exact jJ (F:=fun _=>True) (x:=(Nat.cast (R:=Int) y)) hf (fun j v hv=>by
    cases j with
    | zero=>simp at hv;rw[<-hv];exact k2
    | succ j=>simp at hv) rfl
 case fieldAddr s x i =>
  simp only[fB] at h
  split at h<;>try(cases h;done)
  rename_i ty y hx
  have h1:=hk x
  rw[hx] at h1
  exact fH (by simp only[execOp,ho]) (a1M h h1)
 case field s x i =>
  simp only[fB] at h
  split at h<;>try(cases h;done)
  rename_i ty y hx
  have h1:=hk x
  rw[hx] at h1
  exact fH (by simp only[execOp,ho]) (a7i h h1)
 case indexAddr s x i =>
  simp only[fB] at h
  have h1:=hk x
  have h2:=hk i
  split at h<;>try(cases h;done)
  all_goals
   rename_i hx hi
   split at h<;>try(cases h;done)
   rename_i hb
   rw[hx] at h1
   rw[hi] at h2
   refine fH (by simp only[execOp,ho];rfl) ?_
   rw[jS h2]
  ·exact zM hb h hv h1
  ·exact VQ hb h hv h1
  ·exact VR hb h hv h1
 case index s x i =>
  simp only[fB] at h
  have h1:=hk x
  have h2:=hk i
  split at h<;>try(cases h;done)
  rename_i hx hi
  split at h<;>try(cases h;done)
  rename_i hb
  rw[hx] at h1
  rw[hi] at h2
  refine fH (by simp only[execOp,ho];rfl) ?_
  rw[jS h2]
  exact a7o hb h hv h1
 case extract x i =>
  simp only[fB] at h
  have h1:=hk x
  split at h<;>try(cases h;done)
  ·rename_i ts y hx
   split at h<;>try(cases h;done)
   rename_i p hp
   simp only[ak,dh] at h
   obtain⟨_,rfl⟩:=h
   rw[hx] at h1
   obtain⟨vs,h2,h3⟩:=h1
   obtain⟨u,k1,k2⟩:=ZB ts y i p vs hp h3
   refine fH (by simp only[execOp,ho];rfl) ⟨u,?_,k2⟩
   rw[h2]
   simp[Instr.extract,k1]
  ·rename_i ks hx
   rw[hx] at h1
   obtain⟨vs,h2,h3⟩:=h1
   split at h<;>try(cases h;done)
   rename_i hks
   simp only[ak,dh] at h
   obtain⟨_,rfl⟩:=h
   obtain⟨u,k1,k2⟩:=a3P h3 hks
   refine fH (by simp only[execOp,ho];rfl) ⟨u,?_,wJ.1 k2⟩
   rw[h2]
   simp[Instr.extract,k1]
 case binOp op t x y yt =>
  simp only[fB] at h
  have h1:=hk x
  have h2:=hk y
  split at h<;>try(cases h;done)
  ·rename_i ka a kb b hx hy
   split at h<;>try(cases h;done)
   rename_i he
   subst he
   rw[hx] at h1
   rw[hy] at h2
   refine fH (by simp only[execOp,ho];rfl) ?_
   rw[jS h1,jS h2]
   exact b3P h hv
  ·rename_i a b hx hy
   split at h<;>try(cases h;done)
   rename_i hb
   rw[hx] at h1
   rw[hy] at h2
   have hu:P.underlying t=some .bool:=by
    unfold II at hb
    split at hb
    ·assumption
    ·cases hb
   refine fH (by simp only[execOp,ho];rfl) ?_
   rw[oV h1,oV h2]
   exact b6U hu h
  ·rename_i ty z hx hy
   split at h<;>try(cases h;done)
   rename_i hb
   rw[hx] at h1
   rw[hy] at h2
   obtain⟨e,hu⟩:=VT hb
   obtain⟨p,c,e1,e2⟩:=a6E h1
   refine fH (by simp only[execOp,ho];rfl) ?_
   rw[e1,show ev y=.slice none 0 0 from h2]
   exact b4t hu e2 h
  ·rename_i a b u a' b' u' hx hy
   split at h<;>try(cases h;done)
   rename_i z hz
   split at h<;>try(cases h;done)
   rename_i hb
   simp only[au,dw] at hb
   obtain⟨e,hz⟩:=dL hz
   simp only[Ty.pair.injEq] at e
   obtain⟨rfl,rfl⟩:=e
   have hz:u'=z:=hz
   subst hz
   rw[hx] at h1
   rw[hy] at h2
   exact fH (by simp only[execOp,ho];rfl) (b6V hb.1 hb.2 h h1 h2)
 case unOp op t x =>
  have h1:=hk x
  cases op<;>simp only[fB] at h<;>try(cases h;done)
  case not =>
   split at h<;>try(cases h;done)
   rename_i b hx
   simp only[b7H,ak,dh] at h
   obtain⟨_,rfl⟩:=h
   rw[hx] at h1
   refine fH (by simp only[execOp,ho];rfl) ⟨_,?_,iF _⟩
   rw[oV h1]
   rfl
  case neg =>
   split at h<;>try(cases h;done)
   rename_i kd n hx
   simp only[b7E,ZI,ak,dh] at h
   obtain⟨_,rfl⟩:=h
   rw[hx] at h1
   refine fH (by simp only[execOp,ho];rfl) ⟨_,?_,kG _ _⟩
   rw[jS h1]
   rfl
 case convert s t x =>
  simp only[fB] at h
  have h1:=hk x
  split at h<;>try(cases h;done)
  rename_i kd n kk' hx hi
  simp only[ZI,ak,dh] at h
  obtain⟨_,rfl⟩:=h
  rw[hx] at h1
  refine fH (by simp only[execOp,ho];rfl) ⟨_,?_,kG _ _⟩
  rw[jS h1]
  unfold c3e at hi
  split at hi<;>first|(cases hi;done)|skip
  rename_i d k' hs ht
  cases hi
  simp[convert,jq,qo hs w,qo ht w,Conv.intToInt]
 case nilCheck x =>
  simp only[fB] at h
  have h1:=hk x
  split at h<;>try(cases h;done)
  ·rename_i t y hx
   simp only[ak,dh] at h
   obtain⟨_,rfl⟩:=h
   rw[hx] at h1
   obtain⟨b,oo,ds,h2,k⟩:=DI h1
   exact⟨ev x,by simp[execOp,ho,h2],h1⟩
  ·rename_i f t y hx
   simp only[ak,dh] at h
   obtain⟨_,rfl⟩:=h
   rw[hx] at h1
   obtain⟨cs,h2,ds,h3,k⟩:=h1
   exact⟨ev x,by simp[execOp,ho,h2,h3,Ty.toV,Ty.agg],cs,h2,ds,h3,k⟩
 case call c =>
  obtain⟨cl,xs,ts⟩:=c
  cases cl<;>try (simp[fB] at h;done)
  rename_i bi
  cases bi<;>try (simp[fB] at h;done)
  simp only[fB] at h
  split at h<;>try(cases h;done)
  rename_i x t hxs hts
  have exs:xs=#[x]:=by rw[<-Array.toArray_toList (xs:=xs),hxs]
  have ets:ts=#[t]:=by rw[<-Array.toArray_toList (xs:=ts),hts]
  subst exs ets
  have h1:=hk x
  split at h<;>try(cases h;done)
  rename_i hsl
  have hu:∃ e,P.underlying t=some (.slice e):=by
   unfold qY at hsl
   split at hsl
   ·rename_i e he;exact⟨e,he⟩
   ·cases hsl
  obtain⟨e,hu⟩:=hu
  split at h<;>try(cases h;done)
  ·rename_i ty ys hx
   simp only[LP,ak,dh] at h
   obtain⟨_,rfl⟩:=h
   rw[hx] at h1
   obtain⟨p,c,h2,_⟩:=wP h1
   exact⟨_,by simp[execOp,ho,resolve,invoke,builtin,jq,h2,Builtin.len_,qo hu w,goInt],kG _ _⟩
  ·rename_i l hx
   simp only[b7w,ak,dh] at h
   obtain⟨_,rfl⟩:=h
   rw[hx] at h1
   obtain⟨cs,h2,sv,rfl,hr⟩:=h1
   obtain⟨p,c,rfl,_,_⟩:=hr.form
   have h2:ev x=.slice p l.length c:=h2
   exact⟨_,by simp[execOp,ho,resolve,invoke,builtin,jq,h2,Builtin.len_,qo hu w,goInt],kG _ _⟩
  ·rename_i hx
   simp only[LP,ak,dh] at h
   obtain⟨_,rfl⟩:=h
   rw[hx] at h1
   have h2:ev x=.slice none 0 0:=h1
   exact⟨_,by simp[execOp,ho,resolve,invoke,builtin,jq,h2,Builtin.len_,qo hu w,goInt],kG _ _⟩
  ·rename_i ty ys hx
   simp only[LP,ak,dh] at h
   obtain⟨_,rfl⟩:=h
   rw[hx] at h1
   obtain⟨p,c,h2,_⟩:=a6E h1
   exact⟨_,by simp[execOp,ho,resolve,invoke,builtin,jq,h2,Builtin.len_,qo hu w,goInt],kG _ _⟩
end
end
end Go.Proofs.YtbkocjmmbkifjaaGreat
