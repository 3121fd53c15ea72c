/-
  Lemmas for the theorem vestimables_holds, part 8 of 36.
-/
import Derived.Deep.OwnRows
import Derived.Laws.Cover3
import Derived.Laws.Small
import Derived.Laws.Tables
import Derived.Test.YtgplhbhfdgempaaGreatQe07
namespace Go.Proofs.YtgplhbhfdgempaaGreat
open Go Go.RowKit
theorem je:type_of% @Option.map_eq_some_iff:=@Option.map_eq_some_iff
theorem ji:type_of% @beq_iff_eq:=@beq_iff_eq
theorem dh:type_of% @Prod.mk.injEq:=@Prod.mk.injEq
theorem Bo:type_of% @Addr.add_mid:=@Addr.add_mid
theorem ql:type_of% @Int.natCast_nonneg:=@Int.natCast_nonneg
section
set_option linter.unusedSimpArgs false
set_option linter.unusedVariables false
structure Part where
 t:Ty
 x:t.den
def nest:List Ty->Ty
 | []=>.unit
 | t::ts=>.pair t (nest ts)
def Ty.toV (t:Ty) (cs:List Value):Value:=if t.agg then .agg cs.toArray else cs.headD undef
def kE (F:Nat->Prop) (w:World) (t:Ty) (v:Value) (x:t.den):Prop:=∃ cs,v=t.toV cs/\rep F w t cs x
def jY (F:Nat->Prop) (w:World):(ts:List Ty)->List Value->(nest ts).den->Prop
 | [],vs,_=>vs=[]
 | t::ts,vs,x=>∃ v vs',vs=v::vs'/\kE F w t v x.1/\jY F w ts vs' x.2
theorem gY {F F':Nat->Prop} {w w':World} (hF:∀ b,F b->F' b) (hs:jZ F w w') {t:Ty} {v:Value} {x:t.den} (h:kE F w t v x):kE F' w' t v x:=by
 obtain⟨cs,h1,h2⟩:=h
 exact⟨cs,h1,dF hF hs t _ _ h2⟩
theorem lI {F F':Nat->Prop} {w w':World} (hF:∀ b,F b->F' b) (hs:jZ F w w'):(ts:List Ty)->(vs:List Value)->(x:(nest ts).den)->jY F w ts vs x->jY F' w' ts vs x
 | [],_,_,h=>h
 | t::ts,_,x,⟨v,vs',h1,h2,h3⟩=>⟨v,vs',h1,gY hF hs h2,lI hF hs ts vs' x.2 h3⟩
inductive K0 where
 | val (t:Ty) (x:t.den)
 | own (r ver:Nat)
 | ptr (r off:Nat)
 | nV (r:Nat)
inductive K where
 | any
 | val (t:Ty) (x:t.den)
 | nil
 | ptr (r off:Nat)
 | own (r ver:Nat)
 | when (b:Bool) (k:K)
 | tup (ts:List Ty) (x:(nest ts).den)
 | cell (r ver i:Nat)
 | mrow (r ver id:Nat)
 | mpos (r ver id j:Nat)
 | nV (r:Nat)
 | mix (l:List K0)
 | fn (g:FuncId) (l:List K0)
 | sng (r ver:Nat)
def k0K:K0->K
 | .val t x=>.val t x
 | .own r v=>.own r v
 | .ptr r o=>.ptr r o
 | .nV r=>.nV r
inductive Res where
 | none
 | box (ps:List Part)
 | row (e:TypeId) (t:Ty) (xs:List t.den) (ver:Nat)
 | fro (t:Ty) (xs:List t.den) (ver:Nat)
 | mat (e e2:TypeId) (t:Ty) (ids:Option (List Nat)) (xss:List (List t.den)) (ver:Nat)
 | mX (k:K)
 | gone
structure Env where
 blk:Nat->Option Nat
 sl:Nat->Value
 base:Nat->Prop
 inn:Nat->Nat->Value
 qR:Nat->Prop
 par:Nat->Value
structure Fix where
 base:Nat->Prop
 qR:Nat->Prop
 par:Nat->Value
def Env.fix (E:Env):Fix:=⟨E.base,E.qR,E.par⟩
def bW:Value->Option Nat
 | .slice (some a) _ _=>some a.block
 | _=>none
def fz (w:World) (E:Env) (q:Nat):Prop:=(q<w.heap.size/\E.base q)/\(∀ r,E.blk r≠some q)/\∀ r id,bW (E.inn r id)≠some q
def gv (v:Nat):Nat:=v / 65536
def nx (v:Nat):Nat:=(v / 65536+1)*65536
theorem YH (v:Nat):gv v<gv (nx v):=by unfold gv nx;omega
def nxf (v:Nat):Nat:=nx v+v%2
theorem b0b (v:Nat):gv v<gv (nxf v):=by unfold gv nxf nx;omega
theorem b0F (v:Nat):v<=nxf v:=by unfold nxf nx;omega
theorem a2O (v:Nat):v<=nx v:=by unfold nx;omega
theorem KG {v v':Nat} (h:v<=v'):gv v<=gv v':=by unfold gv;omega
def Res.isRow (v:Nat):Res->Prop
 | .row _ _ _ v'=>gv v'=gv v
 | .fro _ _ v'=>gv v'=gv v
 | .mat _ _ _ _ _ v'=>gv v'=gv v
 | _=>False
def Res.oO (v:Nat):Res->Prop
 | .mat _ _ _ _ _ v'=>v'=v
 | _=>False
def Res.fM (v:Nat):Res->Prop
 | .row _ _ _ v'=>v<=v'
 | .fro _ _ v'=>v<=v'
 | .mat _ _ _ _ _ v'=>v<=v'
 | _=>False
def Res.pV:Res->Prop
 | .box _=>True
 | _=>False
def Res.oJ:Res->Prop
 | .mX _=>True
 | _=>False
def Res.FU:Res->Prop
 | .mX _=>True
 | .gone=>True
 | _=>False
def Res.esz:Res->Nat
 | .row _ t _ _=>t.n
 | .fro t _ _=>t.n
 | .mat _ _ _ _ _ _=>1
 | _=>0
def Res.msz:Res->Nat
 | .mat _ _ t _ _ _=>t.n
 | _=>0
def Res.cnt:Res->Nat
 | .mat _ _ _ _ xss _=>xss.length
 | _=>0
def a6s (F:Nat->Prop) (E:Env) (ρ:Nat->Res) (w:World):K0->Value->Prop
 | .val t x,v=>kE F w t v x
 | .own r ver,v=>Res.isRow ver (ρ r)->v=E.sl r
 | .ptr r off,v=>∃ b,E.blk r=some b/\v=.pointer (some ⟨b,off,none⟩)
 | .nV r,v=>Res.oJ (ρ r)->∃ b,E.blk r=some b/\v=.pointer (some ⟨b,0,none⟩)
def pK (F:Nat->Prop) (E:Env) (ρ:Nat->Res) (w:World):List K0->List Value->Prop
 | [],vs=>vs=[]
 | k::ks,vs=>∃ v vs',vs=v::vs'/\a6s F E ρ w k v/\pK F E ρ w ks vs'
def K.holds (E:Env) (ρ:Nat->Res) (w:World):K->Value->Prop
 | .any,_=>True
 | .val t x,v=>kE (fz w E) w t v x
 | .nil,v=>v=.slice none 0 0
 | .ptr r off,v=>∃ b,E.blk r=some b/\v=.pointer (some ⟨b,off,none⟩)
 | .own r ver,v=>Res.isRow ver (ρ r)->v=E.sl r
 | .when b k,v=>(b=true->k.holds E ρ w v)/\(b=false->v=undef)
 | .tup ts x,v=>∃ vs,v=.tuple vs.toArray/\jY (fz w E) w ts vs x
 | .cell r ver i,v=>Res.isRow ver (ρ r)->∃ b,bW (E.sl r)=some b/\v=.pointer (some ⟨b,i*(ρ r).esz,none⟩)
 | .mrow r ver id,v=>Res.oO ver (ρ r)->v=E.inn r id
 | .mpos r ver id j,v=>Res.oO ver (ρ r)->∃ b,bW (E.inn r id)=some b/\v=.pointer (some ⟨b,j*(ρ r).msz,none⟩)
 | .nV r,v=>Res.oJ (ρ r)->∃ b,E.blk r=some b/\v=.pointer (some ⟨b,0,none⟩)
 | .mix ks,v=>∃ vs,v=.tuple vs.toArray/\pK (fz w E) E ρ w ks vs
 | .fn g ks,v=>∃ vs,v=.func (.func g) #[] vs.toArray/\pK (fz w E) E ρ w ks vs
 | .sng r ver,v=>Res.isRow ver (ρ r)->∃ b,v=.slice (some ⟨b,0,none⟩) 1 1/\fz w E b/\w.rangeAt b 0 [E.sl r]
theorem EY {E:Env} {ρ:Nat->Res} {w:World} {k:K0} {v:Value}:a6s (fz w E) E ρ w k v↔(k0K k).holds E ρ w v:=by cases k<;>exact Iff.rfl
def bY:List Prop->Prop
 | []=>True
 | p::ps=>p/\bY ps
theorem cO {a b:List Prop}:bY (a++b)↔bY a/\bY b:=by
 induction a with
 | nil=>simp[bY]
 | cons p ps ih=>simp[bY,ih,and_assoc]
abbrev PK:=Option (List Prop × K)
def vN (P:Program) (t:TypeId):Option Bool:=(P.underlying t).map fun d=>match d with | .struct _ | .array _ _=>true|_=>false
def fitsT (P:Program) (t:TypeId) (ty:Ty):Bool:=(P.info? t).map (·.size)==some ty.n&&vN P t==some ty.agg
def KC:(t:Ty)->t.den->Nat->Option (Nat × Part)
 | .pair a _,x,0=>some (0,⟨a,x.1⟩)
 | .pair a b,x,i+1=>(KC b x.2 i).map fun p=>(a.n+p.1,p.2)
 | .lf .rat,x,0=>some (0,⟨.lf .big,Rat.num x⟩)
 | .lf .rat,x,1=>some (2,⟨.lf .big,(Rat.den x:Int)⟩)
 | .lf .dG,x,0=>some (0,⟨.lf .grp,aF.g x⟩)
 | .lf .dG,x,1=>some (2,⟨.lf .grp,aF.h x⟩)
 | .lf .grp,x,1=>some (1,⟨.lf .gsl,x⟩)
 | _,_,_=>none
def a4q (P:Program) (s:TypeId) (i o:Nat) (ty:Ty):Bool:=match P.underlying s with
 | some (.struct fs)=>match fs[i]? with
  | some f=>f.offset==o&&fitsT P f.type ty&&decide (0<ty.n)
  | none=>false
 | _=>false
def qX (P:Program) (s:TypeId) (n:Option Nat) (ty:Ty):Bool:=match P.underlying s,n with
 | some (.slice e),none=>fitsT P e ty
 | some (.array m e),some k=>m==k&&fitsT P e ty
 | _,_=>false
def a6b (P:Program) (s:TypeId):Bool:=match P.underlying s with
 | some (.slice e)=>fitsT P e (.int .u32)
 | _=>false
theorem wJ {F:Nat->Prop} {w:World}:(t:Ty)->(x:t.den)->(i o:Nat)->(p:Part)->(cs:List Value)->KC t x i=some (o,p)->rep F w t cs x->rep F w p.t ((cs.drop o).take p.t.n) p.x
 | .pair a b,x,0,o,p,cs,h,⟨c1,c2,h1,h2,h3⟩=>by
  obtain⟨rfl,rfl⟩:=h
  have:=dX a _ _ h2
  grind
 | .pair a b,x,i+1,o,p,cs,h,⟨c1,c2,h1,h2,h3⟩=>by
  simp only[KC,je] at h
  obtain⟨⟨o',p'⟩,h4,h5⟩:=h
  obtain⟨rfl,rfl⟩:=h5
  have:=dX a _ _ h2
  rw[h1,<-List.drop_drop,<-this,Bl]
  exact wJ b x.2 i o' p' c2 h4 h3
 | .lf .rat,x,0,o,p,cs,h,hr=>by
  obtain⟨rfl,rfl⟩:=h
  obtain⟨b,s,c,t,h1,h2,h3⟩:RQ w (.agg cs.toArray) x:=hr
  rw[show cs=[b,s,c,t] by simpa using h1]
  exact h2
 | .lf .rat,x,1,o,p,cs,h,hr=>by
  obtain⟨rfl,rfl⟩:=h
  obtain⟨b,s,c,t,h1,h2,h3⟩:RQ w (.agg cs.toArray) x:=hr
  rw[show cs=[b,s,c,t] by simpa using h1]
  exact h3
 | .lf .dG,x,0,o,p,cs,h,hr=>by
  obtain⟨rfl,rfl⟩:=h
  obtain⟨b,q,c,b',q',c',rfl,h2,h3,h4⟩:=hr
  exact⟨b,_,rfl,h3⟩
 | .lf .dG,x,1,o,p,cs,h,hr=>by
  obtain⟨rfl,rfl⟩:=h
  obtain⟨b,q,c,b',q',c',rfl,h2,h3,h4⟩:=hr
  exact⟨b',_,rfl,h4⟩
 | .lf .grp,x,1,o,p,cs,h,hr=>by
  obtain⟨rfl,rfl⟩:=h
  obtain⟨b,s,rfl,h2⟩:=hr
  exact⟨s,rfl,h2⟩
def a7q:(ts:List Ty)->(nest ts).den->Nat->Option Part
 | [],_,_=>none
 | t::_,x,0=>some ⟨t,x.1⟩
 | _::ts,x,i+1=>a7q ts x.2 i
theorem ZR {F:Nat->Prop} {w:World}:(ts:List Ty)->(x:(nest ts).den)->(i:Nat)->(p:Part)->(vs:List Value)->a7q ts x i=some p->jY F w ts vs x->∃ v,vs[i]?=some v/\kE F w p.t v p.x
 | t::ts,x,0,p,vs,h,⟨v,vs',h1,h2,h3⟩=>by
  simp only[a7q] at h
  grind
 | t::ts,x,i+1,p,vs,h,⟨v,vs',h1,h2,h3⟩=>by
  obtain⟨v',k1,k2⟩:=ZR ts x.2 i p vs' h h3
  grind
def jF (t t':Ty) (x:t.den):Option t'.den:=if h:t=t' then some (h ▸ x) else none
def nD (c:Bool):K->K->PK
 | .val t x,.val t' y=>(jF t' t y).map fun y=>([],.val t (bif c then x else y))
 | .when b (.val t x),.val t' y=>(jF t' t y).map fun y=>([c=true->b=true],.val t (bif c then x else y))
 | .val t x,.when b (.val t' y)=>(jF t' t y).map fun y=>([c=false->b=true],.val t (bif c then x else y))
 | .when b (.val t x),.when b' (.val t' y)=>(jF t' t y).map fun y=>([c=true->b=true,c=false->b'=true],.val t (bif c then x else y))
 | _,_=>none
def b0x (op:BinOp) (k:IntKind) (a b:Int):PK:=match op with
 | .add=>some ([],.val (.int k) (k.wrap (a+b)))
 | .sub=>some ([],.val (.int k) (k.wrap (a-b)))
 | .mul=>some ([],.val (.int k) (k.wrap (a*b)))
 | .quo=>some ([b≠0],.val (.int k) (k.wrap (a.tdiv b)))
 | .rem=>some ([b≠0],.val (.int k) (a.tmod b))
 | .eql=>some ([],.val .bool (a==b))
 | .neq=>some ([],.val .bool (a != b))
 | .lss=>some ([],.val .bool (decide (a<b)))
 | .leq=>some ([],.val .bool (decide (a<=b)))
 | .gtr=>some ([],.val .bool (decide (a > b)))
 | .geq=>some ([],.val .bool (decide (a ≥ b)))
 | _=>none
def yX:Value->K
 | .bool b=>.val .bool b
 | .int k n=>.val (.int k) n
 | .slice none 0 0=>.nil
 | _=>.any
def a6p (P:Program) (t:TypeId):Bool:=match P.underlying t with
 | some .bool=>true
 | _=>false
def c2n (P:Program) (s t:TypeId):Option IntKind:=match P.underlying s,P.underlying t with
 | some _,some (.int k)=>some k
 | _,_=>none
def sQ (P:Program) (t:TypeId):Bool:=match P.underlying t with
 | some (.slice _)=>true
 | _=>false
def JZ (ty:Ty) (ys:List ty.den) (m:Nat) (n:Int):PK:=some ([0<=n,n<m],.val (.ref ty) (ys.getD n.toNat ty.zero))
def b3K (ty:Ty) (ys:List ty.den) (m:Nat) (n:Int):PK:=some ([0<=n,n<m],.val ty (ys.getD n.toNat ty.zero))
def NS (ty:Ty) (ys:List ty.den):PK:=some ([],.val (.int .i64) (ys.length:Int))
def b6N (l:List Nat):PK:=some ([],.val (.int .i64) (l.length:Int))
def a5Z (l:List Nat) (n:Int):PK:=some ([0<=n,n<l.length],.val (.lf .TA) (l.getD n.toNat 0))
def eqB (op:BinOp) (a b:Bool):PK:=match op with
 | .eql=>some ([],.val .bool (a==b))
 | .neq=>some ([],.val .bool (a != b))
 | _=>none
def b4g (op:BinOp) (b:Bool):PK:=match op with
 | .eql=>some ([],.val .bool (!b))
 | .neq=>some ([],.val .bool b)
 | _=>none
def ZW (k:IntKind) (n:Int):PK:=some ([],.val (.int k) (k.wrap n))
def b6W (k:IntKind) (n:Int):PK:=ZW k (0-n)
def b6Z (b:Bool):PK:=some ([],.val .bool (!b))
def CJ (ref:Bool) (P:Program) (s:TypeId) (i:Nat) (ty:Ty) (y:ty.den):PK:=match KC ty y i with
 | some (o,p)=>if a4q P s i o p.t&&ty.agg then some ([],if ref then .val (.ref p.t) p.x else .val p.t p.x) else none
 | none=>none
def gI (P:Program) (k:Operand->K):Op->PK
 | .move x=>some ([],k x)
 | .assign x=>some ([],k x)
 | .pick c a b=>match k c with
  | .val .bool cb=>nD cb (k a) (k b)
  | _=>none
 | .load t x=>match k x with
  | .val (.ref ty) y=>if fitsT P t ty then some ([],.val ty y) else none
  | .val (.lf .TA) y=>if fitsT P t (.int .u32) then some ([],.val (.int .u32) (Nat.cast (R:=Int) y)) else none
  | _=>none
 | .fieldAddr s x i=>match k x with
  | .val (.ref ty) y=>CJ true P s i ty y
  | _=>none
 | .field s x i=>match k x with
  | .val ty y=>CJ false P s i ty y
  | _=>none
 | .indexAddr s x i=>match k x,k i with
  | .val (.list ty) ys,.val (.int _) n=>if qX P s none ty then JZ ty ys (List.length (α:=ty.den) ys) n else none
  | .val (.ref (.arr m ty)) ys,.val (.int _) n=>if qX P s (some m) ty then JZ ty ys m n else none
  | .val (.lf .gsl) l,.val (.int _) n=>if a6b P s then a5Z l n else none
  | _,_=>none
 | .index s x i=>match k x,k i with
  | .val (.arr m ty) ys,.val (.int _) n=>if qX P s (some m) ty then b3K ty ys m n else none
  | _,_=>none
 | .extract x i=>match k x with
  | .tup ts y=>match a7q ts y i with
   | some p=>some ([],.val p.t p.x)
   | none=>none
  | .mix ks=>match ks[i]? with
   | some k=>some ([],k0K k)
   | none=>none
  | _=>none
 | .binOp op t x y _=>match k x,k y with
  | .val (.int ka) a,.val (.int kb) b=>if ka=kb then b0x op ka a b else none
  | .val .bool a,.val .bool b=>if a6p P t then eqB op a b else none
  | .val (.nls ty) x,.nil=>if sQ P t then b4g op (Option.isSome (α:=List ty.den) x) else none
  | _,_=>none
 | .unOp .not _ x=>match k x with
  | .val .bool b=>b6Z b
  | _=>none
 | .unOp .neg _ x=>match k x with
  | .val (.int kk) n=>b6W kk n
  | _=>none
 | .convert s t x=>match k x,c2n P s t with
  | .val (.int _) n,some kk=>ZW kk n
  | _,_=>none
 | .nilCheck x=>match k x with
  | .val (.ref t) y=>some ([],.val (.ref t) y)
  | .val (.clo f t) y=>some ([],.val (.clo f t) y)
  | _=>none
 | .call { callee:=.builtin .len,args:=xs,argTypes:=ts }=>match xs.toList,ts.toList with
  | [x],[t]=>if sQ P t then (match k x with
   | .val (.list ty) ys=>NS ty ys
   | .val (.lf .gsl) l=>b6N l
   | .nil=>NS .unit []
   | .val (.nls ty) ys=>NS ty (Option.getD (α:=List ty.den) ys [])
   | _=>none) else none
  | _,_=>none
 | _=>none
def BK (P:Program) (E:Env) (ρ:Nat->Res) (w:World) (o:Oper) (ev:Operand->Value) (k:K):Prop:=∃ v,(execOp ev o).run P w=.ok (.value v) w/\k.holds E ρ w v
section
variable {P:Program} {E:Env} {ρ:Nat->Res} {w:World}
theorem fC {t t':Ty} {x:t.den} {y:t'.den} (h:jF t t' x=some y):∃ e:t=t',e ▸ x=y:=by
 unfold jF at h
 split at h
 ·grind
 ·cases h
theorem b1n {c:Bool} {ka kb k:K} {vc:List Prop} (h:nD c ka kb=some (vc,k)) (hv:bY vc) {u v:Value} (ha:ka.holds E ρ w u) (hb:kb.holds E ρ w v):k.holds E ρ w (if c then u else v):=by
 cases ka<;>try (simp[nD] at h;done)
 case val t x =>
  cases kb<;>try (simp[nD] at h;done)
  case val t' y =>
   simp only[nD,je] at h
   obtain⟨y',h1,rfl,rfl⟩:=h
   obtain⟨rfl,rfl⟩:=fC h1
   cases c
   ·exact hb
   ·exact ha
  case when b kb =>
   cases kb<;>try (simp[nD] at h;done)
   case val t' y =>
    simp only[nD,je] at h
    obtain⟨y',h1,rfl,rfl⟩:=h
    obtain⟨rfl,rfl⟩:=fC h1
    cases c
    ·exact hb.1 (hv.1 rfl)
    ·exact ha
 case when b ka =>
  cases ka<;>try (simp[nD] at h;done)
  case val t x =>
   cases kb<;>try (simp[nD] at h;done)
   case val t' y =>
    simp only[nD,je] at h
    obtain⟨y',h1,rfl,rfl⟩:=h
    obtain⟨rfl,rfl⟩:=fC h1
    cases c
    ·exact hb
    ·exact ha.1 (hv.1 rfl)
   case when b' kb =>
    cases kb<;>try (simp[nD] at h;done)
    case val t' y =>
     simp only[nD,je] at h
     obtain⟨y',h1,rfl,rfl⟩:=h
     obtain⟨rfl,rfl⟩:=fC h1
     cases c
     ·exact hb.1 (hv.2.1 rfl)
     ·exact ha.1 (hv.1 rfl)
theorem a7H (v:Value):(yX v).holds E ρ w v:=by
 unfold yX
 split
 ·exact⟨[.bool _],rfl,rfl⟩
 ·exact⟨[.int _ _],rfl,rfl⟩
 ·rfl
 ·trivial
theorem IZ {t:TypeId} {b:Bool} (h:vN P t=some b):(isAgg t).run P w=.ok b w:=by
 unfold vN at h
 cases hu:P.underlying t with
 | none=>rw[hu] at h;cases h
 | some d =>
  rw[hu] at h
  unfold isAgg
  rw[jc,qj hu w]
  cases d<;>simp_all
theorem iI {t:TypeId} {ty:Ty} (h:fitsT P t ty=true):(∃ i,P.info? t=some i/\i.size=ty.n)/\vN P t=some ty.agg:=by
 unfold fitsT at h
 simp only[ak,ji] at h
 refine⟨?_,h.2⟩
 cases hi:P.info? t with
 | none=>rw[hi] at h;simp at h
 | some i=>rw[hi] at h;exact⟨i,rfl,by simpa using h.1⟩
theorem run_sizeOf {t:TypeId} {i:TypeInfo} (h:P.info? t=some i):(sizeOf t).run P w=.ok i.size w:=by simp[sizeOf,typeInfo,h]
theorem wU {t:TypeId} {ty:Ty} (h:fitsT P t ty=true) {cs:List Value} {o:Nat} {F:Nat->Prop} {x:ty.den} (hr:rep F w ty ((cs.drop o).take ty.n) x):(part t cs.toArray o).run P w=.ok (ty.toV ((cs.drop o).take ty.n)) w:=by
 obtain⟨⟨i,hi,hn⟩,ha⟩:=iI h
 have hl:=dX ty _ _ hr
 unfold part Ty.toV
 rw[jc,IZ ha]
 cases hg:ty.agg
 ·have h1:ty.n=1:=by cases ty<;>simp_all [Ty.agg,Ty.n];rename_i l;cases l<;>simp_all [Lf.agg,Lf.n]
  rw[h1] at hl ⊢
  have h2:o<cs.length:=by
   grind
  simp[bn h2,List.take_one]
 ·simp only[Result.andThen_ok,Dn,jc,run_sizeOf hi,Sem.run_pure]
  grind
theorem lD {t:TypeId} {ty:Ty} (h:fitsT P t ty=true) {b o:Nat} {ds:List Value} {F:Nat->Prop} {x:ty.den} (hc:w.rangeAt b o ds) (hr:rep F w ty ds x):(loadVar t ⟨b,o,none⟩).run P w=.ok (ty.toV ds) w:=by
 obtain⟨⟨i,hi,hn⟩,ha⟩:=iI h
 have hl:=dX ty _ _ hr
 unfold Ty.toV
 cases hg:ty.agg
 ·have h1:ty.n=1:=by cases ty<;>simp_all [Ty.agg,Ty.n];rename_i l;cases l<;>simp_all [Lf.agg,Lf.n]
  rw[h1] at hl
  obtain⟨v,rfl⟩:∃ v,ds=[v]:=by
   match ds,hl with
   | [v],_=>exact⟨v,rfl⟩
  have hc0:=hc 0 v rfl
  rw[Nat.add_zero] at hc0
  rw[hg] at ha
  simp[loadVar,IZ ha,hc0]
 ·rw[hg] at ha
  have hd:∃ d,P.underlying t=some d/\d.isRow=true:=by
   unfold vN at ha
   cases hu:P.underlying t with
   | none=>rw[hu] at ha;cases ha
   | some d=>rw[hu] at ha;exact⟨d,rfl,by cases d<;>simp_all⟩
  obtain⟨d,hu,hd⟩:=hd
  exact run_loadVar_mid w b o t ds d hc hu hd (by simp[hi,hn,hl])
end
end
section
set_option linter.unusedSimpArgs false
set_option linter.unusedVariables false
section
variable {P:Program} {E:Env} {ρ:Nat->Res} {w:World}
theorem tH {v:Value} {b:Bool} (h:(K.val .bool b).holds E ρ w v):v=.bool b:=by
 obtain⟨cs,rfl,h2⟩:=h
 rw[show cs=_ from h2];rfl
theorem mJ {v:Value} {k:IntKind} {n:Int} (h:(K.val (.int k) n).holds E ρ w v):v=.int k n:=by
 obtain⟨cs,rfl,h2⟩:=h
 rw[show cs=_ from h2];rfl
theorem kW (b:Bool):(K.val .bool b).holds E ρ w (.bool b):=⟨[.bool b],rfl,rfl⟩
theorem mG (k:IntKind) (n:Int):(K.val (.int k) n).holds E ρ w (.int k n):=⟨[.int k n],rfl,rfl⟩
theorem ED {v:Value} {t:Ty} {xs:List t.den} (h:(K.val (.list t) xs).holds E ρ w v) :
  ∃ p c,v=.slice p xs.length c/\xs.length<=c/\c<=9223372036854775807/\(xs=[]\/∃ b o ds,p=some ⟨b,o,none⟩/\fz w E b/\w.rangeAt b o ds/\chunks (rep (fz w E) w t) ds xs):=by
 obtain⟨cs,rfl,p,c,h1,h2,h3,h4⟩:=h
 exact⟨p,c,by rw[h1];rfl,h2,h3,h4⟩
theorem FK {v:Value} {t:Ty} {x:t.den} (h:(K.val (.ref t) x).holds E ρ w v):∃ b o ds,v=.pointer (some ⟨b,o,none⟩)/\fz w E b/\w.rangeAt b o ds/\rep (fz w E) w t ds x:=by
 obtain⟨cs,rfl,b,o,ds,h1,h2⟩:=h
 exact⟨b,o,ds,by rw[h1];rfl,h2⟩
theorem QZ {t:Ty} {x:t.den} {b o:Nat} {ds:List Value} (h1:fz w E b) (h2:w.rangeAt b o ds) (h3:rep (fz w E) w t ds x):(K.val (.ref t) x).holds E ρ w (.pointer (some ⟨b,o,none⟩)):=⟨[.pointer (some ⟨b,o,none⟩)],rfl,b,o,ds,rfl,h1,h2,h3⟩
theorem a7s {v:Value} {t:Ty} {x:Option (List t.den)} (h:(K.val (.nls t) x).holds E ρ w v) :
  ∃ p c,v=.slice p (x.getD []).length c/\p.isNone=!x.isSome:=by
 obtain⟨cs,rfl,⟨rfl,rfl⟩|⟨ys,b,o,c,ds,rfl,rfl,_⟩⟩:=h
 ·exact⟨none,0,rfl,rfl⟩
 ·exact⟨_,c,rfl,rfl⟩
theorem OX {s:TypeId} {i o:Nat} {ty:Ty} (h:a4q P s i o ty=true):∃ fs f,P.underlying s=some (.struct fs)/\fs[i]?=some f/\f.offset=o/\fitsT P f.type ty=true/\0<ty.n:=by
 unfold a4q at h
 split at h
 ·rename_i fs hu
  split at h
  ·rename_i f hf
   simp only[ak,ji,ay] at h
   exact⟨fs,f,hu,hf,h.1.1,h.1.2,h.2⟩
  ·cases h
 ·cases h
theorem a7Q {s:TypeId} {i:Nat} {ty:Ty} {y:ty.den} {vc:List Prop} {kk:K} {v:Value} (h:CJ false P s i ty y=some (vc,kk)) (hv:kE (fz w E) w ty v y):∃ u,(Instr.field s v i).run P w=.ok u w/\kk.holds E ρ w u:=by
 unfold CJ at h
 split at h
 ·rename_i o p hf
  split at h
  ·rename_i hb
   simp only[ak] at hb
   simp only[ah,dh,zu,if_false] at h
   obtain⟨_,rfl⟩:=h
   obtain⟨cs,rfl,hr⟩:=hv
   obtain⟨fs,f,h1,h2,rfl,h4,h5⟩:=OX hb.1
   have hr2:=wJ ty y i _ p cs hf hr
   refine⟨_,?_,_,rfl,hr2⟩
   simp only[Instr.field,jc,qj h1 w,Result.andThen_ok,h2,Ty.toV,hb.2,Dn,asAgg,Sem.run_pure]
   exact wU h4 hr2
  ·cases h
 ·cases h
theorem a2m {s:TypeId} {i:Nat} {ty:Ty} {y:ty.den} {vc:List Prop} {kk:K} {v:Value} (h:CJ true P s i ty y=some (vc,kk)) (hv:(K.val (.ref ty) y).holds E ρ w v):∃ u,(Instr.fieldAt s v i).run P w=.ok u w/\kk.holds E ρ w u:=by
 unfold CJ at h
 split at h
 ·rename_i o p hf
  split at h
  ·rename_i hb
   simp only[ak] at hb
   simp only[ah,dh,Dn] at h
   obtain⟨_,rfl⟩:=h
   obtain⟨b,oo,ds,rfl,h1,h2,h3⟩:=FK (ρ:=ρ) hv
   obtain⟨fs,f,k1,k2,rfl,k4,k5⟩:=OX hb.1
   have hr2:=wJ ty y i _ p ds hf h3
   refine⟨.pointer (some ⟨b,oo+f.offset,none⟩),?_,QZ h1 (zK h2 _ _) hr2⟩
   obtain⟨⟨i2,hi,hn⟩,_⟩:=iI k4
   have hz:¬ i2.size=0:=by omega
   simp[Instr.fieldAt,jc,qj k1 w,k2,Instr.sureAddr,fieldPlace,run_sizeOf hi,hz,Bo]
  ·cases h
 ·cases h
theorem wH {s:TypeId} {ty:Ty} (h:qX P s none ty=true):∃ e,P.underlying s=some (.slice e)/\fitsT P e ty=true:=by
 unfold qX at h
 split at h<;>try(cases h;done)
 ·rename_i e hu _;exact⟨e,hu,h⟩
 ·rename_i hx;cases hx
theorem MP {s:TypeId} {m:Nat} {ty:Ty} (h:qX P s (some m) ty=true):∃ e,P.underlying s=some (.array m e)/\fitsT P e ty=true:=by
 unfold qX at h
 split at h<;>try(cases h;done)
 ·rename_i hx;cases hx
 ·rename_i m' e k hu hx
  cases hx
  simp only[ak,ji] at h
  obtain⟨rfl,h2⟩:=h
  exact⟨e,hu,h2⟩
theorem JV {F:Nat->Prop} {ty:Ty} {ys:List ty.den} {ds:List Value} (h:chunks (rep F w ty) ds ys) {n:Nat} (hn:n<ys.length):rep F w ty ((ds.drop (n*ty.n)).take ty.n) (ys.getD n ty.zero):=by
 obtain⟨c,rfl,h2⟩:=XM (fun c y=>dX ty c y) ys ds h n ty.zero hn
 exact h2
theorem CX {s:TypeId} {ty:Ty} {ys:List ty.den} {n:Int} {kd:IntKind} {vc:List Prop} {kk:K} {v:Value} (hb:qX P s none ty=true) (h:JZ ty ys ys.length n=some (vc,kk)) (hc:bY vc) (hv:(K.val (.list ty) ys).holds E ρ w v):∃ u,(Instr.indexAt s v (.int kd n)).run P w=.ok u w/\kk.holds E ρ w u:=by
 simp only[JZ,ah,dh] at h
 obtain⟨rfl,rfl⟩:=h
 obtain⟨h0,h1,_⟩:=hc
 have hn:n.toNat<ys.length:=by omega
 obtain⟨p,c,rfl,_,_,hx|⟨b,o,ds,rfl,k1,k2,k3⟩⟩:=ED (ρ:=ρ) hv
 ·rw[hx] at hn;simp at hn
 obtain⟨e,k4,k5⟩:=wH hb
 obtain⟨⟨i2,hi,hsz⟩,_⟩:=iI k5
 refine⟨.pointer (some ⟨b,o+n.toNat*ty.n,none⟩),?_,QZ k1 (zK k2 _ _) (JV k3 hn)⟩
 simp[Instr.indexAt,asIntOf,jc,qj k4 w,h0,h1,run_sizeOf hi,hsz,Bo]
theorem WW {s:TypeId} {ty:Ty} {m:Nat} {ys:List ty.den} {n:Int} {kd:IntKind} {vc:List Prop} {kk:K} {v:Value} (hb:qX P s (some m) ty=true) (h:JZ ty ys m n=some (vc,kk)) (hc:bY vc) (hv:(K.val (.ref (.arr m ty)) ys).holds E ρ w v):∃ u,(Instr.indexAt s v (.int kd n)).run P w=.ok u w/\kk.holds E ρ w u:=by
 simp only[JZ,ah,dh] at h
 obtain⟨rfl,rfl⟩:=h
 obtain⟨h0,h1,_⟩:=hc
 obtain⟨b,o,ds,rfl,k1,k2,kl,k3⟩:=FK (ρ:=ρ) hv
 have hn:n.toNat<ys.length:=by have:ys.length=m:=kl;omega
 obtain⟨e,k4,k5⟩:=MP hb
 obtain⟨⟨i2,hi,hsz⟩,_⟩:=iI k5
 refine⟨.pointer (some ⟨b,o+n.toNat*ty.n,none⟩),?_,QZ k1 (zK k2 _ _) (JV k3 hn)⟩
 simp[Instr.indexAt,asIntOf,jc,qj k4 w,h0,h1,run_sizeOf hi,hsz,Bo,Instr.sureAddr]
theorem a7Z {s:TypeId} {ty:Ty} {m:Nat} {ys:List ty.den} {n:Int} {kd:IntKind} {vc:List Prop} {kk:K} {v:Value} (hb:qX P s (some m) ty=true) (h:b3K ty ys m n=some (vc,kk)) (hc:bY vc) (hv:(K.val (.arr m ty) ys).holds E ρ w v):∃ u,(Instr.index s v (.int kd n)).run P w=.ok u w/\kk.holds E ρ w u:=by
 simp only[b3K,ah,dh] at h
 obtain⟨rfl,rfl⟩:=h
 obtain⟨h0,h1,_⟩:=hc
 obtain⟨cs,rfl,kl,k3⟩:=hv
 have hn:n.toNat<List.length (α:=ty.den) ys:=by have:List.length (α:=ty.den) ys=m:=kl;omega
 obtain⟨e,k4,k5⟩:=MP hb
 obtain⟨⟨i2,hi,hsz⟩,_⟩:=iI k5
 have hr:=JV k3 hn
 refine⟨_,?_,_,rfl,hr⟩
 have:=wU k5 hr
 change (Instr.index s (.agg cs.toArray) (.int kd n)).run P w=_
 simp[Instr.index,asIntOf,qj k4 w,h0,h1,run_sizeOf hi,hsz,jc,this]
theorem b3M {op:BinOp} {t:TypeId} {k:IntKind} {a b:Int} {x y:Operand} {vc:List Prop} {kk:K} (h:b0x op k a b=some (vc,kk)) (hc:bY vc):∃ u,(do eqGuard op t x y (.int k a) (.int k b);binOp op t (.int k a) (.int k b):Sem Value).run P w=.ok u w/\kk.holds E ρ w u:=by
 cases op<;>simp only[b0x,ah,dh] at h<;>first|(cases h;done)|obtain⟨rfl,rfl⟩:=h
 case quo=>exact⟨.int k (k.wrap (a.tdiv b)),by have:=hc.1;simp[eqGuard,binOp,Op.intDiv,jc,this],mG _ _⟩
 case rem=>exact⟨.int k (a.tmod b),by have:=hc.1;simp[eqGuard,binOp,Op.intDiv,jc,this],mG _ _⟩
 case eql=>exact⟨.bool (a==b),by simp[eqGuard,binOp,Op.intCmp,jc],kW _⟩
 case neq=>exact⟨.bool (a != b),by simp[eqGuard,binOp,Op.intCmp,jc],kW _⟩
 case add=>exact⟨.int k (k.wrap (a+b)),by simp[eqGuard,binOp,Op.intArith,jc],mG _ _⟩
 case sub=>exact⟨.int k (k.wrap (a-b)),by simp[eqGuard,binOp,Op.intArith,jc],mG _ _⟩
 case mul=>exact⟨.int k (k.wrap (a*b)),by simp[eqGuard,binOp,Op.intArith,jc],mG _ _⟩
 case lss=>exact⟨.bool (decide (a<b)),by simp[eqGuard,binOp,Op.intCmp,jc],kW _⟩
 case leq=>exact⟨.bool (decide (a<=b)),by simp[eqGuard,binOp,Op.intCmp,jc],kW _⟩
 case gtr=>exact⟨.bool (decide (a > b)),by simp[eqGuard,binOp,Op.intCmp,jc],kW _⟩
 case geq=>exact⟨.bool (decide (a ≥ b)),by simp[eqGuard,binOp,Op.intCmp,jc],kW _⟩
theorem b4h {op:BinOp} {t e:TypeId} {b:Bool} {p:Option Addr} {n c:Nat} {x y:Operand} {vc:List Prop} {kk:K} (hu:P.underlying t=some (.slice e)) (hp:p.isNone=!b) (h:b4g op b=some (vc,kk)):∃ u,(do eqGuard op t x y (.slice p n c) (.slice none 0 0);binOp op t (.slice p n c) (.slice none 0 0):Sem Value).run P w=.ok u w/\kk.holds E ρ w u:=by
 cases op<;>simp only[b4g,ah,dh] at h<;>first|(cases h;done)|obtain⟨rfl,rfl⟩:=h
 ·exact⟨.bool (!b),by simp[eqGuard,binOp,jc,run_equal_slice_nil w t e p n c hu,hp],kW _⟩
 ·exact⟨.bool b,by simp[eqGuard,binOp,jc,run_equal_slice_nil w t e p n c hu,hp],kW _⟩
theorem WY {t:TypeId} (hsl:sQ P t=true):∃ e,P.underlying t=some (.slice e):=by
 unfold sQ at hsl
 split at hsl
 ·rename_i e he;exact⟨e,he⟩
 ·cases hsl
theorem b6e {op:BinOp} {t:TypeId} {a b:Bool} {x y:Operand} {vc:List Prop} {kk:K} (hu:P.underlying t=some .bool) (h:eqB op a b=some (vc,kk)):∃ u,(do eqGuard op t x y (.bool a) (.bool b);binOp op t (.bool a) (.bool b):Sem Value).run P w=.ok u w/\kk.holds E ρ w u:=by
 cases op<;>simp only[eqB,ah,dh] at h<;>first|(cases h;done)|obtain⟨rfl,rfl⟩:=h
 ·exact⟨.bool (a==b),by simp[eqGuard,binOp,jc,run_equal_bool w t a b hu],kW _⟩
 ·exact⟨.bool (a != b),by simp[eqGuard,binOp,jc,run_equal_bool w t a b hu];cases a<;>cases b<;>rfl,kW _⟩
theorem iK {s:Sem Value} {o:Oper} {ev:Operand->Value} {kk:K} (he:execOp ev o=(do pure (.value (<-s)))) (h:∃ u,s.run P w=.ok u w/\kk.holds E ρ w u):BK P E ρ w o ev kk:=by
 obtain⟨u,h1,h2⟩:=h
 exact⟨u,by rw[he,jc,h1];simp,h2⟩
theorem b0R {F:Nat->Prop}:∀ {ks:List K0} {vs:List Value} {i:Nat} {k:K0},pK F E ρ w ks vs->ks[i]?=some k->∃ v,vs[i]?=some v/\a6s F E ρ w k v
 | [],_,i,k,_,h=>by simp at h
 | k'::ks,_,0,k,⟨v,vs',h1,h2,_⟩,h=>by
  simp at h
  subst h
  exact⟨v,by rw[h1];rfl,h2⟩
 | k'::ks,_,i+1,k,⟨v,vs',h1,h2,h3⟩,h=>by
  obtain⟨u,k1,k2⟩:=b0R (i:=i) h3 (by simpa using h)
  exact⟨u,by rw[h1];exact k1,k2⟩
theorem a4o {s:TypeId} (h:a6b P s=true):∃ e,P.underlying s=some (.slice e)/\fitsT P e (.int .u32)=true:=by
 unfold a6b at h
 split at h<;>try(cases h;done)
 rename_i e he
 exact⟨e,he,h⟩
theorem WX {s:TypeId} {l:List Nat} {n:Int} {kd:IntKind} {vc:List Prop} {kk:K} {v:Value} (hb:a6b P s=true) (h:a5Z l n=some (vc,kk)) (hc:bY vc) (hv:(K.val (.lf .gsl) l).holds E ρ w v):∃ u,(Instr.indexAt s v (.int kd n)).run P w=.ok u w/\kk.holds E ρ w u:=by
 simp only[a5Z,ah,dh] at h
 obtain⟨rfl,rfl⟩:=h
 obtain⟨h0,h1,_⟩:=hc
 obtain⟨e,he,hf⟩:=a4o hb
 obtain⟨⟨i,hi,hs⟩,_⟩:=iI hf
 obtain⟨cs,rfl,sv,rfl,hr⟩:=hv
 obtain⟨n',rfl⟩:∃ n':Nat,n=n':=⟨n.toNat,by omega⟩
 have hlt:n'<l.length:=by omega
 rcases hr with⟨_,_,hl⟩|⟨b,o,c,rfl,k2,k3,k4,k5⟩
 ·rw[hl] at hlt;simp at hlt
 ·refine⟨.pointer (some ⟨b,o+n',none⟩),?_,[.pointer (some ⟨b,o+n',none⟩)],rfl,b,o+n',rfl,?_⟩
  ·have hs:i.size=1:=hs
   simp[Instr.indexAt,asIntOf,jc,qj he w,Ty.toV,Ty.agg,Lf.agg,run_sizeOf hi,hs,Bo,hlt,show (0:Int)<=(n':Int) from ql _,show (n':Int)<(l.length:Int) from by omega]
  ·have:=k5 n' hlt
   rw[this,Int.toNat_natCast]
   rfl
theorem a8p {k:Operand->K} {ev:Operand->Value} {o:Oper} {vc:List Prop} {kk:K} (h:gI P k o.op=some (vc,kk)) (hv:bY vc) (hk:∀ x,(k x).holds E ρ w (ev x)):BK P E ρ w o ev kk:=by
 cases ho:o.op<;>rw[ho] at h<;>try (simp[gI] at h;done)
 case move x =>
  simp only[gI,ah,dh] at h
  obtain⟨_,rfl⟩:=h
  exact⟨ev x,by simp[execOp,ho],hk x⟩
 case assign x =>
  simp only[gI,ah,dh] at h
  obtain⟨_,rfl⟩:=h
  exact⟨ev x,by simp[execOp,ho],hk x⟩
 case pick c a b =>
  simp only[gI] at h
  split at h<;>try(cases h;done)
  rename_i cb hcb
  have h1:=hk c
  rw[hcb] at h1
  have h2:=tH h1
  exact⟨_,by simp[execOp,ho,h2,asBool,jc];rfl,b1n h hv (hk a) (hk b)⟩
 case load t x =>
  simp only[gI] at h
  split at h<;>try(cases h;done)
  ·rename_i ty y hx
   split at h<;>try(cases h;done)
   rename_i hf
   simp only[ah,dh] at h
   obtain⟨_,rfl⟩:=h
   have h1:=hk x
   rw[hx] at h1
   obtain⟨b,oo,ds,h2,k1,k2,k3⟩:=FK h1
   refine iK (by simp only[execOp,ho];rfl) ⟨_,?_,ds,rfl,k3⟩
   rw[h2]
   simp only[Instr.loadAt,Instr.sureAddr,jc,Sem.run_pure,Result.andThen_ok]
   exact lD hf k2 k3
  ·rename_i y hx
   split at h<;>try(cases h;done)
   rename_i hf
   simp only[ah,dh] at h
   obtain⟨_,rfl⟩:=h
   have h1:=hk x
   rw[hx] at h1
   obtain⟨cs,h2,b,oo,rfl,k2⟩:=h1
   refine iK (by simp only[execOp,ho];rfl) ⟨_,?_,[.int .u32 (Nat.cast (R:=Int) y)],rfl,rfl⟩
   rw[h2]
   simp only[Instr.loadAt,Ty.toV,Ty.agg,Lf.agg,zu,if_false,List.headD_cons,Instr.sureAddr,jc,Sem.run_pure,Result.andThen_ok]
   exact lD (F:=fun _=>True) (x:=(Nat.cast (R:=Int) y)) hf (fun j v hv=>by
    cases j with
    | zero=>simp at hv;rw[<-hv];exact k2
    | succ j=>simp at hv) rfl
 case fieldAddr s x i =>
  simp only[gI] at h
  split at h<;>try(cases h;done)
  rename_i ty y hx
  have h1:=hk x
  rw[hx] at h1
  exact iK (by simp only[execOp,ho]) (a2m h h1)
 case field s x i =>
  simp only[gI] at h
  split at h<;>try(cases h;done)
  rename_i ty y hx
  have h1:=hk x
  rw[hx] at h1
  exact iK (by simp only[execOp,ho]) (a7Q h h1)
 case indexAddr s x i =>
  simp only[gI] at h
  have h1:=hk x
  have h2:=hk i
  split at h<;>try(cases h;done)
  all_goals
   rename_i hx hi
   split at h<;>try(cases h;done)
   rename_i hb
   rw[hx] at h1
   rw[hi] at h2
   refine iK (by simp only[execOp,ho];rfl) ?_
   rw[mJ h2]
  ·exact CX hb h hv h1
  ·exact WW hb h hv h1
  ·exact WX hb h hv h1
 case index s x i =>
  simp only[gI] at h
  have h1:=hk x
  have h2:=hk i
  split at h<;>try(cases h;done)
  rename_i hx hi
  split at h<;>try(cases h;done)
  rename_i hb
  rw[hx] at h1
  rw[hi] at h2
  refine iK (by simp only[execOp,ho];rfl) ?_
  rw[mJ h2]
  exact a7Z hb h hv h1
 case extract x i =>
  simp only[gI] at h
  have h1:=hk x
  split at h<;>try(cases h;done)
  ·rename_i ts y hx
   split at h<;>try(cases h;done)
   rename_i p hp
   simp only[ah,dh] at h
   obtain⟨_,rfl⟩:=h
   rw[hx] at h1
   obtain⟨vs,h2,h3⟩:=h1
   obtain⟨u,k1,k2⟩:=ZR ts y i p vs hp h3
   refine iK (by simp only[execOp,ho];rfl) ⟨u,?_,k2⟩
   rw[h2]
   simp[Instr.extract,k1]
  ·rename_i ks hx
   rw[hx] at h1
   obtain⟨vs,h2,h3⟩:=h1
   split at h<;>try(cases h;done)
   rename_i hks
   simp only[ah,dh] at h
   obtain⟨_,rfl⟩:=h
   obtain⟨u,k1,k2⟩:=b0R h3 hks
   refine iK (by simp only[execOp,ho];rfl) ⟨u,?_,EY.1 k2⟩
   rw[h2]
   simp[Instr.extract,k1]
 case binOp op t x y yt =>
  simp only[gI] at h
  have h1:=hk x
  have h2:=hk y
  split at h<;>try(cases h;done)
  ·rename_i ka a kb b hx hy
   split at h<;>try(cases h;done)
   rename_i he
   subst he
   rw[hx] at h1
   rw[hy] at h2
   refine iK (by simp only[execOp,ho];rfl) ?_
   rw[mJ h1,mJ h2]
   exact b3M h hv
  ·rename_i a b hx hy
   split at h<;>try(cases h;done)
   rename_i hb
   rw[hx] at h1
   rw[hy] at h2
   have hu:P.underlying t=some .bool:=by
    unfold a6p at hb
    split at hb
    ·assumption
    ·cases hb
   refine iK (by simp only[execOp,ho];rfl) ?_
   rw[tH h1,tH h2]
   exact b6e hu h
  ·rename_i ty z hx hy
   split at h<;>try(cases h;done)
   rename_i hb
   rw[hx] at h1
   rw[hy] at h2
   obtain⟨e,hu⟩:=WY hb
   obtain⟨p,c,e1,e2⟩:=a7s h1
   refine iK (by simp only[execOp,ho];rfl) ?_
   rw[e1,show ev y=.slice none 0 0 from h2]
   exact b4h hu e2 h
 case unOp op t x =>
  have h1:=hk x
  cases op<;>simp only[gI] at h<;>try(cases h;done)
  case not =>
   split at h<;>try(cases h;done)
   rename_i b hx
   simp only[b6Z,ah,dh] at h
   obtain⟨_,rfl⟩:=h
   rw[hx] at h1
   refine iK (by simp only[execOp,ho];rfl) ⟨_,?_,kW _⟩
   rw[tH h1]
   rfl
  case neg =>
   split at h<;>try(cases h;done)
   rename_i kd n hx
   simp only[b6W,ZW,ah,dh] at h
   obtain⟨_,rfl⟩:=h
   rw[hx] at h1
   refine iK (by simp only[execOp,ho];rfl) ⟨_,?_,mG _ _⟩
   rw[mJ h1]
   rfl
 case convert s t x =>
  simp only[gI] at h
  have h1:=hk x
  split at h<;>try(cases h;done)
  rename_i kd n kk' hx hi
  simp only[ZW,ah,dh] at h
  obtain⟨_,rfl⟩:=h
  rw[hx] at h1
  refine iK (by simp only[execOp,ho];rfl) ⟨_,?_,mG _ _⟩
  rw[mJ h1]
  unfold c2n at hi
  split at hi<;>first|(cases hi;done)|skip
  rename_i d k' hs ht
  cases hi
  simp[convert,jc,qj hs w,qj ht w,Conv.intToInt]
 case nilCheck x =>
  simp only[gI] at h
  have h1:=hk x
  split at h<;>try(cases h;done)
  ·rename_i t y hx
   simp only[ah,dh] at h
   obtain⟨_,rfl⟩:=h
   rw[hx] at h1
   obtain⟨b,oo,ds,h2,k⟩:=FK h1
   exact⟨ev x,by simp[execOp,ho,h2],h1⟩
  ·rename_i f t y hx
   simp only[ah,dh] at h
   obtain⟨_,rfl⟩:=h
   rw[hx] at h1
   obtain⟨cs,h2,ds,h3,k⟩:=h1
   exact⟨ev x,by simp[execOp,ho,h2,h3,Ty.toV,Ty.agg],cs,h2,ds,h3,k⟩
 case call c =>
  obtain⟨cl,xs,ts⟩:=c
  cases cl<;>try (simp[gI] at h;done)
  rename_i bi
  cases bi<;>try (simp[gI] at h;done)
  simp only[gI] at h
  split at h<;>try(cases h;done)
  rename_i x t hxs hts
  have exs:xs=#[x]:=by rw[<-Array.toArray_toList (xs:=xs),hxs]
  have ets:ts=#[t]:=by rw[<-Array.toArray_toList (xs:=ts),hts]
  subst exs ets
  have h1:=hk x
  split at h<;>try(cases h;done)
  rename_i hsl
  have hu:∃ e,P.underlying t=some (.slice e):=by
   unfold sQ at hsl
   split at hsl
   ·rename_i e he;exact⟨e,he⟩
   ·cases hsl
  obtain⟨e,hu⟩:=hu
  split at h<;>try(cases h;done)
  ·rename_i ty ys hx
   simp only[NS,ah,dh] at h
   obtain⟨_,rfl⟩:=h
   rw[hx] at h1
   obtain⟨p,c,h2,_⟩:=ED h1
   exact⟨_,by simp[execOp,ho,resolve,invoke,builtin,jc,h2,Builtin.len_,qj hu w,goInt],mG _ _⟩
  ·rename_i l hx
   simp only[b6N,ah,dh] at h
   obtain⟨_,rfl⟩:=h
   rw[hx] at h1
   obtain⟨cs,h2,sv,rfl,hr⟩:=h1
   obtain⟨p,c,rfl,_,_⟩:=hr.form
   have h2:ev x=.slice p l.length c:=h2
   exact⟨_,by simp[execOp,ho,resolve,invoke,builtin,jc,h2,Builtin.len_,qj hu w,goInt],mG _ _⟩
  ·rename_i hx
   simp only[NS,ah,dh] at h
   obtain⟨_,rfl⟩:=h
   rw[hx] at h1
   have h2:ev x=.slice none 0 0:=h1
   exact⟨_,by simp[execOp,ho,resolve,invoke,builtin,jc,h2,Builtin.len_,qj hu w,goInt],mG _ _⟩
  ·rename_i ty ys hx
   simp only[NS,ah,dh] at h
   obtain⟨_,rfl⟩:=h
   rw[hx] at h1
   obtain⟨p,c,h2,_⟩:=a7s h1
   exact⟨_,by simp[execOp,ho,resolve,invoke,builtin,jc,h2,Builtin.len_,qj hu w,goInt],mG _ _⟩
end
end
set_option linter.unusedSimpArgs false
set_option linter.unusedVariables false
set_option maxRecDepth 20000
def QC (w:World) (u0 u1 u2 u3:Value) (K:Nat) (ok:Bool) (q:Rat):Prop :=
 ∃ g p n c h p' n' c',u0=.bool g/\u1=.slice p n c/\u2=.bool h/\u3=.slice p' n' c'/\iE w (.agg #[.bool g,.slice p n c,.bool h,.slice p' n' c']) ok q/\n<=K/\n'<=K
theorem QC.below {w w':World} {u0 u1 u2 u3:Value} {K:Nat} {ok:Bool} {q:Rat} (h:QC w u0 u1 u2 u3 K ok q) (hb:Below w.heap.size w w'):QC w' u0 u1 u2 u3 K ok q:=by
 obtain⟨g,p,n,c,h,p',n',c',e0,e1,e2,e3,hq,k⟩:=h
 exact⟨g,p,n,c,h,p',n',c',e0,e1,e2,e3,hq.below hb,k⟩
theorem QC.iV {w:World} {u0 u1 u2 u3:Value} {K:Nat} {ok:Bool} {q:Rat} (h:QC w u0 u1 u2 u3 K ok q) {a:Addr} {u:Value} (hc:w.cell? a=some u) (hu:bM u=true) (u':Value):QC (w.setCell a u') u0 u1 u2 u3 K ok q:=by
 obtain⟨g,p,n,c,h,p',n',c',e0,e1,e2,e3,hq,k⟩:=h
 exact⟨g,p,n,c,h,p',n',c',e0,e1,e2,e3,hq.iV hc hu u',k⟩
theorem QC.nu {w:World} {u0 u1 u2 u3:Value} {K:Nat} {ok:Bool} {q:Rat} (h:QC w u0 u1 u2 u3 K ok q):bM u0=true/\bM u1=true/\bM u2=true/\bM u3=true:=by
 obtain⟨g,p,n,c,h,p',n',c',rfl,rfl,rfl,rfl,hq,k⟩:=h
 exact⟨rfl,rfl,rfl,rfl⟩
theorem QC.mono {w:World} {u0 u1 u2 u3:Value} {K K':Nat} {ok:Bool} {q:Rat} (h:QC w u0 u1 u2 u3 K ok q) (hK:K<=K'):QC w u0 u1 u2 u3 K' ok q:=by
 obtain⟨g,p,n,c,h,p',n',c',e0,e1,e2,e3,hq,k,k'⟩:=h
 exact⟨g,p,n,c,h,p',n',c',e0,e1,e2,e3,hq,by omega,by omega⟩
theorem QC.of {w:World} {g h:Bool} {p p':Option Addr} {n c n' c' K:Nat} {q:Rat} (hq:RQ w (.agg #[.bool g,.slice p n c,.bool h,.slice p' n' c']) q) (hK:rsz q<=K):QC w (.bool g) (.slice p n c) (.bool h) (.slice p' n' c') K true q:=by
 have hn:=hq.qn hK
 obtain⟨_,_,_,_,_,_,_,_,e,l1,l2⟩:=hn
 simp only[Value.agg.injEq,Array.mk.injEq,List.cons.injEq,Value.slice.injEq,Value.bool.injEq] at e
 obtain⟨rfl,⟨rfl,rfl,rfl⟩,rfl,⟨rfl,rfl,rfl⟩,_⟩:=e
 exact⟨g,p,_,c,h,p',_,c',rfl,rfl,rfl,rfl,hq.raw,l1,l2⟩
theorem QC.zero (w:World) (K:Nat):QC w (.bool false) (.slice none 0 0) (.bool false) (.slice none 0 0) K false 0:=by
 refine⟨false,none,0,0,false,none,0,0,rfl,rfl,rfl,rfl,⟨_,_,_,_,true,true,0,0,rfl,?_,?_,?_,by simp⟩,by omega,by omega⟩
 ·exact⟨false,_,[],rfl,.inl ⟨none,rfl,rfl⟩,by simp,by simp[cnt,yP],by simp[yP]⟩
 ·exact⟨false,_,[],rfl,.inl ⟨none,rfl,rfl⟩,by simp,by simp[cnt,yP],by simp[yP]⟩
 ·simp
theorem QC.open {w:World} {u0 u1 u2 u3:Value} {K:Nat} {ok:Bool} {q:Rat} (h:QC w u0 u1 u2 u3 K ok q):∃ g p n c h p' n' c',u0=.bool g/\u1=.slice p n c/\u2=.bool h/\u3=.slice p' n' c'/\iE w (.agg #[.bool g,.slice p n c,.bool h,.slice p' n' c']) ok q/\Qn (.agg #[.bool g,.slice p n c,.bool h,.slice p' n' c']) K:=by
 obtain⟨g,p,n,c,h,p',n',c',e0,e1,e2,e3,hq,k,k'⟩:=h
 exact⟨g,p,n,c,h,p',n',c',e0,e1,e2,e3,hq,⟨_,_,_,_,_,_,_,_,rfl,k,k'⟩⟩
def wB (w:World) (s:Value) (n K:Nat) (ok:Nat->Bool) (e:Nat->Rat):Prop :=
 ∃ p c,s=.slice p n c/\n<=c/\c<=9223372036854775807/\(0<n->∃ b o,p=some ⟨b,o,none⟩/\b<w.heap.size/\∀ i,i<n->∃ u0 u1 u2 u3,w.cell? ⟨b,o+i*4,none⟩=some u0/\w.cell? ⟨b,o+i*4+1,none⟩=some u1/\w.cell? ⟨b,o+i*4+2,none⟩=some u2/\w.cell? ⟨b,o+i*4+3,none⟩=some u3/\QC w u0 u1 u2 u3 K (ok i) (e i))
theorem wB.below {w w':World} {s:Value} {n K:Nat} {ok:Nat->Bool} {e:Nat->Rat} (h:wB w s n K ok e) (hb:Below w.heap.size w w'):wB w' s n K ok e:=by
 obtain⟨p,c,hs,h1,h2,h3⟩:=h
 refine⟨p,c,hs,h1,h2,fun hn=>?_⟩
 obtain⟨b,o,hp,hlt,hi⟩:=h3 hn
 have hc:=(gW hb).1
 refine⟨b,o,hp,ni hlt hb.size,fun i hin=>?_⟩
 obtain⟨u0,u1,u2,u3,c0,c1,c2,c3,hq⟩:=hi i hin
 exact⟨u0,u1,u2,u3,by rw[hc _ _ hlt];exact c0,by rw[hc _ _ hlt];exact c1,by rw[hc _ _ hlt];exact c2,by rw[hc _ _ hlt];exact c3,hq.below hb⟩
theorem wB.form {w:World} {s:Value} {n K:Nat} {ok:Nat->Bool} {e:Nat->Rat} (h:wB w s n K ok e):∃ p c,s=.slice p n c/\n<=c/\c<=9223372036854775807:=by
 obtain⟨p,c,hs,h1,h2,h3⟩:=h
 exact⟨p,c,hs,h1,h2⟩
theorem wB.congr {w:World} {s:Value} {n K:Nat} {ok ok':Nat->Bool} {e e':Nat->Rat} (h:wB w s n K ok e) (h1:∀ i,i<n->ok i=ok' i) (h2:∀ i,i<n->e i=e' i):wB w s n K ok' e':=by
 obtain⟨p,c,hs,k1,k2,h3⟩:=h
 refine⟨p,c,hs,k1,k2,fun hn=>?_⟩
 obtain⟨b,o,hp,hlt,hi⟩:=h3 hn
 refine⟨b,o,hp,hlt,fun i hin=>?_⟩
 rw[<-h1 i hin,<-h2 i hin]
 exact hi i hin
theorem wB.mono {w:World} {s:Value} {n K K':Nat} {ok:Nat->Bool} {e:Nat->Rat} (h:wB w s n K ok e) (hK:K<=K'):wB w s n K' ok e:=by
 obtain⟨p,c,hs,k1,k2,h3⟩:=h
 refine⟨p,c,hs,k1,k2,fun hn=>?_⟩
 obtain⟨b,o,hp,hlt,hi⟩:=h3 hn
 refine⟨b,o,hp,hlt,fun i hin=>?_⟩
 obtain⟨u0,u1,u2,u3,c0,c1,c2,c3,hq⟩:=hi i hin
 exact⟨u0,u1,u2,u3,c0,c1,c2,c3,hq.mono hK⟩
theorem wB.at_ {w:World} {p:Option Addr} {n c K:Nat} {ok:Nat->Bool} {e:Nat->Rat} (h:wB w (.slice p n c) n K ok e) {k:Nat} (hk:k<n) :
  ∃ b o g q m d g' q' m' d',p=some ⟨b,o,none⟩/\b<w.heap.size/\w.cell? ⟨b,o+k*4,none⟩=some (.bool g)/\w.cell? ⟨b,o+k*4+1,none⟩=some (.slice q m d)/\w.cell? ⟨b,o+k*4+2,none⟩=some (.bool g')/\w.cell? ⟨b,o+k*4+3,none⟩=some (.slice q' m' d') /\
   iE w (.agg #[.bool g,.slice q m d,.bool g',.slice q' m' d']) (ok k) (e k)/\Qn (.agg #[.bool g,.slice q m d,.bool g',.slice q' m' d']) K:=by
 obtain⟨p',c',hs,h1,h2,h3⟩:=h
 cases hs
 obtain⟨b,o,hp,hlt,hi⟩:=h3 (by omega)
 obtain⟨u0,u1,u2,u3,c0,c1,c2,c3,hq⟩:=hi k hk
 obtain⟨g,q,m,d,g',q',m',d',rfl,rfl,rfl,rfl,hr,hn⟩:=hq.open
 exact⟨b,o,g,q,m,d,g',q',m',d',hp,hlt,c0,c1,c2,c3,hr,hn⟩
def BI (w:World) (v:Value) (R:Nat) (L:Nat->Nat) (K:Nat) (ok:Nat->Nat->Bool) (e:Nat->Nat->Rat):Prop :=
 ∃ p c,v=.slice p R c/\R<=c/\c<=9223372036854775807/\(0<R->∃ b o,p=some ⟨b,o,none⟩/\b<w.heap.size/\∀ i,i<R->∃ s,w.cell? ⟨b,o+i,none⟩=some s/\wB w s (L i) K (ok i) (e i))
theorem BI.below {w w':World} {v:Value} {R K:Nat} {L:Nat->Nat} {ok:Nat->Nat->Bool} {e:Nat->Nat->Rat} (h:BI w v R L K ok e) (hb:Below w.heap.size w w'):BI w' v R L K ok e:=by
 obtain⟨p,c,hs,h1,h2,h3⟩:=h
 refine⟨p,c,hs,h1,h2,fun hn=>?_⟩
 obtain⟨b,o,hp,hlt,hi⟩:=h3 hn
 have hc:=(gW hb).1
 refine⟨b,o,hp,ni hlt hb.size,fun i hin=>?_⟩
 obtain⟨s,c0,hr⟩:=hi i hin
 exact⟨s,by rw[hc _ _ hlt];exact c0,hr.below hb⟩
theorem BI.form {w:World} {v:Value} {R K:Nat} {L:Nat->Nat} {ok:Nat->Nat->Bool} {e:Nat->Nat->Rat} (h:BI w v R L K ok e):∃ p c,v=.slice p R c/\R<=c/\c<=9223372036854775807:=by
 obtain⟨p,c,hs,h1,h2,h3⟩:=h
 exact⟨p,c,hs,h1,h2⟩
theorem BI.congr {w:World} {v:Value} {R K:Nat} {L L':Nat->Nat} {ok ok':Nat->Nat->Bool} {e e':Nat->Nat->Rat} (h:BI w v R L K ok e) (hL:∀ i,i<R->L i=L' i) (h1:∀ i,i<R->∀ j,j<L i->ok i j=ok' i j) (h2:∀ i,i<R->∀ j,j<L i->e i j=e' i j):BI w v R L' K ok' e':=by
 obtain⟨p,c,hs,k1,k2,h3⟩:=h
 refine⟨p,c,hs,k1,k2,fun hn=>?_⟩
 obtain⟨b,o,hp,hlt,hi⟩:=h3 hn
 refine⟨b,o,hp,hlt,fun i hin=>?_⟩
 obtain⟨s,c0,hr⟩:=hi i hin
 rw[<-hL i hin]
 exact⟨s,c0,hr.congr (h1 i hin) (h2 i hin)⟩
theorem BI.mono {w:World} {v:Value} {R K K':Nat} {L:Nat->Nat} {ok:Nat->Nat->Bool} {e:Nat->Nat->Rat} (h:BI w v R L K ok e) (hK:K<=K'):BI w v R L K' ok e:=by
 obtain⟨p,c,hs,k1,k2,h3⟩:=h
 refine⟨p,c,hs,k1,k2,fun hn=>?_⟩
 obtain⟨b,o,hp,hlt,hi⟩:=h3 hn
 refine⟨b,o,hp,hlt,fun i hin=>?_⟩
 obtain⟨s,c0,hr⟩:=hi i hin
 exact⟨s,c0,hr.mono hK⟩
theorem BI.at_ {w:World} {p:Option Addr} {R c K:Nat} {L:Nat->Nat} {ok:Nat->Nat->Bool} {e:Nat->Nat->Rat} (h:BI w (.slice p R c) R L K ok e) {k:Nat} (hk:k<R) :
  ∃ b o q d,p=some ⟨b,o,none⟩/\b<w.heap.size/\w.cell? ⟨b,o+k,none⟩=some (.slice q (L k) d)/\wB w (.slice q (L k) d) (L k) K (ok k) (e k):=by
 obtain⟨p',c',hs,h1,h2,h3⟩:=h
 cases hs
 obtain⟨b,o,hp,hlt,hi⟩:=h3 (by omega)
 obtain⟨s,c0,hr⟩:=hi k hk
 obtain⟨q,d,rfl,_,_⟩:=hr.form
 exact⟨b,o,q,d,hp,hlt,c0,hr⟩
def a4c (w:World) (v:Value) (R C K:Nat) (e:Nat->Nat->Rat):Prop:=BI w v R (fun _=>C) K (fun _ _=>true) e
def WO (w:World) (v:Value) (n K:Nat) (e:Nat->Rat):Prop:=wB w v n K (fun _=>true) e
def qQ (w:World) (b n K:Nat) (ok:Nat->Bool) (e:Nat->Rat):Prop :=
 ∃ f,w.rowIs b 64 (n*4) f/\∀ j,j<n->QC w (f (j*4)) (f (j*4+1)) (f (j*4+2)) (f (j*4+3)) K (ok j) (e j)
theorem qQ.lt {w:World} {b n K:Nat} {ok:Nat->Bool} {e:Nat->Rat} (h:qQ w b n K ok e):b<w.heap.size:=by
 obtain⟨f,h1,h2⟩:=h;exact h1.lt
theorem qQ.below {w w':World} {b n K m:Nat} {ok:Nat->Bool} {e:Nat->Rat} (h:qQ w b n K ok e) (hb:Below w.heap.size w w'):qQ w' b n K ok e:=by
 obtain⟨f,h1,h2⟩:=h
 exact⟨f,h1.of_block (hb.block b h1.lt),fun j hj=>(h2 j hj).below hb⟩
theorem qQ.cells {w:World} {b n K:Nat} {ok:Nat->Bool} {e:Nat->Rat} (h:qQ w b n K ok e) {k:Nat} (hk:k<n) :
  ∃ g q m d g' q' m' d',w.cell? ⟨b,k*4,none⟩=some (.bool g)/\w.cell? ⟨b,k*4+1,none⟩=some (.slice q m d)/\w.cell? ⟨b,k*4+2,none⟩=some (.bool g')/\w.cell? ⟨b,k*4+3,none⟩=some (.slice q' m' d') /\
   iE w (.agg #[.bool g,.slice q m d,.bool g',.slice q' m' d']) (ok k) (e k)/\Qn (.agg #[.bool g,.slice q m d,.bool g',.slice q' m' d']) K:=by
 obtain⟨f,h1,h2⟩:=h
 obtain⟨g,q,m,d,g',q',m',d',e0,e1,e2,e3,hr,hn⟩:=(h2 k hk).open
 exact⟨g,q,m,d,g',q',m',d',by rw[<-e0];exact h1.cell (by omega),by rw[<-e1];exact h1.cell (by omega),by rw[<-e2];exact h1.cell (by omega),by rw[<-e3];exact h1.cell (by omega),hr,hn⟩
theorem qQ.frozen {w:World} {b n K:Nat} {ok:Nat->Bool} {e:Nat->Rat} (h:qQ w b n K ok e) (i:Nat):w.frozen? ⟨b,i,none⟩=false:=by
 obtain⟨f,h1,h2⟩:=h;exact h1.frozen i
theorem qQ.other {w:World} {b n K:Nat} {ok:Nat->Bool} {e:Nat->Rat} (h:qQ w b n K ok e) {b' o':Nat} (hne:b≠b') {u:Value} (hc:w.cell? ⟨b',o',none⟩=some u) (hu:bM u=true) (x:Value):qQ (w.setCell ⟨b',o',none⟩ x) b n K ok e:=by
 obtain⟨f,h1,h2⟩:=h
 exact⟨f,h1.setOther (by simpa using hne) x,fun j hj=>(h2 j hj).iV hc hu x⟩
def st4 (w:World) (b o:Nat) (x0 x1 x2 x3:Value):World:=(((w.setCell ⟨b,o,none⟩ x0).setCell ⟨b,o+1,none⟩ x1).setCell ⟨b,o+2,none⟩ x2).setCell ⟨b,o+3,none⟩ x3
theorem QC.b4L {w:World} {y0 y1 y2 y3:Value} {K:Nat} {ok:Bool} {q:Rat} (h:QC w y0 y1 y2 y3 K ok q) {b o:Nat} {u0 u1 u2 u3:Value} (c0:w.cell? ⟨b,o,none⟩=some u0) (c1:w.cell? ⟨b,o+1,none⟩=some u1) (c2:w.cell? ⟨b,o+2,none⟩=some u2) (c3:w.cell? ⟨b,o+3,none⟩=some u3)
  (n0:bM u0=true) (n1:bM u1=true) (n2:bM u2=true) (n3:bM u3=true) (x0 x1 x2 x3:Value):QC (st4 w b o x0 x1 x2 x3) y0 y1 y2 y3 K ok q:=by
 refine(((h.iV c0 n0 x0).iV (a:=⟨b,o+1,none⟩) (u:=u1) ?_ n1 x1).iV (a:=⟨b,o+2,none⟩) (u:=u2) ?_ n2 x2).iV (a:=⟨b,o+3,none⟩) (u:=u3) ?_ n3 x3
 ·rw[tq _ _ _ _ (by simp)];exact c1
 ·rw[tq _ _ _ _ (by simp),tq _ _ _ _ (by simp)];exact c2
 ·rw[tq _ _ _ _ (by simp),tq _ _ _ _ (by simp),tq _ _ _ _ (by simp)];exact c3
theorem qQ.b4L {w:World} {b n K:Nat} {ok:Nat->Bool} {e:Nat->Rat} (h:qQ w b n K ok e) {k:Nat} (hk:k<n) {x0 x1 x2 x3:Value} {q:Rat} (hq:QC w x0 x1 x2 x3 K true q) :
  qQ (st4 w b (k*4) x0 x1 x2 x3) b n K (fun j=>if j=k then true else ok j) (fun j=>if j=k then q else e j):=by
 obtain⟨f,h1,h2⟩:=h
 refine⟨_,(((h1.set (k*4) x0).set (k*4+1) x1).set (k*4+2) x2).set (k*4+3) x3,fun j hj=>?_⟩
 have N:=(h2 k hk).nu
 have hc:∀ i,i<4->w.cell? ⟨b,k*4+i,none⟩=some (f (k*4+i)):=fun i hi=>h1.cell (by omega)
 have S:=fun {y0 y1 y2 y3:Value} {ok':Bool} {q':Rat} (g:QC w y0 y1 y2 y3 K ok' q')=>g.b4L (b:=b) (o:=k*4) (hc 0 (by omega)) (hc 1 (by omega)) (hc 2 (by omega)) (hc 3 (by omega)) N.1 N.2.1 N.2.2.1 N.2.2.2 x0 x1 x2 x3
 by_cases e1:j=k
 ·subst e1
  simp only[ig]
  have:=S hq
  simpa [show ∀ a:Nat,¬ a=a+1 from fun a=>by omega,show ∀ a:Nat,¬ a=a+2 from fun a=>by omega,show ∀ a:Nat,¬ a=a+3 from fun a=>by omega] using this
 ·simp only[iq e1]
  have:=S (h2 j hj)
  have a0:∀ x y,x<4->y<4->¬ j*4+x=k*4+y:=fun x y hx hy=>by omega
  have a1:=a0 0
  have a2:=fun y=>a0 y 0
  simpa [a0 0 0 (by omega) (by omega),a0 0 1 (by omega) (by omega),a0 0 2 (by omega) (by omega),a0 0 3 (by omega) (by omega),a0 1 0 (by omega) (by omega),a0 1 1 (by omega) (by omega),a0 1 2 (by omega) (by omega),a0 1 3 (by omega) (by omega),
   a0 2 0 (by omega) (by omega),a0 2 1 (by omega) (by omega),a0 2 2 (by omega) (by omega),a0 2 3 (by omega) (by omega),a0 3 0 (by omega) (by omega),a0 3 1 (by omega) (by omega),a0 3 2 (by omega) (by omega),a0 3 3 (by omega) (by omega),
   show ¬ j*4=k*4 by omega,show ¬ j*4=k*4+1 by omega,show ¬ j*4=k*4+2 by omega,show ¬ j*4=k*4+3 by omega,show ¬ j*4+1=k*4 by omega,show ¬ j*4+2=k*4 by omega,show ¬ j*4+3=k*4 by omega,e1] using this
theorem qQ.fF {w:World} {b n K:Nat} {ok:Nat->Bool} {e:Nat->Rat} (h:qQ w b n K ok e) {b' n' K':Nat} {ok':Nat->Bool} {e':Nat->Rat} (h':qQ w b' n' K' ok' e') (hne:b≠b') {k:Nat} (hk:k<n') (x0 x1 x2 x3:Value):qQ (st4 w b' (k*4) x0 x1 x2 x3) b n K ok e:=by
 obtain⟨f,h1,h2⟩:=h
 obtain⟨g,h3,h4⟩:=h'
 refine⟨f,(((h1.setOther (by simpa using hne) x0).setOther (by simpa using hne) x1).setOther (by simpa using hne) x2).setOther (by simpa using hne) x3,fun j hj=>?_⟩
 have N:=(h4 k hk).nu
 have hc:∀ i,i<4->w.cell? ⟨b',k*4+i,none⟩=some (g (k*4+i)):=fun i hi=>h3.cell (by omega)
 exact(h2 j hj).b4L (b:=b') (o:=k*4) (hc 0 (by omega)) (hc 1 (by omega)) (hc 2 (by omega)) (hc 3 (by omega)) N.1 N.2.1 N.2.2.1 N.2.2.2 x0 x1 x2 x3
structure a4b (w:World) (base b R C K m:Nat) (rb:Nat->Nat) (e:Nat->Nat->Rat):Prop where
 outer:w.rowIs b 32 R (fun i=>if i<m then .slice (some ⟨rb i,0,none⟩) C C else .slice none 0 0)
 hb:base<=b
 rows:∀ i,i<m->qQ w (rb i) C K (fun _=>true) (e i)
 hrb:∀ i,i<m->base<=rb i/\rb i≠b
 inj:∀ i j,i<m->j<m->rb i=rb j->i=j
theorem a4b.below {w w':World} {base b R C K m:Nat} {rb:Nat->Nat} {e:Nat->Nat->Rat} (h:a4b w base b R C K m rb e) (hb:Below w.heap.size w w'):a4b w' base b R C K m rb e :=
 ⟨h.outer.of_block (hb.block b h.outer.lt),h.hb,fun i hi=>(h.rows i hi).below (m:=0) hb,h.hrb,h.inj⟩
end Go.Proofs.YtgplhbhfdgempaaGreat
