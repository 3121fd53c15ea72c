/-
  Lemmas for the theorem vrelative28_holds, part 6 of 35.
-/
import Derived.Deep.OwnRows
import Derived.Laws.Cover3
import Derived.Laws.Small
import Derived.Laws.StructEq
import Derived.Laws.Tables
import Derived.Test.YtbkocjmmbkifjaaGreatQr05
namespace Go.Proofs.YtbkocjmmbkifjaaGreat
open Go Go.RowKit
theorem ak:type_of% @Prod.mk.injEq:=@Prod.mk.injEq
theorem ig:type_of% @Option.map_eq_some_iff:=@Option.map_eq_some_iff
theorem jo:type_of% @beq_iff_eq:=@beq_iff_eq
theorem Ba:type_of% @Addr.add_mid:=@Addr.add_mid
theorem Eu:type_of% @bne_iff_ne:=@bne_iff_ne
theorem oh:type_of% @Int.natCast_nonneg:=@Int.natCast_nonneg
theorem yg:type_of% @cell_of_row:=@cell_of_row
theorem Ey:type_of% @Array.mem_toList_iff:=@Array.mem_toList_iff
theorem Dj:type_of% @heap_alloc_new:=@heap_alloc_new
section
set_option linter.unusedSimpArgs false
set_option linter.unusedVariables false
structure Part where
 t:Ty
 x:t.den
def nest:List Ty->Ty
 | []=>.unit
 | t::ts=>.pair t (nest ts)
def Ty.toV (t:Ty) (cs:List Value):Value:=if t.agg then .agg cs.toArray else cs.headD undef
def jU (F:Nat->Prop) (w:World) (t:Ty) (v:Value) (x:t.den):Prop:=∃ cs,v=t.toV cs/\rep F w t cs x
def jE (F:Nat->Prop) (w:World):(ts:List Ty)->List Value->(nest ts).den->Prop
 | [],vs,_=>vs=[]
 | t::ts,vs,x=>∃ v vs',vs=v::vs'/\jU F w t v x.1/\jE F w ts vs' x.2
theorem fU {F F':Nat->Prop} {w w':World} (hF:∀ b,F b->F' b) (hs:jK F w w') {t:Ty} {v:Value} {x:t.den} (h:jU F w t v x):jU F' w' t v x:=by obtain⟨cs,h1,h2⟩:=h;exact⟨cs,h1,bY hF hs t _ _ h2⟩
theorem kP {F F':Nat->Prop} {w w':World} (hF:∀ b,F b->F' b) (hs:jK F w w'):(ts:List Ty)->(vs:List Value)->(x:(nest ts).den)->jE F w ts vs x->jE F' w' ts vs x
 | [],_,_,h=>h
 | t::ts,_,x,⟨v,vs',h1,h2,h3⟩=>⟨v,vs',h1,fU hF hs h2,kP hF hs ts vs' x.2 h3⟩
inductive K0 where
 | val (t:Ty) (x:t.den)
 | own (r ver:Nat)
 | ptr (r off:Nat)
 | mW (r:Nat)
inductive K where
 | any
 | val (t:Ty) (x:t.den)
 | nil
 | ptr (r off:Nat)
 | own (r ver:Nat)
 | when (b:Bool) (k:K)
 | tup (ts:List Ty) (x:(nest ts).den)
 | cell (r ver i:Nat)
 | mrow (r ver id:Nat)
 | mpos (r ver id j:Nat)
 | mW (r:Nat)
 | mix (l:List K0)
 | fn (g:FuncId) (l:List K0)
 | sng (r ver:Nat)
 | pls (l:List K0)
 | pcl (l:List K0) (i:Nat)
def k0K:K0->K
 | .val t x=>.val t x
 | .own r v=>.own r v
 | .ptr r o=>.ptr r o
 | .mW r=>.mW r
inductive Res where
 | none
 | box (ps:List Part)
 | row (e:TypeId) (t:Ty) (xs:List t.den) (ver:Nat)
 | fro (t:Ty) (xs:List t.den) (ver:Nat)
 | mat (e e2:TypeId) (t:Ty) (ids:Option (List Nat)) (xss:List (List t.den)) (ver:Nat)
 | lG (k:K)
 | gone
structure Env where
 blk:Nat->Option Nat
 sl:Nat->Value
 base:Nat->Prop
 inn:Nat->Nat->Value
 qF:Nat->Prop
 par:Nat->Value
structure Fix where
 base:Nat->Prop
 qF:Nat->Prop
 par:Nat->Value
def Env.fix (E:Env):Fix:=⟨E.base,E.qF,E.par⟩
def bK:Value->Option Nat
 | .slice (some a) _ _=>some a.block
 | _=>none
def fz (w:World) (E:Env) (q:Nat):Prop:=(q<w.heap.size/\E.base q)/\(∀ r,E.blk r≠some q)/\∀ r id,bK (E.inn r id)≠some q
def gv (v:Nat):Nat:=v / 65536
def nx (v:Nat):Nat:=(v / 65536+1)*65536
theorem YP (v:Nat):gv v<gv (nx v):=by unfold gv nx;omega
def nxf (v:Nat):Nat:=nx v+v%2
theorem b1r (v:Nat):gv v<gv (nxf v):=by unfold gv nxf nx;omega
theorem b2h (v:Nat):v<=nxf v:=by unfold nxf nx;omega
theorem a2Y (v:Nat):v<=nx v:=by unfold nx;omega
theorem JW {v v':Nat} (h:v<=v'):gv v<=gv v':=by unfold gv;omega
def Res.isRow (v:Nat):Res->Prop
 | .row _ _ _ v'=>gv v'=gv v
 | .fro _ _ v'=>gv v'=gv v
 | .mat _ _ _ _ _ v'=>gv v'=gv v
 | _=>False
def Res.nT (v:Nat):Res->Prop
 | .mat _ _ _ _ _ v'=>v'=v
 | _=>False
def Res.dW (v:Nat):Res->Prop
 | .row _ _ _ v'=>v<=v'
 | .fro _ _ v'=>v<=v'
 | .mat _ _ _ _ _ v'=>v<=v'
 | _=>False
def Res.oV:Res->Prop
 | .box _=>True
 | _=>False
def Res.nK:Res->Prop
 | .lG _=>True
 | _=>False
def Res.FQ:Res->Prop
 | .lG _=>True
 | .gone=>True
 | _=>False
def Res.esz:Res->Nat
 | .row _ t _ _=>t.n
 | .fro t _ _=>t.n
 | .mat _ _ _ _ _ _=>1
 | _=>0
def Res.msz:Res->Nat
 | .mat _ _ t _ _ _=>t.n
 | _=>0
def Res.cnt:Res->Nat
 | .mat _ _ _ _ xss _=>xss.length
 | _=>0
def a6w (F:Nat->Prop) (E:Env) (ρ:Nat->Res) (w:World):K0->Value->Prop
 | .val t x,v=>jU F w t v x
 | .own r ver,v=>Res.isRow ver (ρ r)->v=E.sl r
 | .ptr r off,v=>∃ b,E.blk r=some b/\v=.pointer (some ⟨b,off,none⟩)
 | .mW r,v=>Res.nK (ρ r)->∃ b,E.blk r=some b/\v=.pointer (some ⟨b,0,none⟩)
def lT (F:Nat->Prop) (E:Env) (ρ:Nat->Res) (w:World):List K0->List Value->Prop
 | [],vs=>vs=[]
 | k::ks,vs=>∃ v vs',vs=v::vs'/\a6w F E ρ w k v/\lT F E ρ w ks vs'
def K.holds (E:Env) (ρ:Nat->Res) (w:World):K->Value->Prop
 | .any,_=>True
 | .val t x,v=>jU (fz w E) w t v x
 | .nil,v=>v=.slice none 0 0
 | .ptr r off,v=>∃ b,E.blk r=some b/\v=.pointer (some ⟨b,off,none⟩)
 | .own r ver,v=>Res.isRow ver (ρ r)->v=E.sl r
 | .when b k,v=>(b=true->k.holds E ρ w v)/\(b=false->v=undef)
 | .tup ts x,v=>∃ vs,v=.tuple vs.toArray/\jE (fz w E) w ts vs x
 | .cell r ver i,v=>Res.isRow ver (ρ r)->∃ b,bK (E.sl r)=some b/\v=.pointer (some ⟨b,i*(ρ r).esz,none⟩)
 | .mrow r ver id,v=>Res.nT ver (ρ r)->v=E.inn r id
 | .mpos r ver id j,v=>Res.nT ver (ρ r)->∃ b,bK (E.inn r id)=some b/\v=.pointer (some ⟨b,j*(ρ r).msz,none⟩)
 | .mW r,v=>Res.nK (ρ r)->∃ b,E.blk r=some b/\v=.pointer (some ⟨b,0,none⟩)
 | .mix ks,v=>∃ vs,v=.tuple vs.toArray/\lT (fz w E) E ρ w ks vs
 | .fn g ks,v=>∃ vs,v=.func (.func g) #[] vs.toArray/\lT (fz w E) E ρ w ks vs
 | .sng r ver,v=>Res.isRow ver (ρ r)->∃ b,v=.slice (some ⟨b,0,none⟩) 1 1/\fz w E b/\w.rangeAt b 0 [E.sl r]
 | .pls ks,v=>∃ b vs,v=.slice (some ⟨b,0,none⟩) ks.length ks.length/\fz w E b/\w.rangeAt b 0 vs/\lT (fz w E) E ρ w ks vs
 | .pcl ks i,v=>∃ b vs,v=.pointer (some ⟨b,i,none⟩)/\fz w E b/\w.rangeAt b 0 vs/\lT (fz w E) E ρ w ks vs
theorem xU {E:Env} {ρ:Nat->Res} {w:World} {k:K0} {v:Value}:a6w (fz w E) E ρ w k v↔(k0K k).holds E ρ w v:=by cases k<;>exact Iff.rfl
class Dc (p:Prop) where
 d:Decidable p
instance (priority:=high) (p:Prop) [h:Decidable p]:Dc p:=⟨h⟩
noncomputable instance (priority:=low) (p:Prop):Dc p:=⟨Classical.propDecidable p⟩
structure Cd where
 p:Prop
 d:Decidable p
instance (p:Prop) [h:Dc p]:CoeDep Prop p Cd:=⟨⟨p,h.d⟩⟩
def dH:List Cd->Prop
 | []=>True
 | ⟨p,_⟩::ps=>p/\dH ps
instance a1W:(l:List Cd)->Decidable (dH l)
 | []=>.isTrue trivial
 | ⟨_,d⟩::l=>match d with
  | .isTrue h=>match a1W l with
   | .isTrue h2=>.isTrue ⟨h,h2⟩
   | .isFalse h2=>.isFalse fun q=>h2 q.2
  | .isFalse h=>.isFalse fun q=>h q.1
theorem dI {a b:List Cd}:dH (a++b)↔dH a/\dH b:=by
 induction a with
 | nil=>simp[dH]
 | cons p ps ih=>cases p;simp[dH,ih,and_assoc]
abbrev PK:=Option (List Cd × K)
def sZ (P:Program) (t:TypeId):Option Bool:=(P.underlying t).map fun d=>match d with | .struct _ | .array _ _=>true|_=>false
def fitsT (P:Program) (t:TypeId) (ty:Ty):Bool:=(P.info? t).map (·.size)==some ty.n&&sZ P t==some ty.agg
def mP:(t:Ty)->t.den->Nat->Option (Nat × Part)
 | .pair a _,x,0=>some (0,⟨a,x.1⟩)
 | .pair a b,x,i+1=>(mP b x.2 i).map fun p=>(a.n+p.1,p.2)
 | .lf .rat,x,0=>some (0,⟨.lf .big,Rat.num x⟩)
 | .lf .rat,x,1=>some (2,⟨.lf .big,(Rat.den x:Int)⟩)
 | .lf .fO,x,0=>some (0,⟨.lf .grp,aI.g x⟩)
 | .lf .fO,x,1=>some (2,⟨.lf .grp,aI.h x⟩)
 | .lf .grp,x,1=>some (1,⟨.lf .gsl,x⟩)
 | .lf .big,x,0=>some (0,⟨.bool,decide ((show Int from x)<0)⟩)
 | .lf .big,x,1=>some (1,⟨.lf .gsl,dig (Int.natAbs x)⟩)
 | _,_,_=>none
def a4r (P:Program) (s:TypeId) (i o:Nat) (ty:Ty):Bool:=match P.underlying s with
 | some (.struct fs)=>match fs[i]? with
  | some f=>f.offset==o&&fitsT P f.type ty&&decide (0<ty.n)
  | none=>false
 | _=>false
def nP (P:Program) (s:TypeId) (n:Option Nat) (ty:Ty):Bool:=match P.underlying s,n with
 | some (.slice e),none=>fitsT P e ty
 | some (.array m e),some k=>m==k&&fitsT P e ty
 | _,_=>false
def a6b (P:Program) (s:TypeId):Bool:=match P.underlying s with
 | some (.slice e)=>fitsT P e (.int .u32)
 | _=>false
theorem wE {F:Nat->Prop} {w:World}:(t:Ty)->(x:t.den)->(i o:Nat)->(p:Part)->(cs:List Value)->mP t x i=some (o,p)->rep F w t cs x->rep F w p.t ((cs.drop o).take p.t.n) p.x
 | .pair a b,x,0,o,p,cs,h,⟨c1,c2,h1,h2,h3⟩=>by simp only[mP,ah,ak] at h;obtain⟨rfl,rfl⟩:=h;have:=dL a _ _ h2;rw[h1,List.drop_zero,<-this,Di];exact h2
 | .pair a b,x,i+1,o,p,cs,h,⟨c1,c2,h1,h2,h3⟩=>by simp only[mP,ig] at h;obtain⟨⟨o',p'⟩,h4,h5⟩:=h;simp only[ak] at h5;obtain⟨rfl,rfl⟩:=h5;have:=dL a _ _ h2;rw[h1,<-Ej,<-this,Au];exact wE b x.2 i o' p' c2 h4 h3
 | .lf .rat,x,0,o,p,cs,h,hr=>by simp only[mP,ah,ak] at h;obtain⟨rfl,rfl⟩:=h;obtain⟨b,s,c,t,h1,h2,h3⟩:RQ w (.agg cs.toArray) x:=hr;rw[show cs=[b,s,c,t] by simpa using h1];exact h2
 | .lf .rat,x,1,o,p,cs,h,hr=>by simp only[mP,ah,ak] at h;obtain⟨rfl,rfl⟩:=h;obtain⟨b,s,c,t,h1,h2,h3⟩:RQ w (.agg cs.toArray) x:=hr;rw[show cs=[b,s,c,t] by simpa using h1];exact h3
 | .lf .fO,x,0,o,p,cs,h,hr=>by simp only[mP,ah,ak] at h;obtain⟨rfl,rfl⟩:=h;obtain⟨b,q,c,b',q',c',rfl,h2,h3,h4⟩:=hr;exact⟨b,_,rfl,h3⟩
 | .lf .fO,x,1,o,p,cs,h,hr=>by simp only[mP,ah,ak] at h;obtain⟨rfl,rfl⟩:=h;obtain⟨b,q,c,b',q',c',rfl,h2,h3,h4⟩:=hr;exact⟨b',_,rfl,h4⟩
 | .lf .grp,x,1,o,p,cs,h,hr=>by simp only[mP,ah,ak] at h;obtain⟨rfl,rfl⟩:=h;obtain⟨b,s,rfl,h2⟩:=hr;exact⟨s,rfl,h2⟩
 | .lf .big,x,0,o,p,cs,h,hr=>by simp only[mP,ah,ak] at h;obtain⟨rfl,rfl⟩:=h;obtain⟨s,h1,h2⟩:eY w (.agg cs.toArray) x:=hr;rw[show cs=[.bool (decide ((show Int from x)<0)),s] by simpa using h1];rfl
 | .lf .big,x,1,o,p,cs,h,hr=>by simp only[mP,ah,ak] at h;obtain⟨rfl,rfl⟩:=h;obtain⟨s,h1,h2⟩:eY w (.agg cs.toArray) x:=hr;rw[show cs=[.bool (decide ((show Int from x)<0)),s] by simpa using h1];exact⟨s,rfl,h2⟩
def a7N:(ts:List Ty)->(nest ts).den->Nat->Option Part
 | [],_,_=>none
 | t::_,x,0=>some ⟨t,x.1⟩
 | _::ts,x,i+1=>a7N ts x.2 i
theorem a0h {F:Nat->Prop} {w:World}:(ts:List Ty)->(x:(nest ts).den)->(i:Nat)->(p:Part)->(vs:List Value)->a7N ts x i=some p->jE F w ts vs x->∃ v,vs[i]?=some v/\jU F w p.t v p.x
 | t::ts,x,0,p,vs,h,⟨v,vs',h1,h2,h3⟩=>by simp only[a7N] at h;grind
 | t::ts,x,i+1,p,vs,h,⟨v,vs',h1,h2,h3⟩=>by obtain⟨v',k1,k2⟩:=a0h ts x.2 i p vs' h h3;grind
def gK (t t':Ty) (x:t.den):Option t'.den:=if h:t=t' then some (h ▸ x) else none
def lV (c:Bool):K->K->PK
 | .val t x,.val t' y=>(gK t' t y).map fun y=>([],.val t (bif c then x else y))
 | .when b (.val t x),.val t' y=>(gK t' t y).map fun y=>([c=true->b=true],.val t (bif c then x else y))
 | .val t x,.when b (.val t' y)=>(gK t' t y).map fun y=>([c=false->b=true],.val t (bif c then x else y))
 | .when b (.val t x),.when b' (.val t' y)=>(gK t' t y).map fun y=>([c=true->b=true,c=false->b'=true],.val t (bif c then x else y))
 | _,_=>none
def b1K (op:BinOp) (k:IntKind) (a b:Int):PK:=match op with
 | .add=>some ([],.val (.int k) (k.wrap (a+b)))
 | .sub=>some ([],.val (.int k) (k.wrap (a-b)))
 | .mul=>some ([],.val (.int k) (k.wrap (a*b)))
 | .quo=>some ([b≠0],.val (.int k) (k.wrap (a.tdiv b)))
 | .rem=>some ([b≠0],.val (.int k) (a.tmod b))
 | .eql=>some ([],.val .bool (a==b))
 | .neq=>some ([],.val .bool (a != b))
 | .lss=>some ([],.val .bool (decide (a<b)))
 | .leq=>some ([],.val .bool (decide (a<=b)))
 | .gtr=>some ([],.val .bool (decide (a > b)))
 | .geq=>some ([],.val .bool (decide (a ≥ b)))
 | _=>none
def yH:Value->K
 | .bool b=>.val .bool b
 | .int k n=>.val (.int k) n
 | .slice none 0 0=>.nil
 | _=>.any
def JZ (P:Program) (t:TypeId):Bool:=match P.underlying t with
 | some .bool=>true
 | _=>false
def c6o (P:Program) (s t:TypeId):Option IntKind:=match P.underlying s,P.underlying t with
 | some _,some (.int k)=>some k
 | _,_=>none
def sK (P:Program) (t:TypeId):Bool:=match P.underlying t with
 | some (.slice _)=>true
 | _=>false
def JJ (ty:Ty) (ys:List ty.den) (m:Nat) (n:Int):PK:=some ([0<=n,n<m],.val (.ref ty) (ys.getD n.toNat ty.zero))
def b5D (ty:Ty) (ys:List ty.den) (m:Nat) (n:Int):PK:=some ([0<=n,n<m],.val ty (ys.getD n.toNat ty.zero))
def NG (ty:Ty) (ys:List ty.den):PK:=some ([],.val (.int .i64) (ys.length:Int))
def c0g (l:List Nat):PK:=some ([],.val (.int .i64) (l.length:Int))
def a5Z (l:List Nat) (n:Int):PK:=some ([0<=n,n<l.length],.val (.lf .QA) (l.getD n.toNat 0))
def eqB (op:BinOp) (a b:Bool):PK:=match op with
 | .eql=>some ([],.val .bool (a==b))
 | .neq=>some ([],.val .bool (a != b))
 | _=>none
def b6h (op:BinOp) (b:Bool):PK:=match op with
 | .eql=>some ([],.val .bool (!b))
 | .neq=>some ([],.val .bool b)
 | _=>none
def a0n (k:IntKind) (n:Int):PK:=some ([],.val (.int k) (k.wrap n))
def c0p (k:IntKind) (n:Int):PK:=a0n k (0-n)
def c0s (b:Bool):PK:=some ([],.val .bool (!b))
def AP (ref:Bool) (P:Program) (s:TypeId) (i:Nat) (ty:Ty) (y:ty.den):PK:=match mP ty y i with
 | some (o,p)=>if a4r P s i o p.t&&ty.agg then some ([],if ref then .val (.ref p.t) p.x else .val p.t p.x) else none
 | none=>none
def eqD:(t:Ty)->t.den->t.den->Bool
 | .bool,x,y=>(show Bool from x)==(show Bool from y)
 | .int _,x,y=>(show Int from x)==(show Int from y)
 | .pair a b,x,y=>eqD a x.1 y.1&&eqD b x.2 y.2
 | _,_,_=>true
def b4N (C:TypeId->Ty->Bool) (P:Program):List Field->Nat->Ty->Bool
 | [],_,.unit=>true
 | f::fs,o,.pair a b=>f.name != "_" && f.offset==o&&fitsT P f.type a&&C f.type a&&b4N C P fs (o+a.n) b
 | _,_,_=>false
def a8l (P:Program):Nat->TypeId->Ty->Bool
 | _+1,t,.int _=>match P.underlying t with
  | some (.int _)=>true
  | _=>false
 | _+1,t,.bool=>JZ P t
 | n+1,t,.pair a b=>match P.underlying t with
  | some (.struct fs)=>!P.stoodInHeld t&&b4N (a8l P n) P fs.toList 0 (.pair a b)
  | _=>false
 | _,_,_=>false
def eqS (op:BinOp) (b:Bool):PK:=match op with
 | .eql=>some ([],.val .bool b)
 | .neq=>some ([],.val .bool (!b))
 | _=>none
def fG (P:Program) (k:Operand->K):Op->PK
 | .move x=>some ([],k x)
 | .assign x=>some ([],k x)
 | .pick c a b=>match k c with
  | .val .bool cb=>lV cb (k a) (k b)
  | _=>none
 | .load t x=>match k x with
  | .val (.ref ty) y=>if fitsT P t ty then some ([],.val ty y) else none
  | .val (.lf .QA) y=>if fitsT P t (.int .u32) then some ([],.val (.int .u32) (Nat.cast (R:=Int) y)) else none
  | _=>none
 | .fieldAddr s x i=>match k x with
  | .val (.ref ty) y=>AP true P s i ty y
  | _=>none
 | .field s x i=>match k x with
  | .val ty y=>AP false P s i ty y
  | _=>none
 | .indexAddr s x i=>match k x,k i with
  | .val (.list ty) ys,.val (.int _) n=>if nP P s none ty then JJ ty ys (List.length (α:=ty.den) ys) n else none
  | .val (.ref (.arr m ty)) ys,.val (.int _) n=>if nP P s (some m) ty then JJ ty ys m n else none
  | .val (.lf .gsl) l,.val (.int _) n=>if a6b P s then a5Z l n else none
  | _,_=>none
 | .index s x i=>match k x,k i with
  | .val (.arr m ty) ys,.val (.int _) n=>if nP P s (some m) ty then b5D ty ys m n else none
  | _,_=>none
 | .extract x i=>match k x with
  | .tup ts y=>match a7N ts y i with
   | some p=>some ([],.val p.t p.x)
   | none=>none
  | .mix ks=>match ks[i]? with
   | some k=>some ([],k0K k)
   | none=>none
  | _=>none
 | .binOp op t x y _=>match k x,k y with
  | .val (.int ka) a,.val (.int kb) b=>if ka=kb then b1K op ka a b else none
  | .val .bool a,.val .bool b=>if JZ P t then eqB op a b else none
  | .val (.nls ty) x,.nil=>if sK P t then b6h op (Option.isSome (α:=List ty.den) x) else none
  | .val (.pair a b) x,.val (.pair a' b') y=>match gK (.pair a' b') (.pair a b) y with
   | some z=>if a8l P 6 t (.pair a b)&&!P.eqGuardType P.depth t then eqS op (eqD (.pair a b) x z) else none
   | none=>none
  | _,_=>none
 | .unOp .not _ x=>match k x with
  | .val .bool b=>c0s b
  | _=>none
 | .unOp .neg _ x=>match k x with
  | .val (.int kk) n=>c0p kk n
  | _=>none
 | .convert s t x=>match k x,c6o P s t with
  | .val (.int _) n,some kk=>a0n kk n
  | _,_=>none
 | .nilCheck x=>match k x with
  | .val (.ref t) y=>some ([],.val (.ref t) y)
  | .val (.clo f t) y=>some ([],.val (.clo f t) y)
  | _=>none
 | .call { callee:=.builtin .len,args:=xs,argTypes:=ts }=>match xs.toList,ts.toList with
  | [x],[t]=>if sK P t then (match k x with
   | .val (.list ty) ys=>NG ty ys
   | .val (.lf .gsl) l=>c0g l
   | .nil=>NG .unit []
   | .val (.nls ty) ys=>NG ty (Option.getD (α:=List ty.den) ys [])
   | _=>none) else none
  | _,_=>none
 | _=>none
def zV (P:Program) (E:Env) (ρ:Nat->Res) (w:World) (o:Oper) (ev:Operand->Value) (k:K):Prop:=∃ v,(execOp ev o).run P w=.ok (.value v) w/\k.holds E ρ w v
section
variable {P:Program} {E:Env} {ρ:Nat->Res} {w:World}
theorem dO {t t':Ty} {x:t.den} {y:t'.den} (h:gK t t' x=some y):∃ e:t=t',e ▸ x=y:=by
 unfold gK at h;split at h
 ·grind
 ·cases h
theorem b2R {c:Bool} {ka kb k:K} {vc:List Cd} (h:lV c ka kb=some (vc,k)) (hv:dH vc) {u v:Value} (ha:ka.holds E ρ w u) (hb:kb.holds E ρ w v):k.holds E ρ w (if c then u else v):=by
 cases ka<;>try (simp[lV] at h;done)
 case val t x =>
  cases kb<;>try (simp[lV] at h;done)
  case val t' y =>
   simp only[lV,ig,ak] at h;obtain⟨y',h1,rfl,rfl⟩:=h;obtain⟨rfl,rfl⟩:=dO h1;cases c
   ·exact hb
   ·exact ha
  case when b kb =>
   cases kb<;>try (simp[lV] at h;done)
   case val t' y =>
    simp only[lV,ig,ak] at h;obtain⟨y',h1,rfl,rfl⟩:=h;obtain⟨rfl,rfl⟩:=dO h1;cases c
    ·exact hb.1 (hv.1 rfl)
    ·exact ha
 case when b ka =>
  cases ka<;>try (simp[lV] at h;done)
  case val t x =>
   cases kb<;>try (simp[lV] at h;done)
   case val t' y =>
    simp only[lV,ig,ak] at h;obtain⟨y',h1,rfl,rfl⟩:=h;obtain⟨rfl,rfl⟩:=dO h1;cases c
    ·exact hb
    ·exact ha.1 (hv.1 rfl)
   case when b' kb =>
    cases kb<;>try (simp[lV] at h;done)
    case val t' y =>
     simp only[lV,ig,ak] at h;obtain⟨y',h1,rfl,rfl⟩:=h;obtain⟨rfl,rfl⟩:=dO h1;cases c
     ·exact hb.1 (hv.2.1 rfl)
     ·exact ha.1 (hv.1 rfl)
theorem a8m (v:Value):(yH v).holds E ρ w v:=by
 unfold yH;split
 ·exact⟨[.bool _],rfl,rfl⟩
 ·exact⟨[.int _ _],rfl,rfl⟩
 ·rfl
 ·trivial
theorem GZ {t:TypeId} {b:Bool} (h:sZ P t=some b):(isAgg t).run P w=.ok b w:=by
 unfold sZ at h;cases hu:P.underlying t with
 | none=>rw[hu] at h;cases h
 | some d =>
  rw[hu] at h;unfold isAgg;rw[eu,ku hu w];cases d<;>simp_all
theorem fM {t:TypeId} {ty:Ty} (h:fitsT P t ty=true):(∃ i,P.info? t=some i/\i.size=ty.n)/\sZ P t=some ty.agg:=by
 unfold fitsT at h;simp only[ay,jo] at h;refine⟨?_,h.2⟩;cases hi:P.info? t with
 | none=>rw[hi] at h;simp at h
 | some i=>rw[hi] at h;exact⟨i,rfl,by simpa using h.1⟩
theorem run_sizeOf {t:TypeId} {i:TypeInfo} (h:P.info? t=some i):(sizeOf t).run P w=.ok i.size w:=by simp[sizeOf,typeInfo,h]
theorem oZ {t:TypeId} {ty:Ty} (h:fitsT P t ty=true) {cs:List Value} {o:Nat} {F:Nat->Prop} {x:ty.den} (hr:rep F w ty ((cs.drop o).take ty.n) x):(part t cs.toArray o).run P w=.ok (ty.toV ((cs.drop o).take ty.n)) w:=by
 obtain⟨⟨i,hi,hn⟩,ha⟩:=fM h;have hl:=dL ty _ _ hr;unfold part Ty.toV;rw[eu,GZ ha];cases hg:ty.agg
 ·have h1:ty.n=1:=by cases ty<;>simp_all [Ty.agg,Ty.n];rename_i l;cases l<;>simp_all [Lf.agg,Lf.n]
  rw[h1] at hl ⊢;have h2:o<cs.length:=by grind
  simp[dw h2,List.take_one]
 ·simp only[Result.andThen_ok,Du,eu,run_sizeOf hi,Sem.run_pure];grind
theorem kM {t:TypeId} {ty:Ty} (h:fitsT P t ty=true) {b o:Nat} {ds:List Value} {F:Nat->Prop} {x:ty.den} (hc:w.rangeAt b o ds) (hr:rep F w ty ds x):(loadVar t ⟨b,o,none⟩).run P w=.ok (ty.toV ds) w:=by
 obtain⟨⟨i,hi,hn⟩,ha⟩:=fM h;have hl:=dL ty _ _ hr;unfold Ty.toV;cases hg:ty.agg
 ·have h1:ty.n=1:=by cases ty<;>simp_all [Ty.agg,Ty.n];rename_i l;cases l<;>simp_all [Lf.agg,Lf.n]
  rw[h1] at hl;obtain⟨v,rfl⟩:∃ v,ds=[v]:=by
   match ds,hl with
   | [v],_=>exact⟨v,rfl⟩
  have hc0:=hc 0 v rfl;rw[Nat.add_zero] at hc0;rw[hg] at ha;simp[loadVar,GZ ha,hc0]
 ·rw[hg] at ha;have hd:∃ d,P.underlying t=some d/\d.isRow=true:=by
   unfold sZ at ha;cases hu:P.underlying t with
   | none=>rw[hu] at ha;cases ha
   | some d=>rw[hu] at ha;exact⟨d,rfl,by cases d<;>simp_all⟩
  obtain⟨d,hu,hd⟩:=hd;exact run_loadVar_mid w b o t ds d hc hu hd (by simp[hi,hn,hl])
end
end
section
set_option linter.unusedSimpArgs false
set_option linter.unusedVariables false
section
variable {P:Program} {E:Env} {ρ:Nat->Res} {w:World}
theorem qJ {v:Value} {b:Bool} (h:(K.val .bool b).holds E ρ w v):v=.bool b:=by obtain⟨cs,rfl,h2⟩:=h;rw[show cs=_ from h2];rfl
theorem kT {v:Value} {k:IntKind} {n:Int} (h:(K.val (.int k) n).holds E ρ w v):v=.int k n:=by obtain⟨cs,rfl,h2⟩:=h;rw[show cs=_ from h2];rfl
theorem iY (b:Bool):(K.val .bool b).holds E ρ w (.bool b):=⟨[.bool b],rfl,rfl⟩
theorem lI (k:IntKind) (n:Int):(K.val (.int k) n).holds E ρ w (.int k n):=⟨[.int k n],rfl,rfl⟩
theorem yC {v:Value} {t:Ty} {xs:List t.den} (h:(K.val (.list t) xs).holds E ρ w v) :
  ∃ p c,v=.slice p xs.length c/\xs.length<=c/\c<=9223372036854775807/\(xs=[]\/∃ b o ds,p=some ⟨b,o,none⟩/\fz w E b/\w.rangeAt b o ds/\chunks (rep (fz w E) w t) ds xs):=by
 obtain⟨cs,rfl,p,c,h1,h2,h3,h4⟩:=h;exact⟨p,c,by rw[h1];rfl,h2,h3,h4⟩
theorem FB {v:Value} {t:Ty} {x:t.den} (h:(K.val (.ref t) x).holds E ρ w v):∃ b o ds,v=.pointer (some ⟨b,o,none⟩)/\fz w E b/\w.rangeAt b o ds/\rep (fz w E) w t ds x:=by obtain⟨cs,rfl,b,o,ds,h1,h2⟩:=h;exact⟨b,o,ds,by rw[h1];rfl,h2⟩
theorem QZ {t:Ty} {x:t.den} {b o:Nat} {ds:List Value} (h1:fz w E b) (h2:w.rangeAt b o ds) (h3:rep (fz w E) w t ds x):(K.val (.ref t) x).holds E ρ w (.pointer (some ⟨b,o,none⟩)):=⟨[.pointer (some ⟨b,o,none⟩)],rfl,b,o,ds,rfl,h1,h2,h3⟩
theorem a7O {v:Value} {t:Ty} {x:Option (List t.den)} (h:(K.val (.nls t) x).holds E ρ w v) :
  ∃ p c,v=.slice p (x.getD []).length c/\p.isNone=!x.isSome:=by
 obtain⟨cs,rfl,⟨rfl,rfl⟩|⟨ys,b,o,c,ds,rfl,rfl,_⟩⟩:=h
 ·exact⟨none,0,rfl,rfl⟩
 ·exact⟨_,c,rfl,rfl⟩
theorem OV {s:TypeId} {i o:Nat} {ty:Ty} (h:a4r P s i o ty=true):∃ fs f,P.underlying s=some (.struct fs)/\fs[i]?=some f/\f.offset=o/\fitsT P f.type ty=true/\0<ty.n:=by
 unfold a4r at h;split at h
 ·rename_i fs hu;split at h
  ·rename_i f hf;simp only[ay,jo,jc] at h;exact⟨fs,f,hu,hf,h.1.1,h.1.2,h.2⟩
  ·cases h
 ·cases h
theorem a8u {s:TypeId} {i:Nat} {ty:Ty} {y:ty.den} {vc:List Cd} {kk:K} {v:Value} (h:AP false P s i ty y=some (vc,kk)) (hv:jU (fz w E) w ty v y):∃ u,(Instr.field s v i).run P w=.ok u w/\kk.holds E ρ w u:=by
 unfold AP at h;split at h
 ·rename_i o p hf;split at h
  ·rename_i hb;simp only[ay] at hb;simp only[ah,ak,xu,if_false] at h;obtain⟨_,rfl⟩:=h;obtain⟨cs,rfl,hr⟩:=hv;obtain⟨fs,f,h1,h2,rfl,h4,h5⟩:=OV hb.1;have hr2:=wE ty y i _ p cs hf hr;refine⟨_,?_,_,rfl,hr2⟩;simp only[Instr.field,eu,ku h1 w,Result.andThen_ok,h2,Ty.toV,hb.2,Du,asAgg,Sem.run_pure];exact oZ h4 hr2
  ·cases h
 ·cases h
theorem a2x {s:TypeId} {i:Nat} {ty:Ty} {y:ty.den} {vc:List Cd} {kk:K} {v:Value} (h:AP true P s i ty y=some (vc,kk)) (hv:(K.val (.ref ty) y).holds E ρ w v):∃ u,(Instr.fieldAt s v i).run P w=.ok u w/\kk.holds E ρ w u:=by
 unfold AP at h;split at h
 ·rename_i o p hf;split at h
  ·rename_i hb;simp only[ay] at hb;simp only[ah,ak,Du] at h;obtain⟨_,rfl⟩:=h;obtain⟨b,oo,ds,rfl,h1,h2,h3⟩:=FB (ρ:=ρ) hv;obtain⟨fs,f,k1,k2,rfl,k4,k5⟩:=OV hb.1;have hr2:=wE ty y i _ p ds hf h3;refine⟨.pointer (some ⟨b,oo+f.offset,none⟩),?_,QZ h1 (yT h2 _ _) hr2⟩;obtain⟨⟨i2,hi,hn⟩,_⟩:=fM k4;have hz:¬ i2.size=0:=by omega
   simp[Instr.fieldAt,eu,ku k1 w,k2,Instr.sureAddr,fieldPlace,run_sizeOf hi,hz,Ba]
  ·cases h
 ·cases h
theorem oQ {s:TypeId} {ty:Ty} (h:nP P s none ty=true):∃ e,P.underlying s=some (.slice e)/\fitsT P e ty=true:=by
 unfold nP at h;split at h<;>try(cases h;done)
 ·rename_i e hu _;exact⟨e,hu,h⟩
 ·rename_i hx;cases hx
theorem MG {s:TypeId} {m:Nat} {ty:Ty} (h:nP P s (some m) ty=true):∃ e,P.underlying s=some (.array m e)/\fitsT P e ty=true:=by
 unfold nP at h;split at h<;>try(cases h;done)
 ·rename_i hx;cases hx
 ·rename_i m' e k hu hx;cases hx;simp only[ay,jo] at h;obtain⟨rfl,h2⟩:=h;exact⟨e,hu,h2⟩
theorem JC {F:Nat->Prop} {ty:Ty} {ys:List ty.den} {ds:List Value} (h:chunks (rep F w ty) ds ys) {n:Nat} (hn:n<ys.length):rep F w ty ((ds.drop (n*ty.n)).take ty.n) (ys.getD n ty.zero):=by obtain⟨c,rfl,h2⟩:=XI (fun c y=>dL ty c y) ys ds h n ty.zero hn;exact h2
theorem BG {s:TypeId} {ty:Ty} {ys:List ty.den} {n:Int} {kd:IntKind} {vc:List Cd} {kk:K} {v:Value} (hb:nP P s none ty=true) (h:JJ ty ys ys.length n=some (vc,kk)) (hc:dH vc) (hv:(K.val (.list ty) ys).holds E ρ w v):∃ u,(Instr.indexAt s v (.int kd n)).run P w=.ok u w/\kk.holds E ρ w u:=by
 simp only[JJ,ah,ak] at h;obtain⟨rfl,rfl⟩:=h;obtain⟨h0,h1,_⟩:=hc;have hn:n.toNat<ys.length:=by omega
 obtain⟨p,c,rfl,_,_,hx|⟨b,o,ds,rfl,k1,k2,k3⟩⟩:=yC (ρ:=ρ) hv
 ·rw[hx] at hn;simp at hn
 obtain⟨e,k4,k5⟩:=oQ hb;obtain⟨⟨i2,hi,hsz⟩,_⟩:=fM k5;refine⟨.pointer (some ⟨b,o+n.toNat*ty.n,none⟩),?_,QZ k1 (yT k2 _ _) (JC k3 hn)⟩;simp[Instr.indexAt,asIntOf,eu,ku k4 w,h0,h1,run_sizeOf hi,hsz,Ba]
theorem WU {s:TypeId} {ty:Ty} {m:Nat} {ys:List ty.den} {n:Int} {kd:IntKind} {vc:List Cd} {kk:K} {v:Value} (hb:nP P s (some m) ty=true) (h:JJ ty ys m n=some (vc,kk)) (hc:dH vc) (hv:(K.val (.ref (.arr m ty)) ys).holds E ρ w v):∃ u,(Instr.indexAt s v (.int kd n)).run P w=.ok u w/\kk.holds E ρ w u:=by
 simp only[JJ,ah,ak] at h;obtain⟨rfl,rfl⟩:=h;obtain⟨h0,h1,_⟩:=hc;obtain⟨b,o,ds,rfl,k1,k2,kl,k3⟩:=FB (ρ:=ρ) hv;have hn:n.toNat<ys.length:=by have:ys.length=m:=kl;omega
 obtain⟨e,k4,k5⟩:=MG hb;obtain⟨⟨i2,hi,hsz⟩,_⟩:=fM k5;refine⟨.pointer (some ⟨b,o+n.toNat*ty.n,none⟩),?_,QZ k1 (yT k2 _ _) (JC k3 hn)⟩;simp[Instr.indexAt,asIntOf,eu,ku k4 w,h0,h1,run_sizeOf hi,hsz,Ba,Instr.sureAddr]
theorem a8B {s:TypeId} {ty:Ty} {m:Nat} {ys:List ty.den} {n:Int} {kd:IntKind} {vc:List Cd} {kk:K} {v:Value} (hb:nP P s (some m) ty=true) (h:b5D ty ys m n=some (vc,kk)) (hc:dH vc) (hv:(K.val (.arr m ty) ys).holds E ρ w v):∃ u,(Instr.index s v (.int kd n)).run P w=.ok u w/\kk.holds E ρ w u:=by
 simp only[b5D,ah,ak] at h;obtain⟨rfl,rfl⟩:=h;obtain⟨h0,h1,_⟩:=hc;obtain⟨cs,rfl,kl,k3⟩:=hv;have hn:n.toNat<List.length (α:=ty.den) ys:=by have:List.length (α:=ty.den) ys=m:=kl;omega
 obtain⟨e,k4,k5⟩:=MG hb;obtain⟨⟨i2,hi,hsz⟩,_⟩:=fM k5;have hr:=JC k3 hn;refine⟨_,?_,_,rfl,hr⟩;have:=oZ k5 hr;change (Instr.index s (.agg cs.toArray) (.int kd n)).run P w=_;simp[Instr.index,asIntOf,ku k4 w,h0,h1,run_sizeOf hi,hsz,eu,this]
theorem b5E {op:BinOp} {t:TypeId} {k:IntKind} {a b:Int} {x y:Operand} {vc:List Cd} {kk:K} (h:b1K op k a b=some (vc,kk)) (hc:dH vc):∃ u,(do eqGuard op t x y (.int k a) (.int k b);binOp op t (.int k a) (.int k b):Sem Value).run P w=.ok u w/\kk.holds E ρ w u:=by
 cases op<;>simp only[b1K,ah,ak] at h<;>first|(cases h;done)|obtain⟨rfl,rfl⟩:=h
 case quo=>exact⟨.int k (k.wrap (a.tdiv b)),by have:=hc.1;simp[eqGuard,binOp,Op.intDiv,eu,this],lI _ _⟩
 case rem=>exact⟨.int k (a.tmod b),by have:=hc.1;simp[eqGuard,binOp,Op.intDiv,eu,this],lI _ _⟩
 case eql=>exact⟨.bool (a==b),by simp[eqGuard,binOp,Op.intCmp,eu],iY _⟩
 case neq=>exact⟨.bool (a != b),by simp[eqGuard,binOp,Op.intCmp,eu],iY _⟩
 case add=>exact⟨.int k (k.wrap (a+b)),by simp[eqGuard,binOp,Op.intArith,eu],lI _ _⟩
 case sub=>exact⟨.int k (k.wrap (a-b)),by simp[eqGuard,binOp,Op.intArith,eu],lI _ _⟩
 case mul=>exact⟨.int k (k.wrap (a*b)),by simp[eqGuard,binOp,Op.intArith,eu],lI _ _⟩
 case lss=>exact⟨.bool (decide (a<b)),by simp[eqGuard,binOp,Op.intCmp,eu],iY _⟩
 case leq=>exact⟨.bool (decide (a<=b)),by simp[eqGuard,binOp,Op.intCmp,eu],iY _⟩
 case gtr=>exact⟨.bool (decide (a > b)),by simp[eqGuard,binOp,Op.intCmp,eu],iY _⟩
 case geq=>exact⟨.bool (decide (a ≥ b)),by simp[eqGuard,binOp,Op.intCmp,eu],iY _⟩
theorem b6i {op:BinOp} {t e:TypeId} {b:Bool} {p:Option Addr} {n c:Nat} {x y:Operand} {vc:List Cd} {kk:K} (hu:P.underlying t=some (.slice e)) (hp:p.isNone=!b) (h:b6h op b=some (vc,kk)):∃ u,(do eqGuard op t x y (.slice p n c) (.slice none 0 0);binOp op t (.slice p n c) (.slice none 0 0):Sem Value).run P w=.ok u w/\kk.holds E ρ w u:=by
 cases op<;>simp only[b6h,ah,ak] at h<;>first|(cases h;done)|obtain⟨rfl,rfl⟩:=h
 ·exact⟨.bool (!b),by simp[eqGuard,binOp,eu,run_equal_slice_nil w t e p n c hu,hp],iY _⟩
 ·exact⟨.bool b,by simp[eqGuard,binOp,eu,run_equal_slice_nil w t e p n c hu,hp],iY _⟩
theorem WW {t:TypeId} (hsl:sK P t=true):∃ e,P.underlying t=some (.slice e):=by
 unfold sK at hsl;split at hsl
 ·rename_i e he;exact⟨e,he⟩
 ·cases hsl
theorem b9v {op:BinOp} {t:TypeId} {a b:Bool} {x y:Operand} {vc:List Cd} {kk:K} (hu:P.underlying t=some .bool) (h:eqB op a b=some (vc,kk)):∃ u,(do eqGuard op t x y (.bool a) (.bool b);binOp op t (.bool a) (.bool b):Sem Value).run P w=.ok u w/\kk.holds E ρ w u:=by
 cases op<;>simp only[eqB,ah,ak] at h<;>first|(cases h;done)|obtain⟨rfl,rfl⟩:=h
 ·exact⟨.bool (a==b),by simp[eqGuard,binOp,eu,run_equal_bool w t a b hu],iY _⟩
 ·exact⟨.bool (a != b),by simp[eqGuard,binOp,eu,run_equal_bool w t a b hu];cases a<;>cases b<;>rfl,iY _⟩
theorem a5Q {F:Nat->Prop} {d:Nat} {C:TypeId->Ty->Bool} (hC:∀ t ty,C t ty=true->∀ cs cs' x y,rep F w ty cs x->rep F w ty cs' y->(Op.equalIn d t (ty.toV cs) (ty.toV cs')).run P w=.ok (eqD ty x y) w) {cs cs':List Value}:∀ (fs:List Field) (o:Nat) (ty:Ty) (x y:ty.den),b4N C P fs o ty=true->rep F w ty (cs.drop o) x->rep F w ty (cs'.drop o) y->(Op.eqFields d cs.toArray cs'.toArray fs).run P w=.ok (eqD ty x y) w
 | [],_,ty,x,y,h,_,_=>by cases ty<;>first|(cases h;done)|simp[Op.eqFields,eqD]
 | f::fs,o,ty,x,y,h,hx,hy=>by
  cases ty<;>try(cases h;done)
  rename_i a b;simp only[b4N,ay,Eu,ne_eq,jo] at h;obtain⟨⟨⟨⟨h1,h2⟩,h3⟩,h4⟩,h5⟩:=h;obtain⟨c1,c2,e1,r1,r2⟩:=hx;obtain⟨c1',c2',e1',r1',r2'⟩:=hy;have l1:=dL a _ _ r1;have l1':=dL a _ _ r1';have t1:(cs.drop o).take a.n=c1:=by rw[e1,<-l1,Di]
  have t1':(cs'.drop o).take a.n=c1':=by rw[e1',<-l1',Di]
  have d1:cs.drop (o+a.n)=c2:=by rw[<-Ej,e1,<-l1,Au]
  have d1':cs'.drop (o+a.n)=c2':=by rw[<-Ej,e1',<-l1',Au]
  have p1:=oZ (P:=P) (w:=w) h3 (cs:=cs) (o:=o) (F:=F) (x:=x.1) (by rw[t1];exact r1);have p1':=oZ (P:=P) (w:=w) h3 (cs:=cs') (o:=o) (F:=F) (x:=y.1) (by rw[t1'];exact r1');rw[t1] at p1;rw[t1'] at p1';have q:=hC _ _ h4 _ _ _ _ r1 r1';have ih:=a5Q hC fs (o+a.n) b x.2 y.2 h5 (by rw[d1];exact r2) (by rw[d1'];exact r2');simp only[Op.eqFields,h1,ne_eq,not_false_eq_true,Du,eu,h2,p1,p1',q,Result.andThen_ok];show _=Result.ok (eqD a x.1 y.1&&eqD b x.2 y.2) w;cases eqD a x.1 y.1
  ·simp
  ·simpa using ih
theorem a5T {F:Nat->Prop}:∀ (n d:Nat) (t:TypeId) (ty:Ty),a8l P n t ty=true->∀ cs cs' x y,rep F w ty cs x->rep F w ty cs' y->(Op.equalIn (d+n) t (ty.toV cs) (ty.toV cs')).run P w=.ok (eqD ty x y) w
 | 0,_,_,ty,h,_,_,_,_,_,_=>by cases ty<;>cases h
 | n+1,d,t,ty,h,cs,cs',x,y,hx,hy=>by
  cases ty<;>try(cases h;done)
  ·rw[show cs=_ from hx,show cs'=_ from hy];have hb:P.underlying t=some .bool:=by
    have h:JZ P t=true:=h;unfold JZ at h;split at h
    ·assumption
    ·cases h
   exact run_equalIn_bool w (d+n) t x y hb
  ·rw[show cs=_ from hx,show cs'=_ from hy];simp only[a8l] at h;split at h<;>try(cases h;done)
   rename_i hu;exact run_equalIn_int w (d+n) t _ _ x y hu
  ·simp only[a8l] at h;split at h<;>try(cases h;done)
   rename_i a b fs hu;simp only[ay,zq] at h;have hf:P.fieldsOf t=fs:=by unfold Program.fieldsOf;rw[hu]
   show (Op.equalIn (d+n+1) t (.agg cs.toArray) (.agg cs'.toArray)).run P w=_;rw[run_equalIn_struct w (d+n) t _ _ (by rw[hf];exact hu) h.1,hf];exact a5Q (fun t ty h=>a5T n d t ty h) fs.toList 0 _ x y h.2 hx hy
theorem b9w {op:BinOp} {t:TypeId} {a b:Ty} {u v:(Ty.pair a b).den} {x y:Operand} {vx vy:Value} {vc:List Cd} {kk:K} (hc:a8l P 6 t (.pair a b)=true) (hg:P.eqGuardType P.depth t=false) (h:eqS op (eqD (.pair a b) u v)=some (vc,kk)) (hx:(K.val (.pair a b) u).holds E ρ w vx) (hy:(K.val (.pair a b) v).holds E ρ w vy):∃ z,(do eqGuard op t x y vx vy;binOp op t vx vy:Sem Value).run P w=.ok z w/\kk.holds E ρ w z:=by
 obtain⟨cs,rfl,hr⟩:=hx;obtain⟨cs',rfl,hr'⟩:=hy;have q:(Op.equalIn 10000 t (.agg cs.toArray) (.agg cs'.toArray)).run P w=.ok (eqD (.pair a b) u v) w:=a5T 6 9994 t (.pair a b) hc cs cs' u v hr hr';show ∃ z,(do eqGuard op t x y (.agg cs.toArray) (.agg cs'.toArray);binOp op t (.agg cs.toArray) (.agg cs'.toArray):Sem Value).run P w=.ok z w/\kk.holds E ρ w z;cases op<;>simp only[eqS,ah,ak] at h<;>first|(cases h;done)|obtain⟨rfl,rfl⟩:=h
 ·exact⟨_,by rw[eu,run_eqGuard_agg w _ t x y _ _ hg,Result.andThen_ok,run_eql_struct,q];rfl,iY _⟩
 ·exact⟨_,by rw[eu,run_eqGuard_agg w _ t x y _ _ hg,Result.andThen_ok,run_neq_struct,q];rfl,iY _⟩
theorem fQ {s:Sem Value} {o:Oper} {ev:Operand->Value} {kk:K} (he:execOp ev o=(do pure (.value (<-s)))) (h:∃ u,s.run P w=.ok u w/\kk.holds E ρ w u):zV P E ρ w o ev kk:=by obtain⟨u,h1,h2⟩:=h;exact⟨u,by rw[he,eu,h1];simp,h2⟩
theorem a4D {F:Nat->Prop}:∀ {ks:List K0} {vs:List Value} {i:Nat} {k:K0},lT F E ρ w ks vs->ks[i]?=some k->∃ v,vs[i]?=some v/\a6w F E ρ w k v
 | [],_,i,k,_,h=>by simp at h
 | k'::ks,_,0,k,⟨v,vs',h1,h2,_⟩,h=>by simp at h;subst h;exact⟨v,by rw[h1];rfl,h2⟩
 | k'::ks,_,i+1,k,⟨v,vs',h1,h2,h3⟩,h=>by obtain⟨u,k1,k2⟩:=a4D (i:=i) h3 (by simpa using h);exact⟨u,by rw[h1];exact k1,k2⟩
theorem a4p {s:TypeId} (h:a6b P s=true):∃ e,P.underlying s=some (.slice e)/\fitsT P e (.int .u32)=true:=by
 unfold a6b at h;split at h<;>try(cases h;done)
 rename_i e he;exact⟨e,he,h⟩
theorem WV {s:TypeId} {l:List Nat} {n:Int} {kd:IntKind} {vc:List Cd} {kk:K} {v:Value} (hb:a6b P s=true) (h:a5Z l n=some (vc,kk)) (hc:dH vc) (hv:(K.val (.lf .gsl) l).holds E ρ w v):∃ u,(Instr.indexAt s v (.int kd n)).run P w=.ok u w/\kk.holds E ρ w u:=by
 simp only[a5Z,ah,ak] at h;obtain⟨rfl,rfl⟩:=h;obtain⟨h0,h1,_⟩:=hc;obtain⟨e,he,hf⟩:=a4p hb;obtain⟨⟨i,hi,hs⟩,_⟩:=fM hf;obtain⟨cs,rfl,sv,rfl,hr⟩:=hv;obtain⟨n',rfl⟩:∃ n':Nat,n=n':=⟨n.toNat,by omega⟩;have hlt:n'<l.length:=by omega
 rcases hr with⟨_,_,hl⟩|⟨b,o,c,rfl,k2,k3,k4,k5⟩
 ·rw[hl] at hlt;simp at hlt
 ·refine⟨.pointer (some ⟨b,o+n',none⟩),?_,[.pointer (some ⟨b,o+n',none⟩)],rfl,b,o+n',rfl,?_⟩
  ·have hs:i.size=1:=hs;simp[Instr.indexAt,asIntOf,eu,ku he w,Ty.toV,Ty.agg,Lf.agg,run_sizeOf hi,hs,Ba,hlt,show (0:Int)<=(n':Int) from oh _,show (n':Int)<(l.length:Int) from by omega]
  ·have:=k5 n' hlt;rw[this,Int.toNat_natCast];rfl
theorem a9a {k:Operand->K} {ev:Operand->Value} {o:Oper} {vc:List Cd} {kk:K} (h:fG P k o.op=some (vc,kk)) (hv:dH vc) (hk:∀ x,(k x).holds E ρ w (ev x)):zV P E ρ w o ev kk:=by
 cases ho:o.op<;>rw[ho] at h<;>try (simp[fG] at h;done)
 case move x =>
  simp only[fG,ah,ak] at h;obtain⟨_,rfl⟩:=h;exact⟨ev x,by simp[execOp,ho],hk x⟩
 case assign x =>
  simp only[fG,ah,ak] at h;obtain⟨_,rfl⟩:=h;exact⟨ev x,by simp[execOp,ho],hk x⟩
 case pick c a b =>
  simp only[fG] at h;split at h<;>try(cases h;done)
  rename_i cb hcb;have h1:=hk c;rw[hcb] at h1;have h2:=qJ h1;exact⟨_,by simp[execOp,ho,h2,asBool,eu];rfl,b2R h hv (hk a) (hk b)⟩
 case load t x =>
  simp only[fG] at h;split at h<;>try(cases h;done)
  ·rename_i ty y hx;split at h<;>try(cases h;done)
   rename_i hf;simp only[ah,ak] at h;obtain⟨_,rfl⟩:=h;have h1:=hk x;rw[hx] at h1;obtain⟨b,oo,ds,h2,k1,k2,k3⟩:=FB h1;refine fQ (by simp only[execOp,ho];rfl) ⟨_,?_,ds,rfl,k3⟩;rw[h2];simp only[Instr.loadAt,Instr.sureAddr,eu,Sem.run_pure,Result.andThen_ok];exact kM hf k2 k3
  ·rename_i y hx;split at h<;>try(cases h;done)
   rename_i hf;simp only[ah,ak] at h;obtain⟨_,rfl⟩:=h;have h1:=hk x;rw[hx] at h1;obtain⟨cs,h2,b,oo,rfl,k2⟩:=h1;refine fQ (by simp only[execOp,ho];rfl) ⟨_,?_,[.int .u32 (Nat.cast (R:=Int) y)],rfl,rfl⟩;rw[h2];simp only[Instr.loadAt,Ty.toV,Ty.agg,Lf.agg,xu,if_false,List.headD_cons,Instr.sureAddr,eu,Sem.run_pure,Result.andThen_ok];exact kM (F:=fun _=>True) (x:=(Nat.cast (R:=Int) y)) hf (fun j v hv=>by
    cases j with
    | zero=>simp at hv;rw[<-hv];exact k2
    | succ j=>simp at hv) rfl
 case fieldAddr s x i =>
  simp only[fG] at h;split at h<;>try(cases h;done)
  rename_i ty y hx;have h1:=hk x;rw[hx] at h1;exact fQ (by simp only[execOp,ho]) (a2x h h1)
 case field s x i =>
  simp only[fG] at h;split at h<;>try(cases h;done)
  rename_i ty y hx;have h1:=hk x;rw[hx] at h1;exact fQ (by simp only[execOp,ho]) (a8u h h1)
 case indexAddr s x i =>
  simp only[fG] at h;have h1:=hk x;have h2:=hk i;split at h<;>try(cases h;done)
  all_goals
   rename_i hx hi;split at h<;>try(cases h;done)
   rename_i hb;rw[hx] at h1;rw[hi] at h2;refine fQ (by simp only[execOp,ho];rfl) ?_;rw[kT h2]
  ·exact BG hb h hv h1
  ·exact WU hb h hv h1
  ·exact WV hb h hv h1
 case index s x i =>
  simp only[fG] at h;have h1:=hk x;have h2:=hk i;split at h<;>try(cases h;done)
  rename_i hx hi;split at h<;>try(cases h;done)
  rename_i hb;rw[hx] at h1;rw[hi] at h2;refine fQ (by simp only[execOp,ho];rfl) ?_;rw[kT h2];exact a8B hb h hv h1
 case extract x i =>
  simp only[fG] at h;have h1:=hk x;split at h<;>try(cases h;done)
  ·rename_i ts y hx;split at h<;>try(cases h;done)
   rename_i p hp;simp only[ah,ak] at h;obtain⟨_,rfl⟩:=h;rw[hx] at h1;obtain⟨vs,h2,h3⟩:=h1;obtain⟨u,k1,k2⟩:=a0h ts y i p vs hp h3;refine fQ (by simp only[execOp,ho];rfl) ⟨u,?_,k2⟩;rw[h2];simp[Instr.extract,k1]
  ·rename_i ks hx;rw[hx] at h1;obtain⟨vs,h2,h3⟩:=h1;split at h<;>try(cases h;done)
   rename_i hks;simp only[ah,ak] at h;obtain⟨_,rfl⟩:=h;obtain⟨u,k1,k2⟩:=a4D h3 hks;refine fQ (by simp only[execOp,ho];rfl) ⟨u,?_,xU.1 k2⟩;rw[h2];simp[Instr.extract,k1]
 case binOp op t x y yt =>
  simp only[fG] at h;have h1:=hk x;have h2:=hk y;split at h<;>try(cases h;done)
  ·rename_i ka a kb b hx hy;split at h<;>try(cases h;done)
   rename_i he;subst he;rw[hx] at h1;rw[hy] at h2;refine fQ (by simp only[execOp,ho];rfl) ?_;rw[kT h1,kT h2];exact b5E h hv
  ·rename_i a b hx hy;split at h<;>try(cases h;done)
   rename_i hb;rw[hx] at h1;rw[hy] at h2;have hu:P.underlying t=some .bool:=by
    unfold JZ at hb;split at hb
    ·assumption
    ·cases hb
   refine fQ (by simp only[execOp,ho];rfl) ?_;rw[qJ h1,qJ h2];exact b9v hu h
  ·rename_i ty z hx hy;split at h<;>try(cases h;done)
   rename_i hb;rw[hx] at h1;rw[hy] at h2;obtain⟨e,hu⟩:=WW hb;obtain⟨p,c,e1,e2⟩:=a7O h1;refine fQ (by simp only[execOp,ho];rfl) ?_;rw[e1,show ev y=.slice none 0 0 from h2];exact b6i hu e2 h
  ·rename_i a b u a' b' u' hx hy;split at h<;>try(cases h;done)
   rename_i z hz;split at h<;>try(cases h;done)
   rename_i hb;simp only[ay,zq] at hb;obtain⟨e,hz⟩:=dO hz;simp only[Ty.pair.injEq] at e;obtain⟨rfl,rfl⟩:=e;have hz:u'=z:=hz;subst hz;rw[hx] at h1;rw[hy] at h2;exact fQ (by simp only[execOp,ho];rfl) (b9w hb.1 hb.2 h h1 h2)
 case unOp op t x =>
  have h1:=hk x;cases op<;>simp only[fG] at h<;>try(cases h;done)
  case not =>
   split at h<;>try(cases h;done)
   rename_i b hx;simp only[c0s,ah,ak] at h;obtain⟨_,rfl⟩:=h;rw[hx] at h1;refine fQ (by simp only[execOp,ho];rfl) ⟨_,?_,iY _⟩;rw[qJ h1];rfl
  case neg =>
   split at h<;>try(cases h;done)
   rename_i kd n hx;simp only[c0p,a0n,ah,ak] at h;obtain⟨_,rfl⟩:=h;rw[hx] at h1;refine fQ (by simp only[execOp,ho];rfl) ⟨_,?_,lI _ _⟩;rw[kT h1];rfl
 case convert s t x =>
  simp only[fG] at h;have h1:=hk x;split at h<;>try(cases h;done)
  rename_i kd n kk' hx hi;simp only[a0n,ah,ak] at h;obtain⟨_,rfl⟩:=h;rw[hx] at h1;refine fQ (by simp only[execOp,ho];rfl) ⟨_,?_,lI _ _⟩;rw[kT h1];unfold c6o at hi;split at hi<;>first|(cases hi;done)|skip
  rename_i d k' hs ht;cases hi;simp[convert,eu,ku hs w,ku ht w,Conv.intToInt]
 case nilCheck x =>
  simp only[fG] at h;have h1:=hk x;split at h<;>try(cases h;done)
  ·rename_i t y hx;simp only[ah,ak] at h;obtain⟨_,rfl⟩:=h;rw[hx] at h1;obtain⟨b,oo,ds,h2,k⟩:=FB h1;exact⟨ev x,by simp[execOp,ho,h2],h1⟩
  ·rename_i f t y hx;simp only[ah,ak] at h;obtain⟨_,rfl⟩:=h;rw[hx] at h1;obtain⟨cs,h2,ds,h3,k⟩:=h1;exact⟨ev x,by simp[execOp,ho,h2,h3,Ty.toV,Ty.agg],cs,h2,ds,h3,k⟩
 case call c =>
  obtain⟨cl,xs,ts⟩:=c;cases cl<;>try (simp[fG] at h;done)
  rename_i bi;cases bi<;>try (simp[fG] at h;done)
  simp only[fG] at h;split at h<;>try(cases h;done)
  rename_i x t hxs hts;have exs:xs=#[x]:=by rw[<-Array.toArray_toList (xs:=xs),hxs]
  have ets:ts=#[t]:=by rw[<-Array.toArray_toList (xs:=ts),hts]
  subst exs ets;have h1:=hk x;split at h<;>try(cases h;done)
  rename_i hsl;have hu:∃ e,P.underlying t=some (.slice e):=by
   unfold sK at hsl;split at hsl
   ·rename_i e he;exact⟨e,he⟩
   ·cases hsl
  obtain⟨e,hu⟩:=hu;split at h<;>try(cases h;done)
  ·rename_i ty ys hx;simp only[NG,ah,ak] at h;obtain⟨_,rfl⟩:=h;rw[hx] at h1;obtain⟨p,c,h2,_⟩:=yC h1;exact⟨_,by simp[execOp,ho,resolve,invoke,builtin,eu,h2,Builtin.len_,ku hu w,goInt],lI _ _⟩
  ·rename_i l hx;simp only[c0g,ah,ak] at h;obtain⟨_,rfl⟩:=h;rw[hx] at h1;obtain⟨cs,h2,sv,rfl,hr⟩:=h1;obtain⟨p,c,rfl,_,_⟩:=hr.form;have h2:ev x=.slice p l.length c:=h2;exact⟨_,by simp[execOp,ho,resolve,invoke,builtin,eu,h2,Builtin.len_,ku hu w,goInt],lI _ _⟩
  ·rename_i hx;simp only[NG,ah,ak] at h;obtain⟨_,rfl⟩:=h;rw[hx] at h1;have h2:ev x=.slice none 0 0:=h1;exact⟨_,by simp[execOp,ho,resolve,invoke,builtin,eu,h2,Builtin.len_,ku hu w,goInt],lI _ _⟩
  ·rename_i ty ys hx;simp only[NG,ah,ak] at h;obtain⟨_,rfl⟩:=h;rw[hx] at h1;obtain⟨p,c,h2,_⟩:=a7O h1;exact⟨_,by simp[execOp,ho,resolve,invoke,builtin,eu,h2,Builtin.len_,ku hu w,goInt],lI _ _⟩
end
end
set_option linter.unusedSimpArgs false
set_option linter.unusedVariables false
set_option maxRecDepth 20000
section
def CA (p:Value->Bool) (w:World) (g:Nat):Prop:=∀ i u,w.cell? ⟨g,i,none⟩=some u->p u=true
section
variable {P:Program} {p:Value->Bool} (w:World)
def CAv (p:Value->Bool) (w:World) (v:Value):Prop:=∀ g,v.ownBlock=some g->CA p w g
theorem CA.of_cells {p:Value->Bool} {w:World} {g:Nat} {cur:Array Value} {e:TypeId} (hg:w.heap[g]?=some (.cells cur e (0,0))) (h:∀ u ∈ cur.toList,p u=true):CA p w g:=by intro i u hc;rw[yg w g i cur e (0,0) hg] at hc;exact h u (by rw[Ey];exact Array.mem_of_getElem? hc)
theorem CA.cells {w:World} {g:Nat} {cur:Array Value} {e:TypeId} (hg:w.heap[g]?=some (.cells cur e (0,0))) (h:CA p w g):∀ u ∈ cur.toList,p u=true:=by intro u hu;rw[Ey] at hu;obtain⟨i,hi,rfl⟩:=Array.mem_iff_getElem.1 hu;exact h i _ (by rw[yg w g i cur e (0,0) hg];exact Ap hi)
theorem zH {z:Array Value} (hz:∀ u ∈ z.toList,p u=true) (n:Nat):∀ u ∈ (Builtin.zeroCells z n).toList,p u=true:=by
 intro u hu;rw[Ey] at hu;obtain⟨i,hi,rfl⟩:=Array.mem_iff_getElem.1 hu;simp only[Builtin.zeroCells,Array.size_map,Array.size_range] at hi;simp only[Builtin.zeroCells,Array.getElem_map,Array.getElem_range];have hs:0<z.size:=by
  rcases Ai z.size with h|h
  ·rw[h] at hi;simp at hi
  ·exact h
 have hlt:i%z.size<z.size:=xg _ hs;rw[getElem!_pos z (i%z.size) hlt];exact hz _ (by rw[Ey];exact Array.getElem_mem hlt)
theorem GI (base:Nat) (t ty e:TypeId) (i:TypeInfo) (z:Value) (size bytes:Nat) (ht:P.underlying t=some (.slice e)) (hi:P.info? e=some i) (hz:i.zero=some z)
  (hsize:i.size=size) (hby:i.bytes=bytes) (hzs:z.cells.size=size) (hsz:0<size) (hzn:∀ u ∈ z.cells.toList,p u=true)
  (v:Value) (n:Nat) (xs:List Value) (hown:w.ownsRow base e size v n xs) (hv:CAv p w v)
  (a:Addr) (m c:Nat) (news:List Value) (hl:news.length=m*size) (hnews:∀ j u,news[j]?=some u->w.cell? (a.add j)=some u) (h1:∀ u ∈ news,u.oneCell'=true) (hnn:∀ u ∈ news,p u=true) (hm:0<m)
  (h63:n+m<=maxLen) (hbytes:(n+m)*bytes<=140737488355328) (hbase:base<=w.heap.size) :
  ∃ g cap w',(Builtin.append_ #[t,t] ty #[v,.slice (some a) m c]).run P w=.ok (.slice (some ⟨g,0,none⟩) (n+m) cap) w'/\w'.ownsRow base e size (.slice (some ⟨g,0,none⟩) (n+m) cap) (n+m) (xs++news)/\w.grownBy w' v.ownBlock/\CA p w' g/\(v.ownBlock=some g\/g=w.heap.size):=by
 obtain⟨v',w',hr,h2,h3,h4⟩:=run_append_own (P:=P) w base t ty e i z size bytes ht hi hz hsize hby hzs hsz v n xs hown a m c news hl hnews h1 h63 hbytes hbase;subst hsize;subst hby;have hsmall:n+m<=9223372036854775807:=by simp only[maxLen] at h63;omega
 have hz0:=fun k=>zH (z:=z.cells) hzn k;rcases hown.2 with⟨rfl,rfl⟩|⟨g,cap,cur,rfl,hbg,hg,hnc,hcm,hcs,htake⟩
 ·have hrun:=run_append_nil (P:=P) w t ty e i z ht hi hz a m c news hl hnews hm (by omega) (by have hb:=hbytes;simp only[qg] at hb;omega);rw[hrun] at hr;simp only[Result.ok.injEq] at hr;obtain⟨rfl,rfl⟩:=hr;refine⟨w.heap.size,_,_,by rw[qg];exact hrun,by simpa using h2,h3,?_,.inr rfl⟩;refine CA.of_cells (Dj w.drew _) (fun u hu=>?_);simp only[Array.toList_append,tu] at hu;rcases hu with hu|hu
  ·exact hnn u hu
  ·exact hz0 _ u hu
 ·by_cases hroom:n+m<=cap
  ·have hfit:n*i.size+news.length<=cur.size:=by rw[hl,hcs,<-Aq];exact jl _ hroom
   have hrun:=run_append_room (P:=P) w t ty e i ht hi g n cap cur hg a m c news hl hnews h1 hroom hfit;rw[hrun] at hr;simp only[Result.ok.injEq] at hr;obtain⟨rfl,rfl⟩:=hr;refine⟨g,cap,_,hrun,h2,h3,?_,.inl rfl⟩;have hcn:=CA.cells hg (hv g rfl);refine CA.of_cells (setRow_heap w g cur _ e _ hg) (fun u hu=>?_);simp only[tu] at hu;rcases hu with(hu|hu)|hu
   ·exact hcn u (Dx hu)
   ·exact hnn u hu
   ·exact hcn u (List.mem_of_mem_drop hu)
  ·have holds:∀ j u,xs[j]?=some u->w.cell? ((⟨g,0,none⟩:Addr).add j)=some u:=hown.cells (g:=g) rfl;have hrun:=run_append_grow (P:=P) w t ty e i z ht hi hz ⟨g,0,none⟩ n cap xs hown.1 holds a m c news hl hnews (by omega) (by omega) (growslice_fits (by omega) hbytes);rw[hrun] at hr;simp only[Result.ok.injEq] at hr;obtain⟨rfl,rfl⟩:=hr;refine⟨w.heap.size,_,_,hrun,h2,h3,?_,.inr rfl⟩;have hcn:=CA.cells hg (hv g rfl);refine CA.of_cells (Dj w.drew _) (fun u hu=>?_);simp only[Array.toList_append,tu] at hu;rcases hu with(hu|hu)|hu
   ·rw[<-htake] at hu;exact hcn u (Dx hu)
   ·exact hnn u hu
   ·exact hz0 _ u hu
end
end
end Go.Proofs.YtbkocjmmbkifjaaGreat
