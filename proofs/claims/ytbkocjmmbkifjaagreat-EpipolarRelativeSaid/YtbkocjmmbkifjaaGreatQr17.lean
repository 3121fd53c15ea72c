/-
  Lemmas for the theorem vrelative28_holds, part 17 of 35.
-/
import Derived.Test.YtbkocjmmbkifjaaGreatQr16
namespace Go.Proofs.YtbkocjmmbkifjaaGreat
open Go Go.RowKit
theorem jv:type_of% @decide_eq_false_iff_not:=@decide_eq_false_iff_not
theorem Dt:type_of% @true_and:=@true_and
set_option linter.unusedSimpArgs false
set_option linter.unusedVariables false
set_option maxRecDepth 20000
noncomputable def a1L (rt:Ty):Nat->TypeId->Option Ty
 | 0,_=>none
 | n+1,t=>if t=47 then some rt else if t=45 then some (.lf .big) else match Tryz.prog.underlying t with
  | some .bool=>some .bool
  | some (.int k)=>some (.int k)
  | some .string=>some (.lf .str)
  | some (.slice e)=>(a1L rt n e).map .list
  | some (.array m e)=>(a1L rt n e).map (.arr m)
  | some (.struct fs)=>fs.toList.foldr (fun f acc=>match a1L rt n f.type,acc with
   | some a,some b=>some (.pair a b)
   | _,_=>none) (some .unit)
  | _=>none
structure Hint where
 wr:List Nat
 kb:List Nat:=[]
 mt:List (Nat × Ty):=[]
def b8d:List (Nat × Ty)->Nat->Option Ty
 | [],_=>none
 | (s,t)::l,q=>if q=s then some t else b8d l q
noncomputable def told (h:Hint) (nc:FuncId->List At->List lK):Told:=⟨a1L (.lf .fO) 8,a1L (.lf .rat) 8,fun s=>h.wr.contains s || h.kb.contains s,fun s=>h.kb.contains s,b8d h.mt,nc⟩
structure Lib where
 l:List (FuncId × Ctr)
 ok:∀ p ∈ l,aJ Tryz.prog p.1 p.2
 n:List (FuncId × lK)
 okn:∀ p ∈ n,NOk Tryz.prog p.1 p.2
def zK {γ:Type}:List (FuncId × γ)->FuncId->List γ
 | [],_=>[]
 | (f,c)::l,g=>if g=f then c::zK l g else zK l g
theorem kZ {γ:Type}:∀ {l:List (FuncId × γ)} {g:FuncId} {c:γ},c ∈ zK l g->(g,c) ∈ l
 | (f,c')::l,g,c,h=>by
  simp only[zK] at h;split at h
  ·rename_i e;rcases jh.1 h with rfl|h
   ·rw[e];exact je ..
   ·exact jd _ (kZ h)
  ·exact jd _ (kZ h)
 | [],g,c,h=>by cases h
def Lib.nil:Lib:=⟨[],(fun p hp=>by cases hp),[],fun p hp=>by cases hp⟩
def Lib.add (L:Lib) (f:FuncId) (c:Ctr) (h:aJ Tryz.prog f c):Lib:=⟨(f,c)::L.l,fun p hp=>(jh.1 hp).elim (fun e=>by subst e;exact h) (fun hp=>L.ok p hp),L.n,L.okn⟩
def Lib.c4y (L:Lib) (f:FuncId) (c:lK) (h:NOk Tryz.prog f c):Lib:=⟨L.l,L.ok,(f,c)::L.n,fun p hp=>(jh.1 hp).elim (fun e=>by subst e;exact h) (fun hp=>L.okn p hp)⟩
def Lib.ad (L:Lib) {f:FuncId} {c:Ctr} (h:aJ Tryz.prog f c):Lib:=L.add f c h
def Lib.an (L:Lib) {f:FuncId} {c:lK} (h:NOk Tryz.prog f c):Lib:=L.c4y f c h
def nil0:Lib:=Lib.nil
noncomputable def Lib.book (L:Lib) (N:Nat) (h:Hint):Book:=⟨Tryz.prog,fun g _=>zK L.l g,told h (fun g _=>zK L.n g),N,fun _=>false⟩
noncomputable def Lib.a5J (L:Lib) (N:Nat) (h:Hint):Book:=⟨Tryz.prog,fun g _=>zK L.l g,told h (fun g _=>zK L.n g),N,fun s=>s==0⟩
theorem Lib.good (L:Lib) (N:Nat) (wr:Hint):(L.book N wr).Ok:=⟨fun g _ c h=>L.ok (g,c) (kZ h),fun g _ c h=>L.okn (g,c) (kZ h)⟩
theorem Lib.c5O (L:Lib) (N:Nat) (wr:Hint):(L.a5J N wr).Ok:=⟨fun g _ c h=>L.ok (g,c) (kZ h),fun g _ c h=>L.okn (g,c) (kZ h)⟩
theorem mixed:Tryz.prog.follows .mixedOrders=true:=by kernel_rfl
theorem aN (L:Lib) {f:FuncId} {fn:Func} {code:Code} {c:Ctr} (hint:Hint) (hf:Tryz.prog.funcs[f]?=some fn) (hb:fn.body=some code) (hargs:c.args.length<=fn.ntmps) (A:(nest c.args).den->List Ann)
  (h:∀ x,c.pre x->vwp (L.book fn.ntmps hint) code (A x) (a9e (L.book fn.ntmps hint) c.res fn.results.toList (c.fn x)) (sQ 0 c.args x) []):aJ Tryz.prog f c :=
 b9p (B:=L.book fn.ntmps hint) (L.good fn.ntmps hint) mixed hf hb rfl rfl hargs A h
theorem kL (L:Lib) {f:FuncId} {fn:Func} {code:Code} {c:Ctr} (wr:List Nat) (hf:Tryz.prog.funcs[f]?=some fn) (hb:fn.body=some code) (hargs:c.args.length<=fn.ntmps) (A:(nest c.args).den->List Ann)
  (h:∀ x,c.pre x->vwp (L.book fn.ntmps ⟨wr,[],[]⟩) code (A x) (a9e (L.book fn.ntmps ⟨wr,[],[]⟩) c.res fn.results.toList (c.fn x)) (sQ 0 c.args x) []):aJ Tryz.prog f c :=
 aN L ⟨wr,[],[]⟩ hf hb hargs A h
theorem qY (L:Lib) {f:FuncId} {fn:Func} {code:Code} {k:LK} {args:List Ty} {pre:(nest args).den->Prop} {made:(nest args).den->k.ty.den} {dec:∀ x,Dc (pre x)} (hint:Hint) (hf:Tryz.prog.funcs[f]?=some fn) (hb:fn.body=some code) (hargs:args.length<=fn.ntmps) (A:(nest args).den->List Ann)
  (h:∀ x,pre x->vwp (L.book fn.ntmps hint) code (A x) (b7c k (made x) fn.results.toList) (sQ 0 args x) []):NOk Tryz.prog f (@lK.mk k args pre made dec) :=
 c0r (B:=L.book fn.ntmps hint) (L.good fn.ntmps hint) mixed hf hb rfl rfl hargs A h
theorem a6M (L:Lib) {f:FuncId} {fn:Func} {code:Code} {k:LK} {args res:List Ty} {pre:k.ty.den->(nest args).den->Prop} {dec:∀ x y,Dc (pre x y)} {out:k.ty.den->(nest args).den->k.ty.den} {g:k.ty.den->(nest args).den->(nest res).den} (hint:Hint) (hf:Tryz.prog.funcs[f]?=some fn) (hb:fn.body=some code) (hargs:args.length+1<=fn.ntmps) (A:k.ty.den->(nest args).den->List Ann)
  (h:∀ x y,pre x y->vwp (L.a5J fn.ntmps hint) code (A x y) (b7d (L.a5J fn.ntmps hint) k (out x y) res fn.results.toList (g x y)) ((0,.own 0 0)::sQ 1 args y) [(0,k.res x 0)]):NOk Tryz.prog f (@lK.chg k args res pre out g dec) :=
 b6e (B:=L.a5J fn.ntmps hint) (L.c5O fn.ntmps hint) mixed hf hb rfl rfl hargs A h
theorem a1O {F:Nat->Prop} {w:World} (b:Bool):jU F w .bool (.bool b) b:=⟨_,rfl,rfl⟩
theorem a4e {F:Nat->Prop} {w:World} {v:Value} {b:Bool} (h:jU F w .bool v b):v=.bool b:=by obtain⟨cs,rfl,h2⟩:=h;rw[show cs=_ from h2];rfl
theorem WC {F:Nat->Prop} {w:World} {k:IntKind} (b:Int):jU F w (.int k) (.int k b) b:=⟨_,rfl,rfl⟩
theorem a2R {F:Nat->Prop} {w:World} {k:IntKind} {v:Value} {b:Int} (h:jU F w (.int k) v b):v=.int k b:=by obtain⟨cs,rfl,h2⟩:=h;rw[show cs=_ from h2];rfl
abbrev tQ:Ty:=.lf .rat
abbrev tI:Ty:=.int .i64
def cQ2 (pre:Rat->Rat->Prop) [hd:∀ x y,Dc (pre x y)] (g:Rat->Rat->Rat):Ctr:={ args:=[tQ,tQ],res:=[tQ],pre:=fun x=>pre x.1 x.2.1,fn:=fun x=>(g x.1 x.2.1,()),dec:=fun x=>hd x.1 x.2.1 }
def cQ1 (pre:Rat->Prop) [hd:∀ x,Dc (pre x)] (g:Rat->Rat):Ctr:={ args:=[tQ],res:=[tQ],pre:=fun x=>pre x.1,fn:=fun x=>(g x.1,()),dec:=fun x=>hd x.1 }
def cIQ (pre:Int->Prop) [hd:∀ x,Dc (pre x)] (g:Int->Rat):Ctr:={ args:=[tI],res:=[tQ],pre:=fun x=>pre x.1,fn:=fun x=>(g x.1,()),dec:=fun x=>hd x.1 }
set_option maxRecDepth 100000
set_option maxHeartbeats 4000000
theorem lS {n d:Int} {k:Nat} (hd:d≠0) (h:isz d<=k):isz ((Int.gcd n d:Nat):Int)<=k:=by refine au (BJ ?_) h;rw[Int.natAbs_natCast];have:=Nat.gcd_le_right n.natAbs (show 0<d.natAbs by omega);exact this
theorem gcd_ne {n d:Int} (hd:d≠0):((Int.gcd n d:Nat):Int)≠0:=by have:0<Int.gcd n d:=Int.gcd_pos_of_ne_zero_right _ hd;omega
theorem JL {n d:Int} (hd:0<d):n.fdiv ((Int.gcd n d:Nat):Int)=(Rat.divInt n d).num/\d.fdiv ((Int.gcd n d:Nat):Int)=(Rat.divInt n d).den:=by rw[pW hd,pV hd,Int.fdiv_eq_ediv_of_nonneg _ (by omega),Int.fdiv_eq_ediv_of_nonneg _ (by omega)];exact⟨rfl,rfl⟩
theorem a0S {n d:Int} (hd:d<0):(-n).fdiv ((Int.gcd (-n) (-d):Nat):Int)=(Rat.divInt n d).num/\(-d).fdiv ((Int.gcd (-n) (-d):Nat):Int)=(Rat.divInt n d).den:=by rw[<-vC n d];exact JL (by omega)
section
open Go.RowKit Go.Shelf
attribute [local go_sem] Oper.semAt_some
def aQ (x:Int):Int:=if -9223372036854775808<=x/\x<9223372036854775808 then x else 0
def bT (x:Int):Bool:=decide (-9223372036854775808<=x/\x<9223372036854775808)
def a0f:Nat:=9223372036854775808
theorem VR:a0f=9223372036854775808:=rfl
structure SBx (B NB:Nat) (b:Bool) (v z:Int) (r:Bool) (W:World):Prop where
 q:W.cell? ⟨B,0,none⟩=some (.bool b)
 c2:W.cell? ⟨B+1,0,none⟩=some (.int .i64 z)
 f2:W.frozen? ⟨B+1,0,none⟩=false
 c3:W.cell? ⟨B+1+1,0,none⟩=some (.bool r)
 f3:W.frozen? ⟨B+1+1,0,none⟩=false
 n:W.cell? ⟨NB,0,none⟩=some (.int .u64 v)
 fn:W.frozen? ⟨NB,0,none⟩=false
theorem SBx.kept {B NB:Nat} {b r:Bool} {v z:Int} {A W:World} {row:Option Nat} (hs:SBx B NB b v z r A) (hg:A.grownBy W row) (hr:∀ k,row=some k->∃ o,A.heap[k]?=some o/\o.isCells=false):SBx B NB b v z r W :=
 ⟨Eo hs.q hg hr,Eo hs.c2 hg hr,(frozen_kept hs.c2 hg hr).trans hs.f2,Eo hs.c3 hg hr,(frozen_kept hs.c3 hg hr).trans hs.f3,Eo hs.n hg hr,(frozen_kept hs.n hg hr).trans hs.fn⟩
theorem SBx.c9d {B NB:Nat} {b r:Bool} {v z:Int} {W:World} (h:SBx B NB b v z r W) (hn:B+1+1<NB) (v':Int):SBx B NB b v' z r (W.setCell ⟨NB,0,none⟩ (.int .u64 v')):=by
 refine⟨?_,?_,?_,?_,?_,?_,?_⟩
 ·rw[vk _ _ _ _ (by simp;omega)];exact h.q
 ·rw[vk _ _ _ _ (by simp;omega)];exact h.c2
 ·rw[xq];exact h.f2
 ·rw[vk _ _ _ _ (by simp;omega)];exact h.c3
 ·rw[xq];exact h.f3
 ·exact Am _ _ _ (by rw[h.n];rfl)
 ·rw[xq];exact h.fn
theorem SBx.b3F {B NB:Nat} {b r:Bool} {v z:Int} {W:World} (h:SBx B NB b v z r W) (hn:B+1+1<NB) (z':Int) (r':Bool):SBx B NB b v z' r' ((W.setCell ⟨B+1,0,none⟩ (.int .i64 z')).setCell ⟨B+1+1,0,none⟩ (.bool r')):=by
 refine⟨?_,?_,?_,?_,?_,?_,?_⟩
 ·rw[vk _ _ _ _ (by simp;omega),vk _ _ _ _ (by simp)];exact h.q
 ·rw[vk _ _ _ _ (by simp)];exact Am _ _ _ (by rw[h.c2];rfl)
 ·rw[xq,xq];exact h.f2
 ·exact Am _ _ _ (by rw[vk _ _ _ _ (by simp)];rw[h.c3];rfl)
 ·rw[xq,xq];exact h.f3
 ·rw[vk _ _ _ _ (by simp;omega),vk _ _ _ _ (by simp;omega)];exact h.n
 ·rw[xq,xq];exact h.fn
theorem FD {k:Nat} (h:k<=18446744073709551615):IntKind.u64.wrap (k:Int)=k:=by simp[IntKind.wrap,IntKind.bits,IntKind.signed];omega
theorem a0o {z:Int} (h0:0<=z) (h1:z<=18446744073709551615):IntKind.u64.wrap z=z:=by simp[IntKind.wrap,IntKind.bits,IntKind.signed];omega
theorem a9D {k:Nat} (h:k<=9223372036854775807):IntKind.i64.wrap (k:Int)=k:=by simp[IntKind.wrap,IntKind.bits,IntKind.signed];omega
theorem a5y {A:Nat} (h0:0<A) (h1:A<=9223372036854775808):IntKind.i64.wrap (IntKind.u64.wrap (-(A:Int)))=-(A:Int):=by simp[IntKind.wrap,IntKind.bits,IntKind.signed];omega
theorem a2Q {l:List Nat} (hl:Low l) {pre:List (Fin l.length)} (h:iO l.length pre) (hle:pre.length<=l.length):hval l pre<=val l:=by rw[YS h hle];have e:=val_append (l.take (l.length-pre.length)) (l.drop (l.length-pre.length));rw[yu] at e;have h1:1<=BB ^ (l.take (l.length-pre.length)).length:=Nat.pow_pos gU;have h2:val (l.drop (l.length-pre.length))<=BB ^ (l.take (l.length-pre.length)).length*val (l.drop (l.length-pre.length)):=Nat.le_mul_of_pos_left _ h1;omega
theorem b3Q (x:Int) (b:Bool) (p:Option Addr) (n c:Nat) (w:World) (hv:Raw w (.agg #[.bool b,.slice p n c]) x) (hlen:(dig x.natAbs).length<=3) (hbx:x≠0->b=decide (x<0)) :
  CallsIn Fence.wide 3 Tryz.prog 282 #[.agg #[.bool b,.slice p n c]] w fun e W'=>e=.returned (.tuple #[.int .i64 (aQ x),.bool (bT x)])/\Below w.heap.size w W':=by
 have hro:Fence.wide.round=none:=rfl;refine callsIn_of_wp_marks Tryz.func282 rfl trivial ?_ hro;simp only[Tryz.ntmps282,Dk,List.length_cons,List.length_nil,Nat.reduceAdd,Nat.reduceSub,Dy,Array.replicate_zero,Et,Ec,List.nil_append,List.cons_append];have hd3:decide ((3:Int)<(dig x.natAbs).length)=false:=by simp;omega
 have hv1:=((hv.alloc (.cells #[.bool b,.slice p n c] 45)).alloc (.cells #[.int .i64 0] 3)).alloc (.cells #[.bool false] 4);have q0:Bx (((w.alloc (.cells #[.bool b,.slice p n c] 45)).alloc (.cells #[.int .i64 0] 3)).alloc (.cells #[.bool false] 4)) w.heap.size [.bool b,.slice p n c]:=((Bx.new w [.bool b,.slice p n c] 45).alloc _).alloc _;have q1:Bx (((w.alloc (.cells #[.bool b,.slice p n c] 45)).alloc (.cells #[.int .i64 0] 3)).alloc (.cells #[.bool false] 4)) (w.heap.size+1) [.int .i64 0]:=by simpa using (Bx.new (w.alloc (.cells #[.bool b,.slice p n c] 45)) [.int .i64 0] 3).alloc (.cells #[.bool false] 4)
 have q2:Bx (((w.alloc (.cells #[.bool b,.slice p n c] 45)).alloc (.cells #[.int .i64 0] 3)).alloc (.cells #[.bool false] 4)) (w.heap.size+1+1) [.bool false]:=by simpa using Bx.new ((w.alloc (.cells #[.bool b,.slice p n c] 45)).alloc (.cells #[.int .i64 0] 3)) [.bool false] 4
 have hB0:Below w.heap.size w (((w.alloc (.cells #[.bool b,.slice p n c] 45)).alloc (.cells #[.int .i64 0] 3)).alloc (.cells #[.bool false] 4)):=(((gy _ _).alloc (aj _) _).alloc (by simp) _).alloc (by simp;omega) _
 gi_wp2_with (refine⟨trivial,?_⟩;gi_at_call 192;refine(callsIn_wide.2 (yN _ x _ hv1)).mono ?_;rintro e w1 ⟨s1,rfl,hs1,hb1⟩;obtain⟨p1,c1,rfl,hl1,hm1⟩:=hs1.form)
 gi_wp2_with (refine⟨trivial,?_⟩;gi_at_call 278;refine(vY Fence.wide 2 trivial hro _ _ _ _).mono ?_;rintro e w' ⟨rfl,rfl⟩)
 have hlow:=bZ x.natAbs;have HX:=bf (bM x.natAbs);have HC:=bf (dJ x.natAbs);have k0:=q0.to hb1;have k1:=q1.to hb1;have k2:=q2.to hb1;have hBw1:=hB0.trans (hb1.mono (by simp;omega));have hz1:=k2.1;clear hv hv1 q0 q1 q2 hB0 hb1;generalize hll:dig x.natAbs=l at *
 have bN:=Bx.new w1 [.int .u64 0] 147;have bS:=Boxed.new (w1.alloc (.cells #[.int .u64 0] 147)) 43 (.slice p1 l.length c1);rw[Ce] at bS;have hA:Below w1.heap.size w1 ((w1.alloc (.cells #[.int .u64 0] 147)).alloc (.cells #[.slice p1 l.length c1] 43)):=((gy _ w1).alloc (aj _) _).alloc (by simp) _;refine wpIn_rangeFunc_ownG (n:=3) (α:=Fin l.length) hro (by omega) (gf:=288) (lb:=#[.pointer (some ⟨w1.heap.size+1,0,none⟩)]) rfl trivial (enters_of Tryz.func288 (by kernel_rfl) rfl)
  (yF Fence.wide 2 trivial hro (by omega) (w1.heap.size+1) w1.heap.size _ l _ (by simp) (by simp;omega) bS.cell (hs1.b.below hA)) (fun h k=>KB.trans h k) (KB.b (by simp;omega) (by simp)) (gy _ _) (fun _=>rfl)
  (fun(pre:List (Fin l.length)) W=>(SBx w.heap.size w1.heap.size b (hval l pre:Nat) 0 false W/\hval l pre<=a0f)/\Below w.heap.size w W)
  (fun cd (pre:List (Fin l.length)) W=>(cd=.ret/\(∃ v,SBx w.heap.size w1.heap.size b v 0 false W)/\a0f<hval l pre)/\Below w.heap.size w W)
  (OwnFrom.and (Own.from (fun s A B row hs hg hr=>⟨hs.1.kept hg hr,hs.2⟩) _) (ownFrom_below (aj _) (by simp;omega)))
  (fun c=>OwnFrom.and (Own.from (fun s A B row hs hg hr=>by obtain⟨hc,⟨v,h1⟩,h2⟩:=hs;exact⟨hc,⟨v,h1.kept hg hr⟩,h2⟩) _) (ownFrom_below (aj _) (by simp;omega)))
  ⟨⟨by
    have kk0:=k0.to hA;have kk1:=k1.to hA;have kk2:=k2.to hA;have nn:=bN.alloc (.cells #[.slice p1 l.length c1] 43);exact⟨kk0.c0,kk1.c0,kk1.f0,kk2.c0,kk2.f0,nn.c0,nn.f0⟩,by simp[hval,a0f]⟩,hBw1.trans (hA.mono (by omega))⟩
  (fun(x:Fin l.length)=>{ tmps:=#[.agg #[.bool b,.slice p n c],.pointer (some ⟨w.heap.size,0,none⟩),.pointer (some ⟨w.heap.size+1,0,none⟩),.pointer (some ⟨w.heap.size+1+1,0,none⟩),.slice p1 l.length c1,.pointer (some ⟨w1.heap.size,0,none⟩),undef,.int .u32 (gr l x.1:Nat),.agg #[.bool b,.slice p n c],.slice p1 l.length c1,.slice p1 l.length c1,.int .i64 (l.length:Nat),.bool false,.slice p1 l.length c1,.func (.func 288) #[] #[.pointer (some ⟨w1.heap.size+1,0,none⟩)],.int .i64 (x.1:Nat),.int .u32 (gr l x.1:Nat),undef,undef,undef,undef,undef,undef,undef,undef,undef,undef,undef,undef,undef,undef,undef,undef,undef,undef,undef,undef,undef,undef,undef,undef,undef,undef,undef],defers:=[] }) ?assign ?body ?done ?stop
 case assign =>
  intro l x W K hK
  gi_wp2
  exact hK
 case body =>
  rintro lo pre y W ⟨⟨hS,hT⟩,hB⟩ hpl;have hg:=gJ hlow y.1;have HS:=bf (EM l pre y);obtain⟨hv,hhv⟩:∃ hv,hval l pre=hv:=⟨_,rfl⟩;rw[hhv] at hS hT HS;obtain⟨g,hgg⟩:∃ g,gr l y.1=g:=⟨_,rfl⟩;rw[hgg] at hg HS ⊢;have c1':=hS.n;have f1':=hS.fn;have c2':=hS.c2;have f2':=hS.f2;have c3':=hS.c3;have f3':=hS.f3;obtain⟨m,hm⟩:∃ m:Nat,(9223372036854775808:Int)-g=m:=⟨9223372036854775808-g,by omega⟩;obtain⟨t,ht⟩:∃ t:Nat,(m:Int) / 1000000000=t:=⟨m / 1000000000,by simp⟩;have hmn:m+g=9223372036854775808:=by omega
  have htn:m / 1000000000=t:=by omega
  have ht9:t<=9223372036:=by omega
  by_cases hle:hv<=t
  ·have hv9:hv<=9223372036:=by omega
   have hs9:hv*1000000000+g<=9223372036854775808:=by omega
   have d1:decide ((t:Int)<hv)=false:=by simp;omega
   have d2:decide (t<hv)=false:=by simp;omega
   have HT:=bf (show hv*BB+g<=a0f by rw[bV,VR];exact hs9);have e1:IntKind.u64.wrap ((hv:Int)*1000000000)=(hv:Int)*1000000000:=a0o (by omega) (by omega);have e2:IntKind.u64.wrap ((hv:Int)*1000000000+g)=(hv:Int)*1000000000+g:=a0o (by omega) (by omega);have e3:IntKind.u64.wrap (m:Int)=m:=FD (by omega);have e4:IntKind.u64.wrap (t:Int)=t:=FD (by omega);clear hmn htn hs9 hT
   gi_wp2
   exact⟨(ug _ _ _).from _,KB.setCell (p:=⟨w1.heap.size,0,none⟩) (aj _) (by simp) _,⟨by rw[HS.out,bV];simpa using hS.c9d hz1 ((hv:Int)*1000000000+g),by rw[HS.out];exact HT.out⟩,hB.setCell (p:=⟨w1.heap.size,0,none⟩) (by simp;omega) _⟩
  ·have d1:decide ((t:Int)<hv)=true:=by simp;omega
   have d2:decide (t<hv)=true:=by simp;omega
   have e3:IntKind.u64.wrap (m:Int)=m:=FD (by omega);have e4:IntKind.u64.wrap (t:Int)=t:=FD (by omega);have HT:=bf (show a0f<hv*BB+g by rw[bV,VR];omega);clear hmn htn hT hle
   gi_wp2
   exact⟨((ug _ _ _).trans (ug _ _ _)).from _,⟨rfl,⟨_,hS.b3F hz1 0 false⟩,by rw[HS.out];exact HT.out⟩,(hB.setCell (p:=⟨w.heap.size+1,0,none⟩) (by simp) _).setCell (p:=⟨w.heap.size+1+1,0,none⟩) (by simp;omega) _⟩
 case done =>
  rintro D ys W hD ⟨hbk,hyl⟩ ⟨⟨hS,hT⟩,hB⟩ hK;rw[a2P hbk hyl] at hS hT;obtain⟨A,hA'⟩:∃ A,val l=A:=⟨_,rfl⟩;rw[hA'] at hS hT HX;have hxA:=HX.out;have q1':=hS.q;have c1':=hS.n;have f1':=hS.fn;have c2':=hS.c2;have f2':=hS.f2;have c3':=hS.c3;have f3':=hS.f3;have hA0:l=[]↔A=0:=by rw[<-hll,jA];omega
  have b1u:A<=9223372036854775808:=hT;have hlz:l.length=0↔A=0:=by rw[<-hA0];exact List.length_eq_zero_iff
  by_cases hneg:x<0
  ·have hb:b=true:=by rw[hbx (by omega)];simpa using hneg
   subst hb;have hl0:decide ((0:Int)<l.length)=true:=by simp;omega
   have hl0':decide (0<l.length)=true:=by simp;omega
   have hw:=a5y (A:=A) (by omega) b1u;have HF:Hid (aQ x=-(A:Int)/\bT x=true):=by unfold Hid aQ bT;rw[dn (by omega)];exact⟨by omega,by simp;omega⟩
   have hpos:0<l.length:=by simpa using hl0'
   clear hT b1u hlz hA0 hxA hneg
   gi_wp2
   have hS2:=hS.b3F hz1 (-(A:Int)) true;have hK':=((ug W ⟨w.heap.size+1,0,none⟩ (.int .i64 (-(A:Int)))).trans (ug _ ⟨w.heap.size+1+1,0,none⟩ (.bool true))).same D _ hK rfl;refine⟨by simp,.inl ⟨_,_,rfl,Dv hK',?_⟩⟩;have hS':=hS2.kept (Ep _ D (.deferred none)) (fun r e=>by cases e;exact⟨_,hK',rfl⟩);refine⟨.tuple #[.int .i64 (-(A:Int)),.bool true],?_,by rw[HF.out.1,HF.out.2],((hB.setCell (p:=⟨w.heap.size+1,0,none⟩) (by simp) _).setCell (p:=⟨w.heap.size+1+1,0,none⟩) (by simp;omega) _).trans (belowK_b (w:=w) (aj _) _ D _ _ (by simp at hD;omega) hK' rfl rfl)⟩;simp[results,Tryz.results282,go_sem,hS'.c2,hS'.c3]
  ·have hxe:x=(A:Int):=by omega
   by_cases ht:A=9223372036854775808
   ·have hb:b=false:=by rw[hbx (by omega)];simpa using hneg
    subst hb;have hl0:decide ((0:Int)<l.length)=true:=by simp;omega
    have hl0':decide (0<l.length)=true:=by simp;omega
    have hpos:0<l.length:=by simpa using hl0'
    have hq:((A:Int)==9223372036854775808)=true:=by simp;omega
    have HF:Hid (aQ x=0/\bT x=false):=by unfold Hid aQ bT;rw[bn (by omega)];exact⟨rfl,by simp;omega⟩
    have HT:=bf ht;clear hT b1u hlz hA0 hxA hneg hxe ht
    gi_wp2
    have hS2:=hS.b3F hz1 (0) false;have hK':=((ug W ⟨w.heap.size+1,0,none⟩ (.int .i64 (0))).trans (ug _ ⟨w.heap.size+1+1,0,none⟩ (.bool false))).same D _ hK rfl;refine⟨by simp,.inl ⟨_,_,rfl,Dv hK',?_⟩⟩;have hS':=hS2.kept (Ep _ D (.deferred none)) (fun r e=>by cases e;exact⟨_,hK',rfl⟩);refine⟨.tuple #[.int .i64 (0),.bool false],?_,by rw[HF.out.1,HF.out.2],((hB.setCell (p:=⟨w.heap.size+1,0,none⟩) (by simp) _).setCell (p:=⟨w.heap.size+1+1,0,none⟩) (by simp;omega) _).trans (belowK_b (w:=w) (aj _) _ D _ _ (by simp at hD;omega) hK' rfl rfl)⟩;simp[results,Tryz.results282,go_sem,hS'.c2,hS'.c3]
   ·have hq:((A:Int)==9223372036854775808)=false:=by simp;omega
    have hw:IntKind.i64.wrap (A:Int)=A:=a9D (by omega);have hA9:A<=9223372036854775807:=by omega
    have HF:Hid (aQ x=(A:Int)/\bT x=true):=by unfold Hid aQ bT;rw[dn (by omega)];exact⟨hxe,by simp;omega⟩
    by_cases hl:l=[]
    ·have hl0:decide ((0:Int)<l.length)=false:=by rw[hl];rfl
     have hl0':decide (0<l.length)=false:=by rw[hl];rfl
     have hl9:¬ 0<l.length:=by simpa using hl0'
     have HT:=bf ht;have HL:=bf hl;clear hT b1u hlz hA0 hxA hneg hxe ht hl
     gi_wp2
     have hS2:=hS.b3F hz1 (A:Int) true;have hK':=((ug W ⟨w.heap.size+1,0,none⟩ (.int .i64 (A:Int))).trans (ug _ ⟨w.heap.size+1+1,0,none⟩ (.bool true))).same D _ hK rfl;refine⟨by simp,.inl ⟨_,_,rfl,Dv hK',?_⟩⟩;have hS':=hS2.kept (Ep _ D (.deferred none)) (fun r e=>by cases e;exact⟨_,hK',rfl⟩);refine⟨.tuple #[.int .i64 (A:Int),.bool true],?_,by rw[HF.out.1,HF.out.2],((hB.setCell (p:=⟨w.heap.size+1,0,none⟩) (by simp) _).setCell (p:=⟨w.heap.size+1+1,0,none⟩) (by simp;omega) _).trans (belowK_b (w:=w) (aj _) _ D _ _ (by simp at hD;omega) hK' rfl rfl)⟩;simp[results,Tryz.results282,go_sem,hS'.c2,hS'.c3]
    ·have hl8:0<l.length:=yc.2 hl;have hb:b=false:=by rw[hbx (by omega)];simpa using hneg
     subst hb;have hl0:decide ((0:Int)<l.length)=true:=by simp;omega
     have hl0':decide (0<l.length)=true:=by simp;omega
     have HT:=bf ht;have HL:=bf hl;clear hT b1u hlz hA0 hxA hneg hxe ht hl
     gi_wp2
     have hS2:=hS.b3F hz1 (A:Int) true;have hK':=((ug W ⟨w.heap.size+1,0,none⟩ (.int .i64 (A:Int))).trans (ug _ ⟨w.heap.size+1+1,0,none⟩ (.bool true))).same D _ hK rfl;refine⟨by simp,.inl ⟨_,_,rfl,Dv hK',?_⟩⟩;have hS':=hS2.kept (Ep _ D (.deferred none)) (fun r e=>by cases e;exact⟨_,hK',rfl⟩);refine⟨.tuple #[.int .i64 (A:Int),.bool true],?_,by rw[HF.out.1,HF.out.2],((hB.setCell (p:=⟨w.heap.size+1,0,none⟩) (by simp) _).setCell (p:=⟨w.heap.size+1+1,0,none⟩) (by simp;omega) _).trans (belowK_b (w:=w) (aj _) _ D _ _ (by simp at hD;omega) hK' rfl rfl)⟩;simp[results,Tryz.results282,go_sem,hS'.c2,hS'.c3]
 case stop =>
  rintro D cd pre W hD ⟨hbk,hpl⟩ ⟨⟨rfl,⟨v,hS⟩,hgt⟩,hB⟩ hK;have hle:=a2Q hlow hbk hpl;have HF:Hid (aQ x=0/\bT x=false):=by have h1:=HX.out;rw[VR] at hgt;unfold Hid aQ bT;rw[bn (by omega)];exact⟨rfl,by simp;omega⟩
  clear hle hgt
  gi_wp2
  refine⟨by simp,.inl ⟨_,_,rfl,Dv hK,?_⟩⟩;have hS':=hS.kept (Ep _ D (.deferred none)) (fun r e=>by cases e;exact⟨_,hK,rfl⟩);refine⟨.tuple #[.int .i64 0,.bool false],?_,by rw[HF.out.1,HF.out.2],hB.trans (belowK_b (w:=w) (aj _) W D _ _ (by simp at hD;omega) hK rfl rfl)⟩;simp[results,Tryz.results282,go_sem,hS'.c2,hS'.c3]
theorem a5l (x:Int) (b:Bool) (p:Option Addr) (n c:Nat) (w:World) (hv:Raw w (.agg #[.bool b,.slice p n c]) x) (hlen:3<(dig x.natAbs).length) :
  Calls Tryz.prog 282 #[.agg #[.bool b,.slice p n c]] w fun e W'=>e=.returned (.tuple #[.int .i64 (aQ x),.bool (bT x)])/\Below w.heap.size w W':=by
 have hd3:decide ((3:Int)<(dig x.natAbs).length)=true:=by simp;omega
 have hv1:=((hv.alloc (.cells #[.bool b,.slice p n c] 45)).alloc (.cells #[.int .i64 0] 3)).alloc (.cells #[.bool false] 4);have q1:Bx (((w.alloc (.cells #[.bool b,.slice p n c] 45)).alloc (.cells #[.int .i64 0] 3)).alloc (.cells #[.bool false] 4)) (w.heap.size+1) [.int .i64 0]:=by simpa using (Bx.new (w.alloc (.cells #[.bool b,.slice p n c] 45)) [.int .i64 0] 3).alloc (.cells #[.bool false] 4)
 have q2:Bx (((w.alloc (.cells #[.bool b,.slice p n c] 45)).alloc (.cells #[.int .i64 0] 3)).alloc (.cells #[.bool false] 4)) (w.heap.size+1+1) [.bool false]:=by simpa using Bx.new ((w.alloc (.cells #[.bool b,.slice p n c] 45)).alloc (.cells #[.int .i64 0] 3)) [.bool false] 4
 have hB0:Below w.heap.size w (((w.alloc (.cells #[.bool b,.slice p n c] 45)).alloc (.cells #[.int .i64 0] 3)).alloc (.cells #[.bool false] 4)):=(((gy _ _).alloc (aj _) _).alloc (by simp) _).alloc (by simp;omega) _;have HF:Hid (aQ x=0/\bT x=false):=by have h1:=qW hlen;rw[bV] at h1;unfold Hid aQ bT;rw[bn (by omega)];exact⟨rfl,by simp;omega⟩
 go_enter Tryz.func282,Tryz.ntmps282
 go_wp2_with fail
 refine(yN _ x _ hv1).mono ?_;rintro e w1 ⟨s1,rfl,hs1,hb1⟩;obtain⟨p1,c1,rfl,hl1,hm1⟩:=hs1.form;have k1:=q1.to hb1;have k2:=q2.to hb1;have r0:=k1.c0;have f0:=k1.f0;have r1:=k2.c0;have f1:=k2.f0;have hBw1:=Below.tr hB0 hb1
 go_wp2_with fail
 exact xk (v:=.tuple #[.int .i64 0,.bool false]) (by simp[results,Tryz.results282,go_sem,r0,r1]) rfl ⟨by rw[HF.out.1,HF.out.2],(hBw1.setCell (p:=⟨w.heap.size+1,0,none⟩) (by simp) _).setCell (p:=⟨w.heap.size+1+1,0,none⟩) (by simp;omega) _⟩
theorem a0d (v:Value) (x:Int) (w:World) (hv:Raw w v x) :
  Calls Tryz.prog 282 #[v] w fun e W'=>e=.returned (.tuple #[.int .i64 (aQ x),.bool (bT x)])/\Below w.heap.size w W':=by
 obtain⟨b,p,n,c,rfl⟩:=hv.form;by_cases h:(dig x.natAbs).length<=3
 ·exact callsIn_wide.1 (b3Q x b p n c w hv h (fun h=>hv.sign h))
 ·exact a5l x b p n c w hv (by omega)
end
set_option maxRecDepth 20000
theorem aP {G:Prop} (V:Prop) (h:V=G) (v:V):G:=h ▸ v
abbrev asT (α:Type) (x:α):α:=x
abbrev aC (α:Type):List α:=[]
abbrev aB (n:Nat):Int:=(n:Int)
abbrev aH (n:Int):Rat:=(n:Rat)
abbrev aA.{u} {α:Sort u} {p:α->Prop} (x:Subtype p):α:=x.1
abbrev tB:Ty:=.bool
abbrev tM:Ty:=.list (.list tQ)
noncomputable def c5p (pre:Rat->Rat->Prop) [hd:∀ x y,Dc (pre x y)] (g:Rat->Rat->Bool):Ctr:={ args:=[tQ,tQ],res:=[tB],pre:=fun x=>pre x.1 x.2.1,fn:=fun x=>(g x.1 x.2.1,()),dec:=fun x=>hd x.1 x.2.1 }
noncomputable def b9j (pre:Rat->Rat->Prop) [hd:∀ x y,Dc (pre x y)] (g:Rat->Rat->Int):Ctr:={ args:=[tQ,tQ],res:=[tI],pre:=fun x=>pre x.1 x.2.1,fn:=fun x=>(g x.1 x.2.1,()),dec:=fun x=>hd x.1 x.2.1 }
noncomputable def cQI (pre:Rat->Prop) [hd:∀ x,Dc (pre x)] (g:Rat->Int):Ctr:={ args:=[tQ],res:=[tI],pre:=fun x=>pre x.1,fn:=fun x=>(g x.1,()),dec:=fun x=>hd x.1 }
abbrev aV (i:Int):Prop:=-9223372036854775808<=i/\i<=9223372036854775807
def c6P (x:Int):Decidable (aV x):=inferInstance
def c4p (x y:Int):Decidable (aV x/\aV y/\y≠0):=inferInstance
noncomputable def a9X:Ctr:={ args:=[tI,tI],res:=[tQ,tI],pre:=fun x=>aV x.1/\aV x.2.1/\(show Int from x.2.1)≠0,fn:=fun x=>(Rat.divInt x.1 x.2.1,(0:Int),()),dec:=fun x=>⟨c4p x.1 x.2.1⟩ }
def bP:aI:=⟨false,0,[],[]⟩
abbrev tR:Ty:=.lf .fO
abbrev tMR:Ty:=.list (.list tR)
noncomputable def cVal (K:Nat):Ctr:=⟨[tR],[tB],fun x=>(show aI from x.1).n<=K/\(show aI from x.1).m<=K,fun x=>((show aI from x.1).ok,())⟩
def WS (e:Int) (x y:Rat):aI × Int × Unit:=if y=0 then (bP,e,()) else (dK (x / y),(0:Int),())
noncomputable def a9V (K:Nat) (e:Int):Ctr:=⟨[tQ,tQ],[tR,tI],fun x=>rsz x.1<=K/\rsz x.2.1<=K,fun x=>WS e x.1 x.2.1⟩
abbrev s4 (x:Rat):Prop:=rsz x<=400000000
abbrev s44 (x y:Rat):Prop:=rsz x<=400000000/\rsz y<=400000000
abbrev s19 (x y:Rat):Prop:=rsz x<=190000000/\rsz y<=190000000
abbrev tZ:Ty:=.lf .big
theorem XF {F:Nat->Prop} {w:World} {v:Value} {x:Int} (h:jU F w tZ v x):eY w v x:=by obtain⟨cs,rfl,h2⟩:=h;exact h2
theorem a0k {F:Nat->Prop} {w:World} {v:Value} {x:Int} (h:eY w v x):jU F w tZ v x:=by obtain⟨b,p,c,rfl,_⟩:=a5I h;exact⟨_,rfl,h⟩
def cZ2 (g:Int->Int->Int):Ctr:=⟨[tZ,tZ],[tZ],fun x=>isz x.1<=1000000000/\isz x.2.1<=1000000000,fun x=>(g x.1 x.2.1,())⟩
theorem a9Z {f:FuncId} {g:Int->Int->Int} (h:∀ (v u:Value) (x y:Int) (w:World),Raw w v x->Raw w u y->isz x<=1000000000->isz y<=1000000000->Calls Tryz.prog f #[v,u] w (FI (g x y) w)):aJ Tryz.prog f (cZ2 g):=by intro F w vs x hF hvs hp;obtain⟨v,vs',rfl,h1,u,vs'',rfl,h2,h3⟩:=hvs;have h3:vs''=[]:=h3;subst h3;refine(h v u x.1 x.2.1 w (XF h1).raw (XF h2).raw hp.1 hp.2).mono ?_;rintro e w' ⟨r,rfl,hr,hb⟩;exact⟨r,rfl,a0k hr,hb⟩
def cZ1 (g:Int->Int):Ctr:=⟨[tZ],[tZ],fun x=>isz x.1<=1000000000,fun x=>(g x.1,())⟩
def cIZ:Ctr:={ args:=[tI],res:=[tZ],pre:=fun x=>aV x.1,fn:=fun x=>(x.1,()),dec:=fun x=>⟨c6P x.1⟩ }
theorem a4h {f:FuncId} (h:∀ (x:Int) (w:World),-9223372036854775808<=x->x<=9223372036854775807->Calls Tryz.prog f #[.int .i64 x] w (FI x w)):aJ Tryz.prog f cIZ:=by intro F w vs x hF hvs hp;obtain⟨v,vs',rfl,h1,h3⟩:=hvs;have h3:vs'=[]:=h3;subst h3;rw[a2R h1];refine(h x.1 w hp.1 hp.2).mono ?_;rintro e w' ⟨r,rfl,hr,hb⟩;exact⟨r,rfl,a0k hr,hb⟩
def cZI (g:Int->Int):Ctr:=⟨[tZ],[tI],fun x=>True,fun x=>(g x.1,())⟩
def a4j:Ctr:=⟨[tZ],[tI,tB],fun x=>True,fun x=>(aQ x.1,bT x.1,())⟩
theorem XG {f:FuncId} (h:∀ (v:Value) (x:Int) (w:World),Raw w v x->Calls Tryz.prog f #[v] w (fun e w'=>e=.returned (.tuple #[.int .i64 (aQ x),.bool (bT x)])/\Below w.heap.size w w')):aJ Tryz.prog f a4j:=by intro F w vs x hF hvs hp;obtain⟨v,vs',rfl,h1,h3⟩:=hvs;have h3:vs'=[]:=h3;subst h3;refine(h v x.1 w (XF h1).raw).mono ?_;rintro e w' ⟨rfl,hb⟩;exact⟨_,rfl,⟨[_,_],rfl,_,_,rfl,WC _,_,_,rfl,a1O _,rfl⟩,hb⟩
def cDiv:Ctr:=⟨[tZ,tZ],[tZ,tZ,tI],fun x=>isz x.1<=1000000000/\isz x.2.1<=1000000000/\(show Int from x.2.1)≠0,fun x=>(Int.fdiv x.1 x.2.1,Int.fmod x.1 x.2.1,(0:Int),())⟩
def c8u (K:Nat) (g:Int->Int):Ctr:=⟨[tZ],[tI],fun x=>isz x.1<=K,fun x=>(g x.1,())⟩
def b4D (K:Nat):Ctr:=⟨[tZ],[tI,tB],fun x=>isz x.1<=K,fun x=>(aQ x.1,bT x.1,())⟩
def c5a (K:Nat):Ctr:=⟨[tZ,tZ],[tZ,tZ,tI],fun x=>isz x.1<=K/\isz x.2.1<=K/\(show Int from x.2.1)≠0,fun x=>(Int.fdiv x.1 x.2.1,Int.fmod x.1 x.2.1,(0:Int),())⟩
def newT (e x y:Int):aI × Int × Unit:=if y=0 then (bP,e,()) else (dK (Rat.divInt x y),(0:Int),())
def cNew (K:Nat) (e:Int):Ctr:=⟨[tZ,tZ],[tR,tI],fun x=>isz x.1<=K/\isz x.2.1<=K,fun x=>newT e x.1 x.2.1⟩
def c5y (g:Int->Int->Int):Ctr:=⟨[tZ,tZ],[tI],fun x=>True,fun x=>(g x.1 x.2.1,())⟩
theorem zP0:(∀ {b:Bool} {p q:Prop},ifB b p q↔(b=true->p)/\(b=false->q))/\(∀ {p:Prop} [Decidable p],(decide p=true)=p)/\(∀ {p:Prop} {x:Decidable p},decide p=false↔¬p):=⟨gZ,jc,jv⟩
theorem zP1:((⟨false,0,[],[]⟩:aI)=bP)/\(∀ n:Nat,(n:Int).toNat=n)/\((∀ {b:Bool} {p q:Prop},ifB b p q↔(b=true->p)/\(b=false->q))/\(∀ {p:Prop} [Decidable p],(decide p=true)=p)/\(∀ {p:Prop} {x:Decidable p},decide p=false↔¬p))/\(∀ p:Prop,(True/\p)=p)/\(∀ p:Prop,(p/\True)=p)/\(∀ {α:Type} {l:List α} {i:Nat} {a:α},(l.set i a).length=l.length)/\(∀ {n:Nat},(List.range n).length=n):=⟨rfl,Int.toNat_natCast,zP0,Dt,Cb,qp,jr⟩
end Go.Proofs.YtbkocjmmbkifjaaGreat
