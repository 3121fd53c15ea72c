/-
  Lemmas for the theorem vnulls_holds, part 20 of 36.
-/
import Derived.Deep.RegionWith
import Derived.Test.YtgplhbhfdgempaaGreatNu06
import Derived.Test.YtgplhbhfdgempaaGreatNu08
import Derived.Test.YtgplhbhfdgempaaGreatNu19
namespace Go.Proofs.YtgplhbhfdgempaaGreat
open Go Go.RowKit
set_option linter.unusedSimpArgs false
set_option linter.unusedVariables false
set_option maxRecDepth 20000
noncomputable def b0C (rt:Ty):Nat->TypeId->Option Ty
 | 0,_=>none
 | n+1,t=>if t=64 then some rt else if t=62 then some (.lf .big) else match Tryz.prog.underlying t with
  | some .bool=>some .bool
  | some (.int k)=>some (.int k)
  | some .string=>some (.lf .str)
  | some (.slice e)=>(b0C rt n e).map .list
  | some (.array m e)=>(b0C rt n e).map (.arr m)
  | some (.struct fs)=>fs.toList.foldr (fun f acc=>match b0C rt n f.type,acc with
   | some a,some b=>some (.pair a b)
   | _,_=>none) (some .unit)
  | _=>none
structure Hint where
 wr:List Nat
 kb:List Nat:=[]
 mt:List (Nat × Ty):=[]
def b3d:List (Nat × Ty)->Nat->Option Ty
 | [],_=>none
 | (s,t)::l,q=>if q=s then some t else b3d l q
noncomputable def told (h:Hint) (nc:FuncId->List yT):Told:=⟨b0C (.lf .dD) 8,b0C (.lf .rat) 8,fun s=>h.wr.contains s || h.kb.contains s,fun s=>h.kb.contains s,b3d h.mt,nc⟩
structure Lib where
 l:List (FuncId × Ctr)
 ok:∀ p ∈ l,aT Tryz.prog p.1 p.2
 n:List (FuncId × yT)
 okn:∀ p ∈ n,NOk Tryz.prog p.1 p.2
def MH {γ:Type}:List (FuncId × γ)->FuncId->List γ
 | [],_=>[]
 | (f,c)::l,g=>if g=f then c::MH l g else MH l g
theorem rY {γ:Type}:∀ {l:List (FuncId × γ)} {g:FuncId} {c:γ},c ∈ MH l g->(g,c) ∈ l
 | (f,c')::l,g,c,h=>by
  simp only[MH] at h
  split at h
  ·rename_i e
   rcases List.mem_cons.1 h with rfl|h
   ·rw[e];exact List.mem_cons_self ..
   ·exact List.mem_cons_of_mem _ (rY h)
  ·exact List.mem_cons_of_mem _ (rY h)
 | [],g,c,h=>by cases h
def Lib.nil:Lib:=⟨[],(fun p hp=>by cases hp),[],fun p hp=>by cases hp⟩
def Lib.add (L:Lib) (f:FuncId) (c:Ctr) (h:aT Tryz.prog f c):Lib:=⟨(f,c)::L.l,fun p hp=>(List.mem_cons.1 hp).elim (fun e=>by subst e;exact h) (fun hp=>L.ok p hp),L.n,L.okn⟩
def Lib.c0o (L:Lib) (f:FuncId) (c:yT) (h:NOk Tryz.prog f c):Lib:=⟨L.l,L.ok,(f,c)::L.n,fun p hp=>(List.mem_cons.1 hp).elim (fun e=>by subst e;exact h) (fun hp=>L.okn p hp)⟩
def Lib.ad (L:Lib) {f:FuncId} {c:Ctr} (h:aT Tryz.prog f c):Lib:=L.add f c h
def Lib.an (L:Lib) {f:FuncId} {c:yT} (h:NOk Tryz.prog f c):Lib:=L.c0o f c h
def nil0:Lib:=Lib.nil
noncomputable def Lib.book (L:Lib) (N:Nat) (h:Hint):Book:=⟨Tryz.prog,MH L.l,told h (MH L.n),N,fun _=>false⟩
noncomputable def Lib.a4i (L:Lib) (N:Nat) (h:Hint):Book:=⟨Tryz.prog,MH L.l,told h (MH L.n),N,fun s=>s==0⟩
theorem Lib.good (L:Lib) (N:Nat) (wr:Hint):(L.book N wr).Ok:=⟨fun g c h=>L.ok (g,c) (rY h),fun g c h=>L.okn (g,c) (rY h)⟩
theorem Lib.b8Y (L:Lib) (N:Nat) (wr:Hint):(L.a4i N wr).Ok:=⟨fun g c h=>L.ok (g,c) (rY h),fun g c h=>L.okn (g,c) (rY h)⟩
theorem mixed:Tryz.prog.follows .mixedOrders=true:=by kernel_rfl
theorem bT (L:Lib) {f:FuncId} {fn:Func} {code:Code} {c:Ctr} (hint:Hint) (hf:Tryz.prog.funcs[f]?=some fn) (hb:fn.body=some code) (hargs:c.args.length<=fn.ntmps) (A:(nest c.args).den->List Ann)
  (h:∀ x,c.pre x->vwp (L.book fn.ntmps hint) code (A x) (b4O (L.book fn.ntmps hint) c.res fn.results.toList (c.fn x)) (wP 0 c.args x) []):aT Tryz.prog f c :=
 b3L (B:=L.book fn.ntmps hint) (L.good fn.ntmps hint) mixed hf hb rfl rfl hargs A h
theorem kM (L:Lib) {f:FuncId} {fn:Func} {code:Code} {c:Ctr} (wr:List Nat) (hf:Tryz.prog.funcs[f]?=some fn) (hb:fn.body=some code) (hargs:c.args.length<=fn.ntmps) (A:(nest c.args).den->List Ann)
  (h:∀ x,c.pre x->vwp (L.book fn.ntmps ⟨wr,[],[]⟩) code (A x) (b4O (L.book fn.ntmps ⟨wr,[],[]⟩) c.res fn.results.toList (c.fn x)) (wP 0 c.args x) []):aT Tryz.prog f c :=
 bT L ⟨wr,[],[]⟩ hf hb hargs A h
theorem pW (L:Lib) {f:FuncId} {fn:Func} {code:Code} {k:LK} {args:List Ty} {pre:(nest args).den->Prop} {made:(nest args).den->k.ty.den} (hint:Hint) (hf:Tryz.prog.funcs[f]?=some fn) (hb:fn.body=some code) (hargs:args.length<=fn.ntmps) (A:(nest args).den->List Ann)
  (h:∀ x,pre x->vwp (L.book fn.ntmps hint) code (A x) (b9Q k (made x) fn.results.toList) (wP 0 args x) []):NOk Tryz.prog f (.mk k args pre made) :=
 b4E (B:=L.book fn.ntmps hint) (L.good fn.ntmps hint) mixed hf hb rfl rfl hargs A h
theorem a4V (L:Lib) {f:FuncId} {fn:Func} {code:Code} {k:LK} {args res:List Ty} {pre:k.ty.den->(nest args).den->Prop} {out:k.ty.den->(nest args).den->k.ty.den} {g:k.ty.den->(nest args).den->(nest res).den} (hint:Hint) (hf:Tryz.prog.funcs[f]?=some fn) (hb:fn.body=some code) (hargs:args.length+1<=fn.ntmps) (A:k.ty.den->(nest args).den->List Ann)
  (h:∀ x y,pre x y->vwp (L.a4i fn.ntmps hint) code (A x y) (b9R (L.a4i fn.ntmps hint) k (out x y) res fn.results.toList (g x y)) ((0,.own 0 0)::wP 1 args y) [(0,k.res x 0)]):NOk Tryz.prog f (.chg k args res pre out g) :=
 b1S (B:=L.a4i fn.ntmps hint) (L.b8Y fn.ntmps hint) mixed hf hb rfl rfl hargs A h
theorem uT {F:Nat->Prop} {w:World} {v:Value} {x:Rat} (h:jY F w (.lf .rat) v x):RQ w v x:=by
 obtain⟨cs,rfl,h2⟩:=h
 exact h2
theorem a5z {F:Nat->Prop} {w:World} {v:Value} {x:Rat} (h:RQ w v x):jY F w (.lf .rat) v x:=by
 obtain⟨b,p,n,c,b',p',n',c',rfl⟩:=h.form
 exact⟨_,rfl,h⟩
theorem b0E {F:Nat->Prop} {w:World} (b:Bool):jY F w .bool (.bool b) b:=⟨_,rfl,rfl⟩
theorem b3F {F:Nat->Prop} {w:World} {v:Value} {b:Bool} (h:jY F w .bool v b):v=.bool b:=by
 obtain⟨cs,rfl,h2⟩:=h
 rw[show cs=_ from h2];rfl
theorem a2n {F:Nat->Prop} {w:World} {k:IntKind} (b:Int):jY F w (.int k) (.int k b) b:=⟨_,rfl,rfl⟩
theorem b9z {F:Nat->Prop} {w:World} {k:IntKind} {v:Value} {b:Int} (h:jY F w (.int k) v b):v=.int k b:=by
 obtain⟨cs,rfl,h2⟩:=h
 rw[show cs=_ from h2];rfl
abbrev tQ:Ty:=.lf .rat
abbrev tI:Ty:=.int .i64
def cQ2 (pre:Rat->Rat->Prop) (g:Rat->Rat->Rat):Ctr:=⟨[tQ,tQ],[tQ],fun x=>pre x.1 x.2.1,fun x=>(g x.1 x.2.1,())⟩
theorem PS {f:FuncId} {pre:Rat->Rat->Prop} {g:Rat->Rat->Rat} (h:∀ (v u:Value) (x y:Rat) (w:World),RQ w v x->RQ w u y->pre x y->Calls Tryz.prog f #[v,u] w (GQ (g x y) w)):aT Tryz.prog f (cQ2 pre g):=by
 intro F w vs x hF hvs hp
 obtain⟨v,vs',rfl,h1,u,vs'',rfl,h2,h3⟩:=hvs
 have h3:vs''=[]:=h3
 subst h3
 refine(h v u x.1 x.2.1 w (uT h1) (uT h2) hp).mono ?_
 rintro e w' ⟨r,rfl,hr,hb⟩
 exact⟨r,rfl,a5z hr,hb⟩
def cQ1 (pre:Rat->Prop) (g:Rat->Rat):Ctr:=⟨[tQ],[tQ],fun x=>pre x.1,fun x=>(g x.1,())⟩
theorem a7w {f:FuncId} {pre:Rat->Prop} {g:Rat->Rat} (h:∀ (v:Value) (x:Rat) (w:World),RQ w v x->pre x->Calls Tryz.prog f #[v] w (GQ (g x) w)):aT Tryz.prog f (cQ1 pre g):=by
 intro F w vs x hF hvs hp
 obtain⟨v,vs',rfl,h1,h3⟩:=hvs
 have h3:vs'=[]:=h3
 subst h3
 refine(h v x.1 w (uT h1) hp).mono ?_
 rintro e w' ⟨r,rfl,hr,hb⟩
 exact⟨r,rfl,a5z hr,hb⟩
def cIQ (pre:Int->Prop) (g:Int->Rat):Ctr:=⟨[tI],[tQ],fun x=>pre x.1,fun x=>(g x.1,())⟩
theorem a7v {f:FuncId} {pre:Int->Prop} {g:Int->Rat} (h:∀ (x:Int) (w:World),pre x->Calls Tryz.prog f #[.int .i64 x] w (GQ (g x) w)):aT Tryz.prog f (cIQ pre g):=by
 intro F w vs x hF hvs hp
 obtain⟨v,vs',rfl,h1,h3⟩:=hvs
 have h3:vs'=[]:=h3
 subst h3
 rw[b9z h1]
 refine(h x.1 w hp).mono ?_
 rintro e w' ⟨r,rfl,hr,hb⟩
 exact⟨r,rfl,a5z hr,hb⟩
set_option maxRecDepth 100000
set_option maxHeartbeats 4000000
theorem tJ {n d:Int} {k:Nat} (hd:d≠0) (h:isz d<=k):isz ((Int.gcd n d:Nat):Int)<=k:=by
 refine Nat.le_trans (RH ?_) h
 rw[Int.natAbs_natCast]
 have:=Nat.gcd_le_right n.natAbs (show 0<d.natAbs by omega)
 exact this
theorem gcd_ne {n d:Int} (hd:d≠0):((Int.gcd n d:Nat):Int)≠0:=by
 have:0<Int.gcd n d:=Int.gcd_pos_of_ne_zero_right _ hd
 omega
theorem FV {n d:Int} (hd:0<d):n.fdiv ((Int.gcd n d:Nat):Int)=(Rat.divInt n d).num/\d.fdiv ((Int.gcd n d:Nat):Int)=(Rat.divInt n d).den:=by
 rw[oC hd,nZ hd,Int.fdiv_eq_ediv_of_nonneg _ (by omega),Int.fdiv_eq_ediv_of_nonneg _ (by omega)]
 exact⟨rfl,rfl⟩
theorem YI {n d:Int} (hd:d<0):(-n).fdiv ((Int.gcd (-n) (-d):Nat):Int)=(Rat.divInt n d).num/\(-d).fdiv ((Int.gcd (-n) (-d):Nat):Int)=(Rat.divInt n d).den:=by
 rw[<-sU n d]
 exact FV (by omega)
theorem SQ (v u:Value) (x y:Int) (w:World) (hv:dN w v x) (hu:dN w u y) (hl:isz x<=1000000000) (hl2:isz y<=1000000000) (hd:0<y) :
  Calls Tryz.prog 151 #[v,u] w (GQ (Rat.divInt x y) w):=by
 obtain⟨b,p,n,c,rfl⟩:=hv.form
 obtain⟨d,o,m,e,rfl⟩:=hu.form
 have HX:=Lib.hid (FV (n:=x) hd)
 have hn1:isz (-x)<=1000000000:=by rw[lX];omega
 have hn2:isz (-y)<=1000000000:=by rw[lX];omega
 have hlg:isz ((Int.gcd x y:Nat):Int)<=1000000000:=tJ (by omega) (by assumption)
 have hg0:((Int.gcd x y:Nat):Int)≠0:=gcd_ne (by omega)
 have hsg:decide (sgn y<0)=false:=by rw[xQ hd];rfl
 clear hd
 have bP:Below w.heap.size w w:=Below.refl _ _
 go_enter Tryz.func151,Tryz.ntmps151
 go_wp2_with fail
 obtain⟨hA1,w0,x0,y0⟩:=bx3 w rfl [.bool b,.slice p n c] 62 [.bool d,.slice o m e] 62 [.bool false,.slice none 0 0,.bool false,.slice none 0 0] 64
 have a1:=(hu.below hA1).raw
 (with_reducible refine(qE _ (y) _ a1).mono ?_)
 rintro e w1 ⟨rfl,hb1⟩
 have dK:=(w0.to hb1)
 obtain⟨j1,m1⟩:=dK.cs2
 have dQ:=(x0.to hb1)
 obtain⟨p1,r1⟩:=dQ.cs2
 go_wp2_with fail
 have pR:=((hv.below hA1).below hb1)
 have b1:=pR.raw
 have jR:=((hu.below hA1).below hb1)
 have c1:=jR.raw
 (with_reducible refine(YL _ _ (x) (y) _ b1 c1 (by omega) (by omega)).mono ?_)
 rintro e w2 ⟨v2,rfl,hi2,hb2⟩
 obtain⟨g2,p2,n2,c2,rfl⟩:=hi2.form
 have dG:=(dK.to hb2)
 obtain⟨k1,n1⟩:=dG.cs2
 have q0:=(dG).1
 have dH:=(dQ.to hb2)
 have r0:=(dH).1
 have kU:=((y0.to hb1).to hb2)
 have s0:=(kU).1
 go_wp2_with fail
 have EN:=(pR.below hb2)
 obtain⟨hA2,z0⟩:=bx1 w2 rfl [.bool g2,.slice p2 n2 c2] 62
 have d1:=(EN.below hA2).raw
 have e1:=(hi2.below hA2).raw
 (with_reducible refine(wW _ _ (x) ((Int.gcd (x) (y):Int)) _ d1 e1 (by omega) hlg hg0).mono ?_)
 rintro e w3 ⟨v3,u3,rfl,hi3,hj3,hb3⟩
 obtain⟨g3,p3,n3,c3,rfl⟩:=hi3.form
 obtain⟨h3,o3,m3,e3,rfl⟩:=hj3.form
 have kN:=((dG.to hA2).to hb3)
 obtain⟨a0,c0,b0,d0⟩:=kN.cf2
 have nS:=((dH.to hA2).to hb3)
 obtain⟨q1,s1⟩:=nS.cs2
 have t1:=(z0.to hb3)
 obtain⟨u0,v0⟩:=t1.cs2
 go_wp2_with fail
 have GK:=(((jR.below hb2).below hA2).below hb3)
 have f1:=(GK.aI kN rfl rfl (.bool g3) (.slice p3 n3 c3)).raw
 have h1:=((hi2.below hA2).below hb3)
 have g1:=(h1.aI kN rfl rfl (.bool g3) (.slice p3 n3 c3)).raw
 (with_reducible refine(wW _ _ (y) ((Int.gcd (x) (y):Int)) _ f1 g1 (by omega) hlg hg0).mono ?_)
 rintro e w4 ⟨v4,u4,rfl,hi4,hj4,hb4⟩
 obtain⟨g4,p4,n4,c4,rfl⟩:=hi4.form
 obtain⟨h4,o4,m4,e4,rfl⟩:=hj4.form
 have kE:=((nS.aO (b:=w.heap.size) (by omega) (.bool g3) (.slice p3 n3 c3)).to hb4)
 obtain⟨e0,g0,f0,h0⟩:=kE.cf2
 have lM:=((kN.store2 (.bool g3) (.slice p3 n3 c3)).to hb4)
 obtain⟨l1,o1⟩:=lM.cs2
 have nJ:=((((kU.to hA2).to hb3).aO (b:=w.heap.size) (by omega) (.bool g3) (.slice p3 n3 c3)).to hb4)
 obtain⟨i0,m0,j0,n0,k0,o0,l0,p0⟩:=nJ.cf4
 have i1:=((hi3.aI kN rfl rfl (.bool g3) (.slice p3 n3 c3)).below hb4)
 have t0:=(Below.tr (Below.aI (Below.tr (Below.tr (Below.tr (Below.tr (Below.tr bP hA1) hb1) hb2) hA2) hb3) (b:=w.heap.size) (by omega) (.bool g3) (.slice p3 n3 c3)) hb4)
 go_wp2_with fail
 exact bodyPost_ret (v:=.agg #[.bool g3,.slice p3 n3 c3,.bool g4,.slice p4 n4 c4]) (by simp[results,Tryz.results151,go_sem,q0,r0,s0,a0,c0,b0,d0,e0,g0,f0,h0,i0,m0,j0,n0,k0,o0,l0,p0]) rfl ⟨_,rfl,RQ.mk' ((i1.aI kE rfl rfl (.bool g4) (.slice p4 n4 c4)).aX (nJ.aO (b:=w.heap.size+1) (by omega) (.bool g4) (.slice p4 n4 c4)) rfl rfl rfl rfl (.bool g3) (.slice p3 n3 c3) (.bool g4) (.slice p4 n4 c4)) ((hi4.aI kE rfl rfl (.bool g4) (.slice p4 n4 c4)).aX (nJ.aO (b:=w.heap.size+1) (by omega) (.bool g4) (.slice p4 n4 c4)) rfl rfl rfl rfl (.bool g3) (.slice p3 n3 c3) (.bool g4) (.slice p4 n4 c4)) HX.out.1 HX.out.2,(Below.aX (Below.aI t0 (b:=w.heap.size+1) (by omega) (.bool g4) (.slice p4 n4 c4)) (b:=w.heap.size+1+1) (by omega) (.bool g3) (.slice p3 n3 c3) (.bool g4) (.slice p4 n4 c4))⟩
theorem UN (v u:Value) (x y:Int) (w:World) (hv:dN w v x) (hu:dN w u y) (hl:isz x<=1000000000) (hl2:isz y<=1000000000) (hd:y<0) :
  Calls Tryz.prog 151 #[v,u] w (GQ (Rat.divInt x y) w):=by
 obtain⟨b,p,n,c,rfl⟩:=hv.form
 obtain⟨d,o,m,e,rfl⟩:=hu.form
 have HX:=Lib.hid (YI (n:=x) hd)
 have hn1:isz (-x)<=1000000000:=by rw[lX];omega
 have hn2:isz (-y)<=1000000000:=by rw[lX];omega
 have hlg:isz ((Int.gcd (-x) (-y):Nat):Int)<=1000000000:=tJ (by omega) (by assumption)
 have hg0:((Int.gcd (-x) (-y):Nat):Int)≠0:=gcd_ne (by omega)
 have hsg:decide (sgn y<0)=true:=by rw[IX hd];rfl
 clear hd
 have bP:Below w.heap.size w w:=Below.refl _ _
 go_enter Tryz.func151,Tryz.ntmps151
 go_wp2_with fail
 obtain⟨hA1,f1,g1,h1⟩:=bx3 w rfl [.bool b,.slice p n c] 62 [.bool d,.slice o m e] 62 [.bool false,.slice none 0 0,.bool false,.slice none 0 0] 64
 have j1:=(hu.below hA1).raw
 (with_reducible refine(qE _ (y) _ j1).mono ?_)
 rintro e w1 ⟨rfl,hb1⟩
 go_wp2_with fail
 have dK:=(f1.to hb1)
 obtain⟨x1,j2,d2,l2⟩:=dK.drew.cf2
 have dQ:=(g1.to hb1)
 obtain⟨o2,z2,t2,b3⟩:=dQ.drew.cf2
 have tk1:True:=trivial
 have tk2:True:=trivial
 go_region_with
  (first
   | (((have:=tk1);clear tk1;have pR:=((hv.below hA1).below hb1);have k1:=pR.drew.raw;go_at_call 139;(with_reducible refine(xG _ (x) _ k1 (by omega)).mono ?_);rintro e w2 ⟨v2,rfl,hi2,hb2⟩;obtain⟨g2,p2,n2,c2,rfl⟩:=hi2.form;have dH:=(dQ.drew.to hb2);obtain⟨q2,a3,u2,d3⟩:=dH.cf2;have dG:=(dK.drew.to hb2);obtain⟨y1,k2,e2,m2⟩:=dG.cf2))
   | (((have:=tk2);clear tk2;have UH:=(((hu.below hA1).below hb1).drew.below hb2);have l1:=UH.raw;go_at_call 139;(with_reducible refine(xG _ (y) _ l1 (by omega)).mono ?_);rintro e w3 ⟨v3,rfl,hi3,hb3⟩;obtain⟨g3,p3,n3,c3,rfl⟩:=hi3.form;have kN:=(dG.to hb3);obtain⟨a0,e0,c0,g0⟩:=kN.cf2;have nS:=(dH.to hb3);obtain⟨i0,m0,k0,o0⟩:=nS.cf2)))
 all_goals
  obtain⟨z1,f2⟩:=((kN.store2 (.bool g2) (.slice p2 n2 c2)).aO (b:=w.heap.size+1) (by omega) (.bool g3) (.slice p3 n3 c3)).cs2
  obtain⟨r2,x2⟩:=((nS.aO (b:=w.heap.size) (by omega) (.bool g2) (.slice p2 n2 c2)).store2 (.bool g3) (.slice p3 n3 c3)).cs2
  go_wp2_with fail
  have b1:=(hi2.below hb3)
  have m1:=((b1.aI kN rfl rfl (.bool g2) (.slice p2 n2 c2)).aI (nS.aO (b:=w.heap.size) (by omega) (.bool g2) (.slice p2 n2 c2)) rfl rfl (.bool g3) (.slice p3 n3 c3)).raw
  have n1:=((hi3.aI kN rfl rfl (.bool g2) (.slice p2 n2 c2)).aI (nS.aO (b:=w.heap.size) (by omega) (.bool g2) (.slice p2 n2 c2)) rfl rfl (.bool g3) (.slice p3 n3 c3)).raw
  (with_reducible refine(YL _ _ (-((x))) (-((y))) _ m1 n1 (by omega) (by omega)).mono ?_)
  rintro e w4 ⟨v4,rfl,hi4,hb4⟩
  obtain⟨g4,p4,n4,c4,rfl⟩:=hi4.form
  have lM:=(((kN.store2 (.bool g2) (.slice p2 n2 c2)).aO (b:=w.heap.size+1) (by omega) (.bool g3) (.slice p3 n3 c3)).to hb4)
  obtain⟨a2,h2⟩:=lM.cs2
  have y0:=(lM).1
  have kE:=(((nS.aO (b:=w.heap.size) (by omega) (.bool g2) (.slice p2 n2 c2)).store2 (.bool g3) (.slice p3 n3 c3)).to hb4)
  have z0:=(kE).1
  have nJ:=((((((h1.to hb1).drew.to hb2).to hb3).aO (b:=w.heap.size) (by omega) (.bool g2) (.slice p2 n2 c2)).aO (b:=w.heap.size+1) (by omega) (.bool g3) (.slice p3 n3 c3)).to hb4)
  have a1:=(nJ).1
  go_wp2_with fail
  have s1:=(((b1.aI kN rfl rfl (.bool g2) (.slice p2 n2 c2)).aI (nS.aO (b:=w.heap.size) (by omega) (.bool g2) (.slice p2 n2 c2)) rfl rfl (.bool g3) (.slice p3 n3 c3)).below hb4)
  obtain⟨hA2,i1⟩:=bx1 w4 rfl [.bool g4,.slice p4 n4 c4] 62
  have o1:=(s1.below hA2).raw
  have p1:=(hi4.below hA2).raw
  (with_reducible refine(wW _ _ (-((x))) ((Int.gcd (-((x))) (-((y))):Int)) _ o1 p1 (by omega) hlg hg0).mono ?_)
  rintro e w5 ⟨v5,u5,rfl,hi5,hj5,hb5⟩
  obtain⟨g5,p5,n5,c5,rfl⟩:=hi5.form
  obtain⟨h5,o5,m5,e5,rfl⟩:=hj5.form
  have a1D:=((lM.to hA2).to hb5)
  obtain⟨b0,f0,d0,h0⟩:=a1D.cf2
  have a9u:=((kE.to hA2).to hb5)
  obtain⟨s2,y2⟩:=a9u.cs2
  have e3:=(i1.to hb5)
  obtain⟨d1,e1⟩:=e3.cs2
  go_wp2_with fail
  have t1:=(((((hi3.aI kN rfl rfl (.bool g2) (.slice p2 n2 c2)).aI (nS.aO (b:=w.heap.size) (by omega) (.bool g2) (.slice p2 n2 c2)) rfl rfl (.bool g3) (.slice p3 n3 c3)).below hb4).below hA2).below hb5)
  have q1:=(t1.aI a1D rfl rfl (.bool g5) (.slice p5 n5 c5)).raw
  have u1:=((hi4.below hA2).below hb5)
  have r1:=(u1.aI a1D rfl rfl (.bool g5) (.slice p5 n5 c5)).raw
  (with_reducible refine(wW _ _ (-((y))) ((Int.gcd (-((x))) (-((y))):Int)) _ q1 r1 (by omega) hlg hg0).mono ?_)
  rintro e w6 ⟨v6,u6,rfl,hi6,hj6,hb6⟩
  obtain⟨g6,p6,n6,c6,rfl⟩:=hi6.form
  obtain⟨h6,o6,m6,e6,rfl⟩:=hj6.form
  have a3t:=((a9u.aO (b:=w.heap.size) (by omega) (.bool g5) (.slice p5 n5 c5)).to hb6)
  obtain⟨j0,n0,l0,p0⟩:=a3t.cf2
  have a9t:=((a1D.store2 (.bool g5) (.slice p5 n5 c5)).to hb6)
  obtain⟨b2,i2⟩:=a9t.cs2
  have qU:=((((nJ.to hA2).to hb5).aO (b:=w.heap.size) (by omega) (.bool g5) (.slice p5 n5 c5)).to hb6)
  obtain⟨q0,u0,r0,v0,s0,w0,t0,x0⟩:=qU.cf4
  have v1:=((hi5.aI a1D rfl rfl (.bool g5) (.slice p5 n5 c5)).below hb6)
  have c1:=(Below.tr (Below.aI (Below.tr (Below.tr (Below.tr (Below.aI (Below.aI (Below.tr (Below.tr (Below.tr (Below.tr bP hA1) hb1).drew hb2) hb3) (b:=w.heap.size) (by omega) (.bool g2) (.slice p2 n2 c2)) (b:=w.heap.size+1) (by omega) (.bool g3) (.slice p3 n3 c3)) hb4) hA2) hb5) (b:=w.heap.size) (by omega) (.bool g5) (.slice p5 n5 c5)) hb6)
  go_wp2_with fail
  exact bodyPost_ret (v:=.agg #[.bool g5,.slice p5 n5 c5,.bool g6,.slice p6 n6 c6]) (by simp[results,Tryz.results151,go_sem,a0,e0,c0,g0,i0,m0,k0,o0,y0,z0,a1,b0,f0,d0,h0,j0,n0,l0,p0,q0,u0,r0,v0,s0,w0,t0,x0]) rfl ⟨_,rfl,RQ.mk' ((v1.aI a3t rfl rfl (.bool g6) (.slice p6 n6 c6)).aX (qU.aO (b:=w.heap.size+1) (by omega) (.bool g6) (.slice p6 n6 c6)) rfl rfl rfl rfl (.bool g5) (.slice p5 n5 c5) (.bool g6) (.slice p6 n6 c6)) ((hi6.aI a3t rfl rfl (.bool g6) (.slice p6 n6 c6)).aX (qU.aO (b:=w.heap.size+1) (by omega) (.bool g6) (.slice p6 n6 c6)) rfl rfl rfl rfl (.bool g5) (.slice p5 n5 c5) (.bool g6) (.slice p6 n6 c6)) HX.out.1 HX.out.2,(Below.aX (Below.aI c1 (b:=w.heap.size+1) (by omega) (.bool g6) (.slice p6 n6 c6)) (b:=w.heap.size+1+1) (by omega) (.bool g5) (.slice p5 n5 c5) (.bool g6) (.slice p6 n6 c6))⟩
theorem xK (v u:Value) (x y:Int) (w:World) (hv:dN w v x) (hu:dN w u y) (hl:isz x<=1000000000) (hl2:isz y<=1000000000) (hd:y≠0) :
  Calls Tryz.prog 151 #[v,u] w (GQ (Rat.divInt x y) w):=by
 rcases Int.lt_trichotomy y 0 with h|h|h
 ·exact UN v u x y w hv hu hl hl2 h
 ·exact absurd h hd
 ·exact SQ v u x y w hv hu hl hl2 h
def GQC (q:Rat) (c:Int) (w:World) (e:Ending) (w':World):Prop:=∃ v,e=.returned (.tuple #[v,.int .i64 c])/\RQ w' v q/\Below w.heap.size w w'
def b8i (c:Int) (w:World) (e:Ending) (w':World):Prop:=e=.returned (.tuple #[.agg #[.bool false,.slice none 0 0,.bool false,.slice none 0 0],.int .i64 c])/\Below w.heap.size w w'
theorem MG:∀ (a b c d:Value) (w:World),Sem.run Tryz.prog (Instr.field 64 (.agg #[a,b,c,d]) 0) w=.ok (.agg #[a,b]) w:=fun a b c d w=>by kernel_rfl
theorem a6R (v:Value) (ok:Bool) (q:Rat) (w:World) (h:gQ w v ok q) (hn:Qn v 1000000000) :
  Calls Tryz.prog 70 #[v] w (fun e w'=>e=.returned (.int .i64 (sgn q.num))/\Below w.heap.size w w'):=by
 obtain⟨b,p,n,c,d,o,m,e,rfl⟩:=h.form
 have hl:=h.kF hn (by omega)
 have b1:=eF q
 have b2:=dX q
 have b0:=MG
 have bP:Below w.heap.size w w:=Below.refl _ _
 go_enter Tryz.func70,Tryz.ntmps70
 go_wp2_with fail
 obtain⟨hA1,e0⟩:=bx1 w rfl [.bool b,.slice p n c,.bool d,.slice o m e] 64
 have c0:=(h.below hA1)
 (with_reducible refine(iZ _ _ (q) _ c0 hn).mono ?_)
 rintro e w1 ⟨v1,rfl,hi1,hb1⟩
 obtain⟨g1,p1,n1,c1,h1,o1,m1,e1,rfl⟩:=hi1.form
 go_wp2_with fail
 have d0:=hi1.num.raw
 (with_reducible refine(qE _ (((q)).num) _ d0).mono ?_)
 rintro e w2 ⟨rfl,hb2⟩
 have a0:=(Below.tr (Below.tr (Below.tr bP hA1) hb1) hb2)
 go_wp2_with fail
 go_ret
 exact⟨rfl,a0⟩
theorem a1x (v:Value) (ok:Bool) (q:Rat) (w:World) (h:gQ w v ok q) (hn:Qn v 1000000000) :
  Calls Tryz.prog 93 #[v] w (GQ (-q) w):=by
 obtain⟨b,p,n,c,d,o,m,e,rfl⟩:=h.form
 have hl:=h.kF hn (by omega)
 have b1:=eF q
 have b2:=dX q
 have bP:Below w.heap.size w w:=Below.refl _ _
 go_enter Tryz.func93,Tryz.ntmps93
 go_wp2_with fail
 obtain⟨hA1,s0,t0⟩:=bx2 w rfl [.bool b,.slice p n c,.bool d,.slice o m e] 64 [.bool false,.slice none 0 0,.bool false,.slice none 0 0] 64
 have u0:=(h.below hA1)
 (with_reducible refine(iZ _ _ (q) _ u0 hn).mono ?_)
 rintro e w1 ⟨v1,rfl,hi1,hb1⟩
 obtain⟨g1,p1,n1,c1,h1,o1,m1,e1,rfl⟩:=hi1.form
 have dK:=(s0.to hb1)
 obtain⟨a0,e0,b0,f0,c0,g0,d0,h0⟩:=dK.cf4
 go_wp2_with fail
 have dQ:=(t0.to hb1)
 have XP:=(aK.mk ((dK.tZ (.bool g1) (.slice p1 n1 c1) (.bool h1) (.slice o1 m1 e1)).drew).bs4 (BN.of ((dQ.eP (b:=w.heap.size) (by omega) (.bool g1) (.slice p1 n1 c1) (.bool h1) (.slice o1 m1 e1)).drew)))
 have q0:dM (w.heap.size+1) (aK (BS4 w.heap.size (.bool g1) (.slice p1 n1 c1) (.bool h1) (.slice o1 m1 e1)) (BN (w.heap.size+1))):=(aK.hc (BS4.hc (by omega)) BN.hc)
 have tk1:True:=trivial
 go_region_held3 (aK (BS4 w.heap.size (.bool g1) (.slice p1 n1 c1) (.bool h1) (.slice o1 m1 e1)) (BN (w.heap.size+1))) (first|with_reducible exact XP|with_reducible exact gK.go (aK.hk BS4.hk BN.hk) (by assumption) (by assumption)|with_reducible exact dM.go4 q0 (by assumption)|(simp;done))
  (first
   | (((have:=tk1);clear tk1;have v0:=(hi1.aX dK rfl rfl rfl rfl (.bool g1) (.slice p1 n1 c1) (.bool h1) (.slice o1 m1 e1)).drew.num.raw;go_at_call 139;(with_reducible refine(xG _ (((q)).num) _ v0 (by omega)).mono ?_);rintro e w2 ⟨v2,rfl,hi2,hb2⟩;obtain⟨g2,p2,n2,c2,rfl⟩:=hi2.form;have dH:=((dQ.eP (b:=w.heap.size) (by omega) (.bool g1) (.slice p1 n1 c1) (.bool h1) (.slice o1 m1 e1)).drew.to hb2);obtain⟨i0,m0,j0,n0,k0,o0,l0,p0⟩:=dH.cf4)))
 have w0:=((hi1.aX dK rfl rfl rfl rfl (.bool g1) (.slice p1 n1 c1) (.bool h1) (.slice o1 m1 e1)).drew.below hb2)
 have r0:=(Below.tr (Below.aX (Below.tr (Below.tr bP hA1) hb1) (b:=w.heap.size) (by omega) (.bool g1) (.slice p1 n1 c1) (.bool h1) (.slice o1 m1 e1)).drew hb2)
 go_wp2_with fail
 exact bodyPost_ret (v:=.agg #[.bool g2,.slice p2 n2 c2,.bool h1,.slice o1 m1 e1]) (by simp[results,Tryz.results93,go_sem,a0,e0,b0,f0,c0,g0,d0,h0,i0,m0,j0,n0,k0,o0,l0,p0]) rfl ⟨_,rfl,RQ.mk' (hi2.aX dH rfl rfl rfl rfl (.bool g2) (.slice p2 n2 c2) (.bool h1) (.slice o1 m1 e1)) (w0.aX dH rfl rfl rfl rfl (.bool g2) (.slice p2 n2 c2) (.bool h1) (.slice o1 m1 e1)).den (MX q).symm (by rw[MW]),(Below.aX r0 (b:=w.heap.size+1) (by omega) (.bool g2) (.slice p2 n2 c2) (.bool h1) (.slice o1 m1 e1))⟩
theorem a6Q (v:Value) (q:Rat) (w:World) (h:RQ w v q) (hl:rsz q<=1000000000) :
 Calls Tryz.prog 70 #[v] w (fun e w'=>e=.returned (.int .i64 (sgn q.num))/\Below w.heap.size w w'):=a6R v true q w h.raw (h.qn hl)
theorem Qn.up {v:Value} {k m:Nat} (h:Qn v k) (hk:k<=m):Qn v m:=by
 obtain⟨b,p,n,c,b',p',n',c',e,h1,h2⟩:=h
 exact⟨b,p,n,c,b',p',n',c',e,by omega,by omega⟩
theorem wV (x y:Rat):(x.den:Int)*y.den≠0:=by
 have:=lN x;have:=lN y
 exact Int.ne_of_gt (Int.mul_pos (by assumption) (by assumption))
theorem a0p (v u:Value) (o1 o2:Bool) (x y:Rat) (w:World) (h1:gQ w v o1 x) (h2:gQ w u o2 y) (n1:Qn v 400000000) (n2:Qn u 400000000) :
  Calls Tryz.prog 115 #[v,u] w (GQ (x+y) w):=by
 obtain⟨b,p,n,c,d,o,m,e,rfl⟩:=h1.form
 obtain⟨f,i,j,k,g,r,t,a,rfl⟩:=h2.form
 have hl:=h1.kF n1 (by omega)
 have hl2:=h2.kF n2 (by omega)
 have m1:=n1.up (show 400000000<=1000000000 by omega)
 have m2:=n2.up (show 400000000<=1000000000 by omega)
 have b1:=eF x
 have b2:=dX x
 have b3:=eF y
 have b4:=dX y
 have c1:=dY x.num y.den
 have c2:=dY y.num x.den
 have c3:=CG (x.num*y.den) (y.num*x.den)
 have c4:=dY x.den y.den
 have HX:=Lib.hid (ZL x y)
 have hd0:=wV x y
 have bP:Below w.heap.size w w:=Below.refl _ _
 go_enter Tryz.func115,Tryz.ntmps115
 go_wp2_with fail
 obtain⟨hA1,y0,z0,k1⟩:=bx3 w rfl [.bool b,.slice p n c,.bool d,.slice o m e] 64 [.bool f,.slice i j k,.bool g,.slice r t a] 64 [.bool false,.slice none 0 0,.bool false,.slice none 0 0] 64
 obtain⟨q2,a3,s2,e3,u2,h3,y2,j3⟩:=y0.drew.cf4
 obtain⟨l3,x3,o3,z3,r3,d4,t3,f4⟩:=z0.drew.cf4
 have tk1:True:=trivial
 have tk2:True:=trivial
 go_region_with
  (first
   | (((have:=tk1);clear tk1;have l1:=(h1.below hA1).drew;go_at_call 119;(with_reducible refine(iZ _ _ (x) _ l1 m1).mono ?_);rintro e w1 ⟨v1,rfl,hi1,hb1⟩;obtain⟨g1,p1,n1,c1,h1,o1,m1,e1,rfl⟩:=hi1.form;have dQ:=(z0.drew.to hb1);obtain⟨m3,y3,q3,a4,s3,e4,u3,h4⟩:=dQ.cf4;have dK:=(y0.drew.to hb1);obtain⟨r2,d3,t2,f3,x2,i3,z2,k3⟩:=dK.cf4))
   | (((have:=tk2);clear tk2;have YM:=((h2.below hA1).drew.below hb1);have q1:=YM;go_at_call 119;(with_reducible refine(iZ _ _ (y) _ q1 m2).mono ?_);rintro e w2 ⟨v2,rfl,hi2,hb2⟩;obtain⟨g2,p2,n2,c2,h2,o2,m2,e2,rfl⟩:=hi2.form;have dG:=(dK.to hb2);obtain⟨a0,e0,b0,f0,c0,g0,d0,h0⟩:=dG.cf4;have dH:=(dQ.to hb2);obtain⟨i0,m0,j0,n0,k0,o0,l0,p0⟩:=dH.cf4)))
 all_goals
  go_wp2_with fail
  have kU:=((k1.drew.to hb1).to hb2)
  have XP:=(aK.mk (((dG.tZ (.bool g1) (.slice p1 n1 c1) (.bool h1) (.slice o1 m1 e1)).eP (b:=w.heap.size+1) (by omega) (.bool g2) (.slice p2 n2 c2) (.bool h2) (.slice o2 m2 e2)).drew).bs4 (aK.mk (((dH.eP (b:=w.heap.size) (by omega) (.bool g1) (.slice p1 n1 c1) (.bool h1) (.slice o1 m1 e1)).tZ (.bool g2) (.slice p2 n2 c2) (.bool h2) (.slice o2 m2 e2)).drew).bs4 (BN.of (((kU.eP (b:=w.heap.size) (by omega) (.bool g1) (.slice p1 n1 c1) (.bool h1) (.slice o1 m1 e1)).eP (b:=w.heap.size+1) (by omega) (.bool g2) (.slice p2 n2 c2) (.bool h2) (.slice o2 m2 e2)).drew))))
  have i1:dM (w.heap.size+1+1) (aK (BS4 w.heap.size (.bool g1) (.slice p1 n1 c1) (.bool h1) (.slice o1 m1 e1)) (aK (BS4 (w.heap.size+1) (.bool g2) (.slice p2 n2 c2) (.bool h2) (.slice o2 m2 e2)) (BN (w.heap.size+1+1)))):=(aK.hc (BS4.hc (by omega)) (aK.hc (BS4.hc (by omega)) BN.hc))
  have tk3:True:=trivial
  have tk4:True:=trivial
  have tk5:True:=trivial
  have tk6:True:=trivial
  have tk7:True:=trivial
  go_region_held3 (aK (BS4 w.heap.size (.bool g1) (.slice p1 n1 c1) (.bool h1) (.slice o1 m1 e1)) (aK (BS4 (w.heap.size+1) (.bool g2) (.slice p2 n2 c2) (.bool h2) (.slice o2 m2 e2)) (BN (w.heap.size+1+1)))) (first|with_reducible exact XP|with_reducible exact gK.go (aK.hk BS4.hk (aK.hk BS4.hk BN.hk)) (by assumption) (by assumption)|with_reducible exact dM.go4 i1 (by assumption)|(simp;done))
   (first
    | (((have:=tk3);clear tk3;have a1:=(hi1.below hb2);have r1:=((a1.aX dG rfl rfl rfl rfl (.bool g1) (.slice p1 n1 c1) (.bool h1) (.slice o1 m1 e1)).aX (dH.eP (b:=w.heap.size) (by omega) (.bool g1) (.slice p1 n1 c1) (.bool h1) (.slice o1 m1 e1)) rfl rfl rfl rfl (.bool g2) (.slice p2 n2 c2) (.bool h2) (.slice o2 m2 e2)).drew.num.raw;have s1:=((hi2.aX dG rfl rfl rfl rfl (.bool g1) (.slice p1 n1 c1) (.bool h1) (.slice o1 m1 e1)).aX (dH.eP (b:=w.heap.size) (by omega) (.bool g1) (.slice p1 n1 c1) (.bool h1) (.slice o1 m1 e1)) rfl rfl rfl rfl (.bool g2) (.slice p2 n2 c2) (.bool h2) (.slice o2 m2 e2)).drew.den.raw;go_at_call 136;(with_reducible refine(mul_any _ _ (((x)).num) ((((y)).den:Int)) _ r1 s1 (by omega) (by omega)).mono ?_);rintro e w3 ⟨v3,rfl,hi3,hb3⟩;obtain⟨g3,p3,n3,c3,rfl⟩:=hi3.form))
    | (((have:=tk4);clear tk4;have f1:=(((hi2.aX dG rfl rfl rfl rfl (.bool g1) (.slice p1 n1 c1) (.bool h1) (.slice o1 m1 e1)).aX (dH.eP (b:=w.heap.size) (by omega) (.bool g1) (.slice p1 n1 c1) (.bool h1) (.slice o1 m1 e1)) rfl rfl rfl rfl (.bool g2) (.slice p2 n2 c2) (.bool h2) (.slice o2 m2 e2)).drew.below hb3);have t1:=f1.num.raw;have d1:=(((a1.aX dG rfl rfl rfl rfl (.bool g1) (.slice p1 n1 c1) (.bool h1) (.slice o1 m1 e1)).aX (dH.eP (b:=w.heap.size) (by omega) (.bool g1) (.slice p1 n1 c1) (.bool h1) (.slice o1 m1 e1)) rfl rfl rfl rfl (.bool g2) (.slice p2 n2 c2) (.bool h2) (.slice o2 m2 e2)).drew.below hb3);have u1:=d1.den.raw;go_at_call 136;(with_reducible refine(mul_any _ _ (((y)).num) ((((x)).den:Int)) _ t1 u1 (by omega) (by omega)).mono ?_);rintro e w4 ⟨v4,rfl,hi4,hb4⟩;obtain⟨g4,p4,n4,c4,rfl⟩:=hi4.form))
    | (((have:=tk5);clear tk5;have k2:=(hi3.below hb4);have x1:=k2.raw;have y1:=hi4.raw;go_at_call 152;(with_reducible refine(add_any _ _ ((((x)).num)*((((y)).den:Int))) ((((y)).num)*((((x)).den:Int))) _ x1 y1 (by omega) (by omega)).mono ?_);rintro e w5 ⟨v5,rfl,hi5,hb5⟩;obtain⟨g5,p5,n5,c5,rfl⟩:=hi5.form))
    | (((have:=tk6);clear tk6;have i2:=((d1.below hb4).below hb5);have z1:=i2.den.raw;have j2:=((f1.below hb4).below hb5);have a2:=j2.den.raw;go_at_call 136;(with_reducible refine(mul_any _ _ ((((x)).den:Int)) ((((y)).den:Int)) _ z1 a2 (by omega) (by omega)).mono ?_);rintro e w6 ⟨v6,rfl,hi6,hb6⟩;obtain⟨g6,p6,n6,c6,rfl⟩:=hi6.form))
    | (((have:=tk7);clear tk7;have l2:=(hi5.below hb6);have d2:=l2;have f2:=hi6;go_at_call 151;(with_reducible refine(xK _ _ (((((x)).num)*((((y)).den:Int)))+((((y)).num)*((((x)).den:Int)))) (((((x)).den:Int))*((((y)).den:Int))) _ d2 f2 (by omega) (by omega) hd0).mono ?_);rintro e w7 ⟨v7,rfl,hi7,hb7⟩;obtain⟨g7,p7,n7,c7,h7,o7,m7,e7,rfl⟩:=hi7.form;have a9v:=(((((((kU.eP (b:=w.heap.size) (by omega) (.bool g1) (.slice p1 n1 c1) (.bool h1) (.slice o1 m1 e1)).eP (b:=w.heap.size+1) (by omega) (.bool g2) (.slice p2 n2 c2) (.bool h2) (.slice o2 m2 e2)).drew.to hb3).to hb4).to hb5).to hb6).to hb7);obtain⟨q0,u0,r0,v0,s0,w0,t0,x0⟩:=a9v.cf4)))
  have j1:=(Below.tr (Below.tr (Below.tr (Below.tr (Below.tr (Below.aX (Below.aX (Below.tr (Below.tr (Below.tr bP hA1).drew hb1) hb2) (b:=w.heap.size) (by omega) (.bool g1) (.slice p1 n1 c1) (.bool h1) (.slice o1 m1 e1)) (b:=w.heap.size+1) (by omega) (.bool g2) (.slice p2 n2 c2) (.bool h2) (.slice o2 m2 e2)).drew hb3) hb4) hb5) hb6) hb7)
  go_wp2_with fail
  exact bodyPost_ret (v:=.agg #[.bool g7,.slice p7 n7 c7,.bool h7,.slice o7 m7 e7]) (by simp[results,Tryz.results115,go_sem,a0,e0,b0,f0,c0,g0,d0,h0,i0,m0,j0,n0,k0,o0,l0,p0,q0,u0,r0,v0,s0,w0,t0,x0]) rfl ⟨_,rfl,by rw[<-HX.out];exact(hi7.aX a9v rfl rfl rfl rfl (.bool g7) (.slice p7 n7 c7) (.bool h7) (.slice o7 m7 e7)),(Below.aX j1 (b:=w.heap.size+1+1) (by omega) (.bool g7) (.slice p7 n7 c7) (.bool h7) (.slice o7 m7 e7))⟩
theorem a8Y (v u:Value) (o1 o2:Bool) (x y:Rat) (w:World) (h1:gQ w v o1 x) (h2:gQ w u o2 y) (n1:Qn v 400000000) (n2:Qn u 400000000) :
  Calls Tryz.prog 149 #[v,u] w (GQ (x*y) w):=by
 obtain⟨b,p,n,c,d,o,m,e,rfl⟩:=h1.form
 obtain⟨f,i,j,k,g,r,t,a,rfl⟩:=h2.form
 have hl:=h1.kF n1 (by omega)
 have hl2:=h2.kF n2 (by omega)
 have m1:=n1.up (show 400000000<=1000000000 by omega)
 have m2:=n2.up (show 400000000<=1000000000 by omega)
 have b1:=eF x
 have b2:=dX x
 have b3:=eF y
 have b4:=dX y
 have c1:=dY x.num y.num
 have c4:=dY x.den y.den
 have HX:=Lib.hid (ZN x y)
 have hd0:=wV x y
 have bP:Below w.heap.size w w:=Below.refl _ _
 go_enter Tryz.func149,Tryz.ntmps149
 go_wp2_with fail
 obtain⟨hA1,y0,z0,i1⟩:=bx3 w rfl [.bool b,.slice p n c,.bool d,.slice o m e] 64 [.bool f,.slice i j k,.bool g,.slice r t a] 64 [.bool false,.slice none 0 0,.bool false,.slice none 0 0] 64
 obtain⟨a2,r2,f2,t2,j2,x2,l2,z2⟩:=y0.drew.cf4
 obtain⟨d3,m3,f3,q3,i3,s3,k3,u3⟩:=z0.drew.cf4
 have tk1:True:=trivial
 have tk2:True:=trivial
 go_region_with
  (first
   | (((have:=tk1);clear tk1;have j1:=(h1.below hA1).drew;go_at_call 119;(with_reducible refine(iZ _ _ (x) _ j1 m1).mono ?_);rintro e w1 ⟨v1,rfl,hi1,hb1⟩;obtain⟨g1,p1,n1,c1,h1,o1,m1,e1,rfl⟩:=hi1.form;have dQ:=(z0.drew.to hb1);obtain⟨e3,o3,h3,r3,j3,t3,l3,x3⟩:=dQ.cf4;have dK:=(y0.drew.to hb1);obtain⟨d2,s2,i2,u2,k2,y2,q2,a3⟩:=dK.cf4))
   | (((have:=tk2);clear tk2;have YM:=((h2.below hA1).drew.below hb1);have k1:=YM;go_at_call 119;(with_reducible refine(iZ _ _ (y) _ k1 m2).mono ?_);rintro e w2 ⟨v2,rfl,hi2,hb2⟩;obtain⟨g2,p2,n2,c2,h2,o2,m2,e2,rfl⟩:=hi2.form;have dG:=(dK.to hb2);obtain⟨a0,e0,b0,f0,c0,g0,d0,h0⟩:=dG.cf4;have dH:=(dQ.to hb2);obtain⟨i0,m0,j0,n0,k0,o0,l0,p0⟩:=dH.cf4)))
 all_goals
  go_wp2_with fail
  have kU:=((i1.drew.to hb1).to hb2)
  have XP:=(aK.mk (((dG.tZ (.bool g1) (.slice p1 n1 c1) (.bool h1) (.slice o1 m1 e1)).eP (b:=w.heap.size+1) (by omega) (.bool g2) (.slice p2 n2 c2) (.bool h2) (.slice o2 m2 e2)).drew).bs4 (aK.mk (((dH.eP (b:=w.heap.size) (by omega) (.bool g1) (.slice p1 n1 c1) (.bool h1) (.slice o1 m1 e1)).tZ (.bool g2) (.slice p2 n2 c2) (.bool h2) (.slice o2 m2 e2)).drew).bs4 (BN.of (((kU.eP (b:=w.heap.size) (by omega) (.bool g1) (.slice p1 n1 c1) (.bool h1) (.slice o1 m1 e1)).eP (b:=w.heap.size+1) (by omega) (.bool g2) (.slice p2 n2 c2) (.bool h2) (.slice o2 m2 e2)).drew))))
  have d1:dM (w.heap.size+1+1) (aK (BS4 w.heap.size (.bool g1) (.slice p1 n1 c1) (.bool h1) (.slice o1 m1 e1)) (aK (BS4 (w.heap.size+1) (.bool g2) (.slice p2 n2 c2) (.bool h2) (.slice o2 m2 e2)) (BN (w.heap.size+1+1)))):=(aK.hc (BS4.hc (by omega)) (aK.hc (BS4.hc (by omega)) BN.hc))
  have tk3:True:=trivial
  have tk4:True:=trivial
  have tk5:True:=trivial
  go_region_held3 (aK (BS4 w.heap.size (.bool g1) (.slice p1 n1 c1) (.bool h1) (.slice o1 m1 e1)) (aK (BS4 (w.heap.size+1) (.bool g2) (.slice p2 n2 c2) (.bool h2) (.slice o2 m2 e2)) (BN (w.heap.size+1+1)))) (first|with_reducible exact XP|with_reducible exact gK.go (aK.hk BS4.hk (aK.hk BS4.hk BN.hk)) (by assumption) (by assumption)|with_reducible exact dM.go4 d1 (by assumption)|(simp;done))
   (first
    | (((have:=tk3);clear tk3;have a1:=(hi1.below hb2);have l1:=((a1.aX dG rfl rfl rfl rfl (.bool g1) (.slice p1 n1 c1) (.bool h1) (.slice o1 m1 e1)).aX (dH.eP (b:=w.heap.size) (by omega) (.bool g1) (.slice p1 n1 c1) (.bool h1) (.slice o1 m1 e1)) rfl rfl rfl rfl (.bool g2) (.slice p2 n2 c2) (.bool h2) (.slice o2 m2 e2)).drew.num.raw;have q1:=((hi2.aX dG rfl rfl rfl rfl (.bool g1) (.slice p1 n1 c1) (.bool h1) (.slice o1 m1 e1)).aX (dH.eP (b:=w.heap.size) (by omega) (.bool g1) (.slice p1 n1 c1) (.bool h1) (.slice o1 m1 e1)) rfl rfl rfl rfl (.bool g2) (.slice p2 n2 c2) (.bool h2) (.slice o2 m2 e2)).drew.num.raw;go_at_call 136;(with_reducible refine(mul_any _ _ (((x)).num) (((y)).num) _ l1 q1 (by omega) (by omega)).mono ?_);rintro e w3 ⟨v3,rfl,hi3,hb3⟩;obtain⟨g3,p3,n3,c3,rfl⟩:=hi3.form))
    | (((have:=tk4);clear tk4;have x1:=(((a1.aX dG rfl rfl rfl rfl (.bool g1) (.slice p1 n1 c1) (.bool h1) (.slice o1 m1 e1)).aX (dH.eP (b:=w.heap.size) (by omega) (.bool g1) (.slice p1 n1 c1) (.bool h1) (.slice o1 m1 e1)) rfl rfl rfl rfl (.bool g2) (.slice p2 n2 c2) (.bool h2) (.slice o2 m2 e2)).drew.below hb3);have r1:=x1.den.raw;have y1:=(((hi2.aX dG rfl rfl rfl rfl (.bool g1) (.slice p1 n1 c1) (.bool h1) (.slice o1 m1 e1)).aX (dH.eP (b:=w.heap.size) (by omega) (.bool g1) (.slice p1 n1 c1) (.bool h1) (.slice o1 m1 e1)) rfl rfl rfl rfl (.bool g2) (.slice p2 n2 c2) (.bool h2) (.slice o2 m2 e2)).drew.below hb3);have s1:=y1.den.raw;go_at_call 136;(with_reducible refine(mul_any _ _ ((((x)).den:Int)) ((((y)).den:Int)) _ r1 s1 (by omega) (by omega)).mono ?_);rintro e w4 ⟨v4,rfl,hi4,hb4⟩;obtain⟨g4,p4,n4,c4,rfl⟩:=hi4.form))
    | (((have:=tk5);clear tk5;have z1:=(hi3.below hb4);have t1:=z1;have u1:=hi4;go_at_call 151;(with_reducible refine(xK _ _ ((((x)).num)*(((y)).num)) (((((x)).den:Int))*((((y)).den:Int))) _ t1 u1 (by omega) (by omega) hd0).mono ?_);rintro e w5 ⟨v5,rfl,hi5,hb5⟩;obtain⟨g5,p5,n5,c5,h5,o5,m5,e5,rfl⟩:=hi5.form;have wH:=(((((kU.eP (b:=w.heap.size) (by omega) (.bool g1) (.slice p1 n1 c1) (.bool h1) (.slice o1 m1 e1)).eP (b:=w.heap.size+1) (by omega) (.bool g2) (.slice p2 n2 c2) (.bool h2) (.slice o2 m2 e2)).drew.to hb3).to hb4).to hb5);obtain⟨q0,u0,r0,v0,s0,w0,t0,x0⟩:=wH.cf4)))
  have f1:=(Below.tr (Below.tr (Below.tr (Below.aX (Below.aX (Below.tr (Below.tr (Below.tr bP hA1).drew hb1) hb2) (b:=w.heap.size) (by omega) (.bool g1) (.slice p1 n1 c1) (.bool h1) (.slice o1 m1 e1)) (b:=w.heap.size+1) (by omega) (.bool g2) (.slice p2 n2 c2) (.bool h2) (.slice o2 m2 e2)).drew hb3) hb4) hb5)
  go_wp2_with fail
  exact bodyPost_ret (v:=.agg #[.bool g5,.slice p5 n5 c5,.bool h5,.slice o5 m5 e5]) (by simp[results,Tryz.results149,go_sem,a0,e0,b0,f0,c0,g0,d0,h0,i0,m0,j0,n0,k0,o0,l0,p0,q0,u0,r0,v0,s0,w0,t0,x0]) rfl ⟨_,rfl,by rw[<-HX.out];exact(hi5.aX wH rfl rfl rfl rfl (.bool g5) (.slice p5 n5 c5) (.bool h5) (.slice o5 m5 e5)),(Below.aX f1 (b:=w.heap.size+1+1) (by omega) (.bool g5) (.slice p5 n5 c5) (.bool h5) (.slice o5 m5 e5))⟩
theorem a7k (v u:Value) (x y:Rat) (w:World) (h1:RQ w v x) (h2:RQ w u y) (l1:rsz x<=400000000) (l2:rsz y<=400000000) :
 Calls Tryz.prog 115 #[v,u] w (GQ (x+y) w):=a0p v u true true x y w h1.raw h2.raw (h1.qn l1) (h2.qn l2)
theorem a8X (v u:Value) (x y:Rat) (w:World) (h1:RQ w v x) (h2:RQ w u y) (l1:rsz x<=400000000) (l2:rsz y<=400000000) :
 Calls Tryz.prog 149 #[v,u] w (GQ (x*y) w):=a8Y v u true true x y w h1.raw h2.raw (h1.qn l1) (h2.qn l2)
end Go.Proofs.YtgplhbhfdgempaaGreat
