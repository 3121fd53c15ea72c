/-
  Lemmas for the theorem vinliers_holds, part 20 of 32.
-/
import Derived.Test.YtbkocjmmbkifjaaGreatQi19
namespace Go.Proofs.YtbkocjmmbkifjaaGreat
open Go Go.RowKit
set_option linter.unusedSimpArgs false
set_option linter.unusedVariables false
set_option maxRecDepth 20000
noncomputable def ZL (rt:Ty):Nat->TypeId->Option Ty
 | 0,_=>none
 | n+1,t=>if t=47 then some rt else if t=45 then some (.lf .big) else match Tryz.prog.underlying t with
  | some .bool=>some .bool
  | some (.int k)=>some (.int k)
  | some .string=>some (.lf .str)
  | some (.slice e)=>(ZL rt n e).map .list
  | some (.array m e)=>(ZL rt n e).map (.arr m)
  | some (.struct fs)=>fs.toList.foldr (fun f acc=>match ZL rt n f.type,acc with
   | some a,some b=>some (.pair a b)
   | _,_=>none) (some .unit)
  | _=>none
structure Hint where
 wr:List Nat
 kb:List Nat:=[]
 mt:List (Nat × Ty):=[]
def b2W:List (Nat × Ty)->Nat->Option Ty
 | [],_=>none
 | (s,t)::l,q=>if q=s then some t else b2W l q
noncomputable def told (h:Hint) (nc:FuncId->List At->List mX):Told:=⟨ZL (.lf .iZ) 8,ZL (.lf .rat) 8,fun s=>h.wr.contains s || h.kb.contains s,fun s=>h.kb.contains s,b2W h.mt,nc⟩
structure Lib where
 l:List (FuncId × Ctr)
 ok:∀ p ∈ l,aT Tryz.prog p.1 p.2
 n:List (FuncId × mX)
 okn:∀ p ∈ n,NOk Tryz.prog p.1 p.2
def BP {γ:Type}:List (FuncId × γ)->FuncId->List γ
 | [],_=>[]
 | (f,c)::l,g=>if g=f then c::BP l g else BP l g
theorem mJ {γ:Type}:∀ {l:List (FuncId × γ)} {g:FuncId} {c:γ},c ∈ BP l g->(g,c) ∈ l
 | (f,c')::l,g,c,h=>by
  simp only[BP] at h
  split at h
  ·rename_i e
   rcases qj.1 h with rfl|h
   ·rw[e];exact jl ..
   ·exact iy _ (mJ h)
  ·exact iy _ (mJ h)
 | [],g,c,h=>by cases h
def Lib.nil:Lib:=⟨[],(fun p hp=>by cases hp),[],fun p hp=>by cases hp⟩
def Lib.add (L:Lib) (f:FuncId) (c:Ctr) (h:aT Tryz.prog f c):Lib:=⟨(f,c)::L.l,fun p hp=>(qj.1 hp).elim (fun e=>by subst e;exact h) (fun hp=>L.ok p hp),L.n,L.okn⟩
def Lib.b8n (L:Lib) (f:FuncId) (c:mX) (h:NOk Tryz.prog f c):Lib:=⟨L.l,L.ok,(f,c)::L.n,fun p hp=>(qj.1 hp).elim (fun e=>by subst e;exact h) (fun hp=>L.okn p hp)⟩
def Lib.ad (L:Lib) {f:FuncId} {c:Ctr} (h:aT Tryz.prog f c):Lib:=L.add f c h
def Lib.an (L:Lib) {f:FuncId} {c:mX} (h:NOk Tryz.prog f c):Lib:=L.b8n f c h
def nil0:Lib:=Lib.nil
noncomputable def Lib.book (L:Lib) (N:Nat) (h:Hint):Book:=⟨Tryz.prog,fun g _=>BP L.l g,told h (fun g _=>BP L.n g),N,fun _=>false⟩
theorem Lib.good (L:Lib) (N:Nat) (wr:Hint):(L.book N wr).Ok:=⟨fun g _ c h=>L.ok (g,c) (mJ h),fun g _ c h=>L.okn (g,c) (mJ h)⟩
theorem mixed:Tryz.prog.follows .mixedOrders=true:=by kernel_rfl
theorem bY (L:Lib) {f:FuncId} {fn:Func} {code:Code} {c:Ctr} (hint:Hint) (hf:Tryz.prog.funcs[f]?=some fn) (hb:fn.body=some code) (hargs:c.args.length<=fn.ntmps) (A:(nest c.args).den->List Ann)
  (h:∀ x,c.pre x->vwp (L.book fn.ntmps hint) code (A x) (a6h (L.book fn.ntmps hint) c.res fn.results.toList (c.fn x)) (rH 0 c.args x) []):aT Tryz.prog f c :=
 b3M (B:=L.book fn.ntmps hint) (L.good fn.ntmps hint) mixed hf hb rfl rfl hargs A h
theorem qG (L:Lib) {f:FuncId} {fn:Func} {code:Code} {c:Ctr} (wr:List Nat) (hf:Tryz.prog.funcs[f]?=some fn) (hb:fn.body=some code) (hargs:c.args.length<=fn.ntmps) (A:(nest c.args).den->List Ann)
  (h:∀ x,c.pre x->vwp (L.book fn.ntmps ⟨wr,[],[]⟩) code (A x) (a6h (L.book fn.ntmps ⟨wr,[],[]⟩) c.res fn.results.toList (c.fn x)) (rH 0 c.args x) []):aT Tryz.prog f c :=
 bY L ⟨wr,[],[]⟩ hf hb hargs A h
theorem YQ (L:Lib) {f:FuncId} {fn:Func} {code:Code} {k:LK} {args:List Ty} {pre:(nest args).den->Prop} {made:(nest args).den->k.ty.den} {dec:∀ x,Dc (pre x)} (hint:Hint) (hf:Tryz.prog.funcs[f]?=some fn) (hb:fn.body=some code) (hargs:args.length<=fn.ntmps) (A:(nest args).den->List Ann)
  (h:∀ x,pre x->vwp (L.book fn.ntmps hint) code (A x) (b2f k (made x) fn.results.toList) (rH 0 args x) []):NOk Tryz.prog f (@mX.mk k args pre made dec) :=
 b4G (B:=L.book fn.ntmps hint) (L.good fn.ntmps hint) mixed hf hb rfl rfl hargs A h
theorem uF {F:Nat->Prop} {w:World} {v:Value} {x:Rat} (h:iR F w (.lf .rat) v x):RQ w v x:=by
 obtain⟨cs,rfl,h2⟩:=h
 exact h2
theorem VY {F:Nat->Prop} {w:World} {v:Value} {x:Rat} (h:RQ w v x):iR F w (.lf .rat) v x:=by
 obtain⟨b,p,n,c,b',p',n',c',rfl⟩:=h.form
 exact⟨_,rfl,h⟩
theorem a3b {F:Nat->Prop} {w:World} (b:Bool):iR F w .bool (.bool b) b:=⟨_,rfl,rfl⟩
theorem b3F {F:Nat->Prop} {w:World} {v:Value} {b:Bool} (h:iR F w .bool v b):v=.bool b:=by
 obtain⟨cs,rfl,h2⟩:=h
 rw[show cs=_ from h2];rfl
theorem uI {F:Nat->Prop} {w:World} {k:IntKind} (b:Int):iR F w (.int k) (.int k b) b:=⟨_,rfl,rfl⟩
theorem a0P {F:Nat->Prop} {w:World} {k:IntKind} {v:Value} {b:Int} (h:iR F w (.int k) v b):v=.int k b:=by
 obtain⟨cs,rfl,h2⟩:=h
 rw[show cs=_ from h2];rfl
abbrev tQ:Ty:=.lf .rat
abbrev tI:Ty:=.int .i64
def cQ2 (pre:Rat->Rat->Prop) [hd:∀ x y,Dc (pre x y)] (g:Rat->Rat->Rat):Ctr:={ args:=[tQ,tQ],res:=[tQ],pre:=fun x=>pre x.1 x.2.1,fn:=fun x=>(g x.1 x.2.1,()),dec:=fun x=>hd x.1 x.2.1 }
theorem CO {f:FuncId} {pre:Rat->Rat->Prop} [∀ x y,Dc (pre x y)] {g:Rat->Rat->Rat} (h:∀ (v u:Value) (x y:Rat) (w:World),RQ w v x->RQ w u y->pre x y->Calls Tryz.prog f #[v,u] w (GQ (g x y) w)):aT Tryz.prog f (cQ2 pre g):=by
 intro F w vs x hF hvs hp
 obtain⟨v,vs',rfl,h1,u,vs'',rfl,h2,h3⟩:=hvs
 have h3:vs''=[]:=h3
 subst h3
 refine(h v u x.1 x.2.1 w (uF h1) (uF h2) hp).mono ?_
 rintro e w' ⟨r,rfl,hr,hb⟩
 exact⟨r,rfl,VY hr,hb⟩
def cQ1 (pre:Rat->Prop) [hd:∀ x,Dc (pre x)] (g:Rat->Rat):Ctr:={ args:=[tQ],res:=[tQ],pre:=fun x=>pre x.1,fn:=fun x=>(g x.1,()),dec:=fun x=>hd x.1 }
theorem a6S {f:FuncId} {pre:Rat->Prop} [∀ x,Dc (pre x)] {g:Rat->Rat} (h:∀ (v:Value) (x:Rat) (w:World),RQ w v x->pre x->Calls Tryz.prog f #[v] w (GQ (g x) w)):aT Tryz.prog f (cQ1 pre g):=by
 intro F w vs x hF hvs hp
 obtain⟨v,vs',rfl,h1,h3⟩:=hvs
 have h3:vs'=[]:=h3
 subst h3
 refine(h v x.1 w (uF h1) hp).mono ?_
 rintro e w' ⟨r,rfl,hr,hb⟩
 exact⟨r,rfl,VY hr,hb⟩
def cIQ (pre:Int->Prop) [hd:∀ x,Dc (pre x)] (g:Int->Rat):Ctr:={ args:=[tI],res:=[tQ],pre:=fun x=>pre x.1,fn:=fun x=>(g x.1,()),dec:=fun x=>hd x.1 }
theorem WZ {f:FuncId} {pre:Int->Prop} [∀ x,Dc (pre x)] {g:Int->Rat} (h:∀ (x:Int) (w:World),pre x->Calls Tryz.prog f #[.int .i64 x] w (GQ (g x) w)):aT Tryz.prog f (cIQ pre g):=by
 intro F w vs x hF hvs hp
 obtain⟨v,vs',rfl,h1,h3⟩:=hvs
 have h3:vs'=[]:=h3
 subst h3
 rw[a0P h1]
 refine(h x.1 w hp).mono ?_
 rintro e w' ⟨r,rfl,hr,hb⟩
 exact⟨r,rfl,VY hr,hb⟩
set_option maxRecDepth 100000
set_option maxHeartbeats 4000000
theorem sD {n d:Int} {k:Nat} (hd:d≠0) (h:isz d<=k):isz ((Int.gcd n d:Nat):Int)<=k:=by
 refine iq (OW ?_) h
 rw[Int.natAbs_natCast]
 have:=Nat.gcd_le_right n.natAbs (show 0<d.natAbs by omega)
 exact this
theorem gcd_ne {n d:Int} (hd:d≠0):((Int.gcd n d:Nat):Int)≠0:=by
 have:0<Int.gcd n d:=Int.gcd_pos_of_ne_zero_right _ hd
 omega
theorem EK {n d:Int} (hd:0<d):n.fdiv ((Int.gcd n d:Nat):Int)=(Rat.divInt n d).num/\d.fdiv ((Int.gcd n d:Nat):Int)=(Rat.divInt n d).den:=by
 rw[nJ hd,nI hd,Int.fdiv_eq_ediv_of_nonneg _ (by omega),Int.fdiv_eq_ediv_of_nonneg _ (by omega)]
 exact⟨rfl,rfl⟩
theorem XO {n d:Int} (hd:d<0):(-n).fdiv ((Int.gcd (-n) (-d):Nat):Int)=(Rat.divInt n d).num/\(-d).fdiv ((Int.gcd (-n) (-d):Nat):Int)=(Rat.divInt n d).den:=by
 rw[<-rO n d]
 exact EK (by omega)
theorem SB (v:Value) (x:Int) (w:World) (h:fC w v true x) :
  Calls Tryz.prog 256 #[v] w (lU x w):=by
 obtain⟨b,p,n,c,rfl⟩:=h.raw.form
 have aZ:Below w.heap.size w w:=bg _ _
 go_enter Tryz.func256,Tryz.ntmps256
 go_wp2_with fail
 obtain⟨hA1,f0,g0⟩:=bx2 w rfl [.bool b,.slice p n c] 45 [.bool false,.slice none 0 0] 45
 have h0:=(h.below hA1)
 (with_reducible refine(jE _ _ _ _ h0).mono ?_)
 rintro e w1 ⟨rfl,hb1⟩
 have bT:=(f0.to hb1)
 obtain⟨i0,j0⟩:=bT.cs2
 have dA:=(g0.to hb1)
 obtain⟨a0,c0,b0,d0⟩:=dA.cf2
 have h_1:=((h.below hA1).below hb1)
 have e0:=(Below.tr (Below.tr aZ hA1) hb1)
 go_wp2_with fail
 exact iw (v:=.agg #[.bool b,.slice p n c]) (by simp[results,Tryz.results256,go_sem,a0,c0,b0,d0]) rfl ⟨_,rfl,fC.int (h_1.aG dA rfl rfl (.bool b) (.slice p n c)),(Below.aG e0 (b:=w.heap.size+1) (by omega) (.bool b) (.slice p n c))⟩
theorem NR (v:Value) (x:Int) (w:World) (h:fC w v false x) :
  Calls Tryz.prog 256 #[v] w (lU x w):=by
 obtain⟨b,p,n,c,rfl⟩:=h.raw.form
 have HX:Hid (x=0):=h.zero
 have aZ:Below w.heap.size w w:=bg _ _
 go_enter Tryz.func256,Tryz.ntmps256
 go_wp2_with fail
 obtain⟨hA1,h0,f0⟩:=bx2 w rfl [.bool b,.slice p n c] 45 [.bool false,.slice none 0 0] 45
 have g0:=(h.below hA1)
 (with_reducible refine(jE _ _ _ _ g0).mono ?_)
 rintro e w1 ⟨rfl,hb1⟩
 go_wp2_with fail
 (with_reducible refine(DK _ _ (by omega) (by omega)).mono ?_)
 rintro e w2 ⟨v2,rfl,hi2,hb2⟩
 obtain⟨g2,p2,n2,c2,rfl⟩:=hi2.form
 have bJ:=((f0.to hb1).to hb2)
 obtain⟨a0,c0,b0,d0⟩:=bJ.cf2
 have e0:=(Below.tr (Below.tr (Below.tr aZ hA1) hb1) hb2)
 go_wp2_with fail
 exact iw (v:=.agg #[.bool g2,.slice p2 n2 c2]) (by simp[results,Tryz.results256,go_sem,a0,c0,b0,d0]) rfl ⟨_,rfl,by rw[HX.out];exact(hi2.aG bJ rfl rfl (.bool g2) (.slice p2 n2 c2)),(Below.aG e0 (b:=w.heap.size+1) (by omega) (.bool g2) (.slice p2 n2 c2))⟩
theorem QJ (v u:Value) (x y:Int) (w:World) (hv:bW w v x) (hu:bW w u y) (hl:isz x<=1000000000) (hl2:isz y<=1000000000) (hd:0<y) :
  Calls Tryz.prog 180 #[v,u] w (GQ (Rat.divInt x y) w):=by
 obtain⟨b,p,n,c,rfl⟩:=hv.form
 obtain⟨d,o,m,e,rfl⟩:=hu.form
 have HX:=bn (EK (n:=x) hd)
 have hn1:isz (-x)<=1000000000:=by rw[lS];omega
 have hn2:isz (-y)<=1000000000:=by rw[lS];omega
 have hlg:isz ((Int.gcd x y:Nat):Int)<=1000000000:=sD (by omega) (by assumption)
 have hg0:((Int.gcd x y:Nat):Int)≠0:=gcd_ne (by omega)
 have hsg:decide (sgn y<0)=false:=by rw[wX hd];rfl
 clear hd
 have aZ:Below w.heap.size w w:=bg _ _
 go_enter Tryz.func180,Tryz.ntmps180
 go_wp2_with fail
 obtain⟨hA1,w0,x0,y0⟩:=bx3 w rfl [.bool b,.slice p n c] 45 [.bool d,.slice o m e] 45 [.bool false,.slice none 0 0,.bool false,.slice none 0 0] 47
 have a1:=(hu.below hA1).raw
 (with_reducible refine(kW _ (y) _ a1).mono ?_)
 rintro e w1 ⟨rfl,hb1⟩
 have bT:=(w0.to hb1)
 obtain⟨j1,m1⟩:=bT.cs2
 have dA:=(x0.to hb1)
 obtain⟨p1,r1⟩:=dA.cs2
 go_wp2_with fail
 have oN:=((hv.below hA1).below hb1)
 have b1:=oN.raw
 have iF:=((hu.below hA1).below hb1)
 have c1:=iF.raw
 (with_reducible refine(MB _ _ (x) (y) _ b1 c1 (by omega) (by omega)).mono ?_)
 rintro e w2 ⟨v2,rfl,hi2,hb2⟩
 obtain⟨g2,p2,n2,c2,rfl⟩:=hi2.form
 have bM:=(bT.to hb2)
 obtain⟨k1,n1⟩:=bM.cs2
 have q0:=(bM).1
 have bJ:=(dA.to hb2)
 have r0:=(bJ).1
 have jU:=((y0.to hb1).to hb2)
 have s0:=(jU).1
 go_wp2_with fail
 have CY:=(oN.below hb2)
 obtain⟨hA2,z0⟩:=bx1 w2 rfl [.bool g2,.slice p2 n2 c2] 45
 have d1:=(CY.below hA2).raw
 have e1:=(hi2.below hA2).raw
 (with_reducible refine(rP _ _ (x) ((Int.gcd (x) (y):Int)) _ d1 e1 (by omega) hlg hg0).mono ?_)
 rintro e w3 ⟨v3,u3,rfl,hi3,hj3,hb3⟩
 obtain⟨g3,p3,n3,c3,rfl⟩:=hi3.form
 obtain⟨h3,o3,m3,e3,rfl⟩:=hj3.form
 have iY:=((bM.to hA2).to hb3)
 obtain⟨a0,c0,b0,d0⟩:=iY.cf2
 have lI:=((bJ.to hA2).to hb3)
 obtain⟨q1,s1⟩:=lI.cs2
 have t1:=(z0.to hb3)
 obtain⟨u0,v0⟩:=t1.cs2
 go_wp2_with fail
 have ET:=(((iF.below hb2).below hA2).below hb3)
 have f1:=(ET.aG iY rfl rfl (.bool g3) (.slice p3 n3 c3)).raw
 have h1:=((hi2.below hA2).below hb3)
 have g1:=(h1.aG iY rfl rfl (.bool g3) (.slice p3 n3 c3)).raw
 (with_reducible refine(rP _ _ (y) ((Int.gcd (x) (y):Int)) _ f1 g1 (by omega) hlg hg0).mono ?_)
 rintro e w4 ⟨v4,u4,rfl,hi4,hj4,hb4⟩
 obtain⟨g4,p4,n4,c4,rfl⟩:=hi4.form
 obtain⟨h4,o4,m4,e4,rfl⟩:=hj4.form
 have jJ:=((lI.aI (b:=w.heap.size) (by omega) (.bool g3) (.slice p3 n3 c3)).to hb4)
 obtain⟨e0,g0,f0,h0⟩:=jJ.cf2
 have kJ:=((iY.store2 (.bool g3) (.slice p3 n3 c3)).to hb4)
 obtain⟨l1,o1⟩:=kJ.cs2
 have kV:=((((jU.to hA2).to hb3).aI (b:=w.heap.size) (by omega) (.bool g3) (.slice p3 n3 c3)).to hb4)
 obtain⟨i0,m0,j0,n0,k0,o0,l0,p0⟩:=kV.cf4
 have i1:=((hi3.aG iY rfl rfl (.bool g3) (.slice p3 n3 c3)).below hb4)
 have t0:=(Below.tr (Below.aG (Below.tr (Below.tr (Below.tr (Below.tr (Below.tr aZ hA1) hb1) hb2) hA2) hb3) (b:=w.heap.size) (by omega) (.bool g3) (.slice p3 n3 c3)) hb4)
 go_wp2_with fail
 exact iw (v:=.agg #[.bool g3,.slice p3 n3 c3,.bool g4,.slice p4 n4 c4]) (by simp[results,Tryz.results180,go_sem,q0,r0,s0,a0,c0,b0,d0,e0,g0,f0,h0,i0,m0,j0,n0,k0,o0,l0,p0]) rfl ⟨_,rfl,RQ.mk' ((i1.aG jJ rfl rfl (.bool g4) (.slice p4 n4 c4)).aU (kV.aI (b:=w.heap.size+1) (by omega) (.bool g4) (.slice p4 n4 c4)) rfl rfl rfl rfl (.bool g3) (.slice p3 n3 c3) (.bool g4) (.slice p4 n4 c4)) ((hi4.aG jJ rfl rfl (.bool g4) (.slice p4 n4 c4)).aU (kV.aI (b:=w.heap.size+1) (by omega) (.bool g4) (.slice p4 n4 c4)) rfl rfl rfl rfl (.bool g3) (.slice p3 n3 c3) (.bool g4) (.slice p4 n4 c4)) HX.out.1 HX.out.2,(Below.aU (Below.aG t0 (b:=w.heap.size+1) (by omega) (.bool g4) (.slice p4 n4 c4)) (b:=w.heap.size+1+1) (by omega) (.bool g3) (.slice p3 n3 c3) (.bool g4) (.slice p4 n4 c4))⟩
theorem SV (v u:Value) (x y:Int) (w:World) (hv:bW w v x) (hu:bW w u y) (hl:isz x<=1000000000) (hl2:isz y<=1000000000) (hd:y<0) :
  Calls Tryz.prog 180 #[v,u] w (GQ (Rat.divInt x y) w):=by
 obtain⟨b,p,n,c,rfl⟩:=hv.form
 obtain⟨d,o,m,e,rfl⟩:=hu.form
 have HX:=bn (XO (n:=x) hd)
 have hn1:isz (-x)<=1000000000:=by rw[lS];omega
 have hn2:isz (-y)<=1000000000:=by rw[lS];omega
 have hlg:isz ((Int.gcd (-x) (-y):Nat):Int)<=1000000000:=sD (by omega) (by assumption)
 have hg0:((Int.gcd (-x) (-y):Nat):Int)≠0:=gcd_ne (by omega)
 have hsg:decide (sgn y<0)=true:=by rw[FW hd];rfl
 clear hd
 have aZ:Below w.heap.size w w:=bg _ _
 go_enter Tryz.func180,Tryz.ntmps180
 go_wp2_with fail
 obtain⟨hA1,f1,g1,h1⟩:=bx3 w rfl [.bool b,.slice p n c] 45 [.bool d,.slice o m e] 45 [.bool false,.slice none 0 0,.bool false,.slice none 0 0] 47
 have j1:=(hu.below hA1).raw
 (with_reducible refine(kW _ (y) _ j1).mono ?_)
 rintro e w1 ⟨rfl,hb1⟩
 go_wp2_with fail
 have bT:=(f1.to hb1)
 obtain⟨x1,j2,d2,l2⟩:=bT.drew.cf2
 have dA:=(g1.to hb1)
 obtain⟨o2,z2,t2,b3⟩:=dA.drew.cf2
 have tk1:True:=trivial
 have tk2:True:=trivial
 go_region_with
  (first
   | (((have:=tk1);clear tk1;have oN:=((hv.below hA1).below hb1);have k1:=oN.drew.raw;go_at_call 97;(with_reducible refine(tX _ (x) _ k1 (by omega)).mono ?_);rintro e w2 ⟨v2,rfl,hi2,hb2⟩;obtain⟨g2,p2,n2,c2,rfl⟩:=hi2.form;have bJ:=(dA.drew.to hb2);obtain⟨q2,a3,u2,d3⟩:=bJ.cf2;have bM:=(bT.drew.to hb2);obtain⟨y1,k2,e2,m2⟩:=bM.cf2))
   | (((have:=tk2);clear tk2;have SK:=(((hu.below hA1).below hb1).drew.below hb2);have l1:=SK.raw;go_at_call 97;(with_reducible refine(tX _ (y) _ l1 (by omega)).mono ?_);rintro e w3 ⟨v3,rfl,hi3,hb3⟩;obtain⟨g3,p3,n3,c3,rfl⟩:=hi3.form;have iY:=(bM.to hb3);obtain⟨a0,e0,c0,g0⟩:=iY.cf2;have lI:=(bJ.to hb3);obtain⟨i0,m0,k0,o0⟩:=lI.cf2)))
 all_goals
  obtain⟨z1,f2⟩:=((iY.store2 (.bool g2) (.slice p2 n2 c2)).aI (b:=w.heap.size+1) (by omega) (.bool g3) (.slice p3 n3 c3)).cs2
  obtain⟨r2,x2⟩:=((lI.aI (b:=w.heap.size) (by omega) (.bool g2) (.slice p2 n2 c2)).store2 (.bool g3) (.slice p3 n3 c3)).cs2
  go_wp2_with fail
  have b1:=(hi2.below hb3)
  have m1:=((b1.aG iY rfl rfl (.bool g2) (.slice p2 n2 c2)).aG (lI.aI (b:=w.heap.size) (by omega) (.bool g2) (.slice p2 n2 c2)) rfl rfl (.bool g3) (.slice p3 n3 c3)).raw
  have n1:=((hi3.aG iY rfl rfl (.bool g2) (.slice p2 n2 c2)).aG (lI.aI (b:=w.heap.size) (by omega) (.bool g2) (.slice p2 n2 c2)) rfl rfl (.bool g3) (.slice p3 n3 c3)).raw
  (with_reducible refine(MB _ _ (-((x))) (-((y))) _ m1 n1 (by omega) (by omega)).mono ?_)
  rintro e w4 ⟨v4,rfl,hi4,hb4⟩
  obtain⟨g4,p4,n4,c4,rfl⟩:=hi4.form
  have kJ:=(((iY.store2 (.bool g2) (.slice p2 n2 c2)).aI (b:=w.heap.size+1) (by omega) (.bool g3) (.slice p3 n3 c3)).to hb4)
  obtain⟨a2,h2⟩:=kJ.cs2
  have y0:=(kJ).1
  have jJ:=(((lI.aI (b:=w.heap.size) (by omega) (.bool g2) (.slice p2 n2 c2)).store2 (.bool g3) (.slice p3 n3 c3)).to hb4)
  have z0:=(jJ).1
  have kV:=((((((h1.to hb1).drew.to hb2).to hb3).aI (b:=w.heap.size) (by omega) (.bool g2) (.slice p2 n2 c2)).aI (b:=w.heap.size+1) (by omega) (.bool g3) (.slice p3 n3 c3)).to hb4)
  have a1:=(kV).1
  go_wp2_with fail
  have s1:=(((b1.aG iY rfl rfl (.bool g2) (.slice p2 n2 c2)).aG (lI.aI (b:=w.heap.size) (by omega) (.bool g2) (.slice p2 n2 c2)) rfl rfl (.bool g3) (.slice p3 n3 c3)).below hb4)
  obtain⟨hA2,i1⟩:=bx1 w4 rfl [.bool g4,.slice p4 n4 c4] 45
  have o1:=(s1.below hA2).raw
  have p1:=(hi4.below hA2).raw
  (with_reducible refine(rP _ _ (-((x))) ((Int.gcd (-((x))) (-((y))):Int)) _ o1 p1 (by omega) hlg hg0).mono ?_)
  rintro e w5 ⟨v5,u5,rfl,hi5,hj5,hb5⟩
  obtain⟨g5,p5,n5,c5,rfl⟩:=hi5.form
  obtain⟨h5,o5,m5,e5,rfl⟩:=hj5.form
  have a1h:=((kJ.to hA2).to hb5)
  obtain⟨b0,f0,d0,h0⟩:=a1h.cf2
  have a9n:=((jJ.to hA2).to hb5)
  obtain⟨s2,y2⟩:=a9n.cs2
  have e3:=(i1.to hb5)
  obtain⟨d1,e1⟩:=e3.cs2
  go_wp2_with fail
  have t1:=(((((hi3.aG iY rfl rfl (.bool g2) (.slice p2 n2 c2)).aG (lI.aI (b:=w.heap.size) (by omega) (.bool g2) (.slice p2 n2 c2)) rfl rfl (.bool g3) (.slice p3 n3 c3)).below hb4).below hA2).below hb5)
  have q1:=(t1.aG a1h rfl rfl (.bool g5) (.slice p5 n5 c5)).raw
  have u1:=((hi4.below hA2).below hb5)
  have r1:=(u1.aG a1h rfl rfl (.bool g5) (.slice p5 n5 c5)).raw
  (with_reducible refine(rP _ _ (-((y))) ((Int.gcd (-((x))) (-((y))):Int)) _ q1 r1 (by omega) hlg hg0).mono ?_)
  rintro e w6 ⟨v6,u6,rfl,hi6,hj6,hb6⟩
  obtain⟨g6,p6,n6,c6,rfl⟩:=hi6.form
  obtain⟨h6,o6,m6,e6,rfl⟩:=hj6.form
  have a2y:=((a9n.aI (b:=w.heap.size) (by omega) (.bool g5) (.slice p5 n5 c5)).to hb6)
  obtain⟨j0,n0,l0,p0⟩:=a2y.cf2
  have a9m:=((a1h.store2 (.bool g5) (.slice p5 n5 c5)).to hb6)
  obtain⟨b2,i2⟩:=a9m.cs2
  have qA:=((((kV.to hA2).to hb5).aI (b:=w.heap.size) (by omega) (.bool g5) (.slice p5 n5 c5)).to hb6)
  obtain⟨q0,u0,r0,v0,s0,w0,t0,x0⟩:=qA.cf4
  have v1:=((hi5.aG a1h rfl rfl (.bool g5) (.slice p5 n5 c5)).below hb6)
  have c1:=(Below.tr (Below.aG (Below.tr (Below.tr (Below.tr (Below.aG (Below.aG (Below.tr (Below.tr (Below.tr (Below.tr aZ hA1) hb1).drew hb2) hb3) (b:=w.heap.size) (by omega) (.bool g2) (.slice p2 n2 c2)) (b:=w.heap.size+1) (by omega) (.bool g3) (.slice p3 n3 c3)) hb4) hA2) hb5) (b:=w.heap.size) (by omega) (.bool g5) (.slice p5 n5 c5)) hb6)
  go_wp2_with fail
  exact iw (v:=.agg #[.bool g5,.slice p5 n5 c5,.bool g6,.slice p6 n6 c6]) (by simp[results,Tryz.results180,go_sem,a0,e0,c0,g0,i0,m0,k0,o0,y0,z0,a1,b0,f0,d0,h0,j0,n0,l0,p0,q0,u0,r0,v0,s0,w0,t0,x0]) rfl ⟨_,rfl,RQ.mk' ((v1.aG a2y rfl rfl (.bool g6) (.slice p6 n6 c6)).aU (qA.aI (b:=w.heap.size+1) (by omega) (.bool g6) (.slice p6 n6 c6)) rfl rfl rfl rfl (.bool g5) (.slice p5 n5 c5) (.bool g6) (.slice p6 n6 c6)) ((hi6.aG a2y rfl rfl (.bool g6) (.slice p6 n6 c6)).aU (qA.aI (b:=w.heap.size+1) (by omega) (.bool g6) (.slice p6 n6 c6)) rfl rfl rfl rfl (.bool g5) (.slice p5 n5 c5) (.bool g6) (.slice p6 n6 c6)) HX.out.1 HX.out.2,(Below.aU (Below.aG c1 (b:=w.heap.size+1) (by omega) (.bool g6) (.slice p6 n6 c6)) (b:=w.heap.size+1+1) (by omega) (.bool g5) (.slice p5 n5 c5) (.bool g6) (.slice p6 n6 c6))⟩
theorem qP (v:Value) (ok:Bool) (x:Int) (w:World) (h:fC w v ok x) :
  Calls Tryz.prog 256 #[v] w (lU x w):=by
 cases ok
 ·exact NR v x w h
 ·exact SB v x w h
theorem qU (v u:Value) (x y:Int) (w:World) (hv:bW w v x) (hu:bW w u y) (hl:isz x<=1000000000) (hl2:isz y<=1000000000) (hd:y≠0) :
  Calls Tryz.prog 180 #[v,u] w (GQ (Rat.divInt x y) w):=by
 rcases zi y 0 with h|h|h
 ·exact SV v u x y w hv hu hl hl2 h
 ·exact absurd h hd
 ·exact QJ v u x y w hv hu hl hl2 h
def GQC (q:Rat) (c:Int) (w:World) (e:Ending) (w':World):Prop:=∃ v,e=.returned (.tuple #[v,.int .i64 c])/\RQ w' v q/\Below w.heap.size w w'
def b0x (c:Int) (w:World) (e:Ending) (w':World):Prop:=e=.returned (.tuple #[.agg #[.bool false,.slice none 0 0,.bool false,.slice none 0 0],.int .i64 c])/\Below w.heap.size w w'
theorem KI:∀ (a b c d:Value) (w:World),Sem.run Tryz.prog (Instr.field 47 (.agg #[a,b,c,d]) 0) w=.ok (.agg #[a,b]) w:=fun a b c d w=>by kernel_rfl
theorem a4f (v u:Value) (o1 o2:Bool) (x y:Int) (w:World) (hv:fC w v o1 x) (hu:fC w u o2 y) (hl:isz x<=1000000000) (hl2:isz y<=1000000000) (hd:y≠0) :
  Calls Tryz.prog 183 #[v,u] w (GQC (Rat.divInt x y) 0 w):=by
 obtain⟨b,p,n,c,rfl⟩:=hv.raw.form
 obtain⟨d,o,m,e,rfl⟩:=hu.raw.form
 have hsg:decide (sgn y=0)=false:=by have:=QU hd;simpa using this
 have b1m:(sgn y==0)=false:=by have:=QU hd;simpa using this
 have aZ:Below w.heap.size w w:=bg _ _
 go_enter Tryz.func183,Tryz.ntmps183
 go_wp2_with fail
 obtain⟨hA1,q0,r0,t0⟩:=bx3 w rfl [.bool b,.slice p n c] 45 [.bool d,.slice o m e] 45 [.bool false,.slice none 0 0,.bool false,.slice none 0 0] 47
 obtain⟨b1,j1,f1,l1⟩:=q0.drew.cf2
 obtain⟨q1,a2,u1,d2⟩:=r0.drew.cf2
 have tk1:True:=trivial
 have tk2:True:=trivial
 go_region_with
  (first
   | (((have:=tk1);clear tk1;have u0:=(hv.below hA1).drew;go_at_call 256;(with_reducible refine(qP _ _ (x) _ u0 ).mono ?_);rintro e w1 ⟨v1,rfl,hi1,hb1⟩;obtain⟨g1,p1,n1,c1,rfl⟩:=hi1.form;have dA:=(r0.drew.to hb1);obtain⟨r1,b2,x1,e2⟩:=dA.cf2;have bT:=(q0.drew.to hb1);obtain⟨d1,k1,h1,m1⟩:=bT.cf2))
   | (((have:=tk2);clear tk2;have iF:=((hu.below hA1).drew.below hb1);have v0:=iF;go_at_call 256;(with_reducible refine(qP _ _ (y) _ v0 ).mono ?_);rintro e w2 ⟨v2,rfl,hi2,hb2⟩;obtain⟨g2,p2,n2,c2,rfl⟩:=hi2.form;have bM:=(bT.to hb2);obtain⟨a0,c0,b0,d0⟩:=bM.cf2;have bJ:=(dA.to hb2);obtain⟨e0,g0,f0,h0⟩:=bJ.cf2)))
 all_goals
  obtain⟨s1,y1⟩:=((bJ.aI (b:=w.heap.size) (by omega) (.bool g1) (.slice p1 n1 c1)).store2 (.bool g2) (.slice p2 n2 c2)).cs2
  go_wp2_with fail
  have w0:=((hi2.aG bM rfl rfl (.bool g1) (.slice p1 n1 c1)).aG (bJ.aI (b:=w.heap.size) (by omega) (.bool g1) (.slice p1 n1 c1)) rfl rfl (.bool g2) (.slice p2 n2 c2)).raw
  (with_reducible refine(kW _ ((y)) _ w0).mono ?_)
  rintro e w3 ⟨rfl,hb3⟩
  have iY:=(((bM.store2 (.bool g1) (.slice p1 n1 c1)).aI (b:=w.heap.size+1) (by omega) (.bool g2) (.slice p2 n2 c2)).to hb3)
  obtain⟨e1,i1⟩:=iY.cs2
  have lI:=(((bJ.aI (b:=w.heap.size) (by omega) (.bool g1) (.slice p1 n1 c1)).store2 (.bool g2) (.slice p2 n2 c2)).to hb3)
  obtain⟨t1,z1⟩:=lI.cs2
  go_wp2_with fail
  have z0:=((((hi1.below hb2).aG bM rfl rfl (.bool g1) (.slice p1 n1 c1)).aG (bJ.aI (b:=w.heap.size) (by omega) (.bool g1) (.slice p1 n1 c1)) rfl rfl (.bool g2) (.slice p2 n2 c2)).below hb3)
  have x0:=z0
  have a1:=(((hi2.aG bM rfl rfl (.bool g1) (.slice p1 n1 c1)).aG (bJ.aI (b:=w.heap.size) (by omega) (.bool g1) (.slice p1 n1 c1)) rfl rfl (.bool g2) (.slice p2 n2 c2)).below hb3)
  have y0:=a1
  (with_reducible refine(qU _ _ ((x)) ((y)) _ x0 y0 hl hl2 hd).mono ?_)
  rintro e w4 ⟨v4,rfl,hi4,hb4⟩
  obtain⟨g4,p4,n4,c4,h4,o4,m4,e4,rfl⟩:=hi4.form
  have kV:=((((((t0.drew.to hb1).to hb2).aI (b:=w.heap.size) (by omega) (.bool g1) (.slice p1 n1 c1)).aI (b:=w.heap.size+1) (by omega) (.bool g2) (.slice p2 n2 c2)).to hb3).to hb4)
  obtain⟨i0,m0,j0,n0,k0,o0,l0,p0⟩:=kV.cf4
  have s0:=(Below.tr (Below.tr (Below.aG (Below.aG (Below.tr (Below.tr (Below.tr aZ hA1).drew hb1) hb2) (b:=w.heap.size) (by omega) (.bool g1) (.slice p1 n1 c1)) (b:=w.heap.size+1) (by omega) (.bool g2) (.slice p2 n2 c2)) hb3) hb4)
  go_wp2_with fail
  exact iw (v:=.tuple #[.agg #[.bool g4,.slice p4 n4 c4,.bool h4,.slice o4 m4 e4],.int .i64 0]) (by simp[results,Tryz.results183,go_sem,a0,c0,b0,d0,e0,g0,f0,h0,i0,m0,j0,n0,k0,o0,l0,p0]) rfl ⟨_,rfl,(hi4.aU kV rfl rfl rfl rfl (.bool g4) (.slice p4 n4 c4) (.bool h4) (.slice o4 m4 e4)),(Below.aU s0 (b:=w.heap.size+1+1) (by omega) (.bool g4) (.slice p4 n4 c4) (.bool h4) (.slice o4 m4 e4))⟩
theorem b1L (v u:Value) (o1 o2:Bool) (x y:Int) (w:World) (hv:fC w v o1 x) (hu:fC w u o2 y) (hd:y=0) :
  Calls Tryz.prog 183 #[v,u] w (b0x 14 w):=by
 obtain⟨b,p,n,c,rfl⟩:=hv.raw.form
 obtain⟨d,o,m,e,rfl⟩:=hu.raw.form
 have b1m:(sgn y==0)=true:=by rw[hd];rfl
 have hd2:=bn hd
 clear hd
 have aZ:Below w.heap.size w w:=bg _ _
 go_enter Tryz.func183,Tryz.ntmps183
 go_wp2_with fail
 obtain⟨hA1,q0,r0,t0⟩:=bx3 w rfl [.bool b,.slice p n c] 45 [.bool d,.slice o m e] 45 [.bool false,.slice none 0 0,.bool false,.slice none 0 0] 47
 obtain⟨x0,b1,z0,e1⟩:=q0.drew.cf2
 obtain⟨h1,q1,k1,s1⟩:=r0.drew.cf2
 have tk1:True:=trivial
 have tk2:True:=trivial
 go_region_with
  (first
   | (((have:=tk1);clear tk1;have u0:=(hv.below hA1).drew;go_at_call 256;(with_reducible refine(qP _ _ (x) _ u0 ).mono ?_);rintro e w1 ⟨v1,rfl,hi1,hb1⟩;obtain⟨g1,p1,n1,c1,rfl⟩:=hi1.form;have dA:=(r0.drew.to hb1);obtain⟨i1,r1,l1,t1⟩:=dA.cf2;have bT:=(q0.drew.to hb1);obtain⟨y0,d1,a1,f1⟩:=bT.cf2))
   | (((have:=tk2);clear tk2;have iF:=((hu.below hA1).drew.below hb1);have v0:=iF;go_at_call 256;(with_reducible refine(qP _ _ (y) _ v0 ).mono ?_);rintro e w2 ⟨v2,rfl,hi2,hb2⟩;obtain⟨g2,p2,n2,c2,rfl⟩:=hi2.form;have bM:=(bT.to hb2);obtain⟨a0,c0,b0,d0⟩:=bM.cf2;have bJ:=(dA.to hb2);obtain⟨e0,g0,f0,h0⟩:=bJ.cf2)))
 all_goals
  obtain⟨j1,m1⟩:=((bJ.aI (b:=w.heap.size) (by omega) (.bool g1) (.slice p1 n1 c1)).store2 (.bool g2) (.slice p2 n2 c2)).cs2
  go_wp2_with fail
  have w0:=((hi2.aG bM rfl rfl (.bool g1) (.slice p1 n1 c1)).aG (bJ.aI (b:=w.heap.size) (by omega) (.bool g1) (.slice p1 n1 c1)) rfl rfl (.bool g2) (.slice p2 n2 c2)).raw
  (with_reducible refine(kW _ ((y)) _ w0).mono ?_)
  rintro e w3 ⟨rfl,hb3⟩
  have BK:=(((((t0.drew.to hb1).to hb2).aI (b:=w.heap.size) (by omega) (.bool g1) (.slice p1 n1 c1)).aI (b:=w.heap.size+1) (by omega) (.bool g2) (.slice p2 n2 c2)).to hb3)
  obtain⟨i0,m0,j0,n0,k0,o0,l0,p0⟩:=BK.cf4
  have s0:=(Below.tr (Below.aG (Below.aG (Below.tr (Below.tr (Below.tr aZ hA1).drew hb1) hb2) (b:=w.heap.size) (by omega) (.bool g1) (.slice p1 n1 c1)) (b:=w.heap.size+1) (by omega) (.bool g2) (.slice p2 n2 c2)) hb3)
  go_wp2_with fail
  exact iw (v:=.tuple #[.agg #[.bool false,.slice none 0 0,.bool false,.slice none 0 0],.int .i64 14]) (by simp[results,Tryz.results183,go_sem,a0,c0,b0,d0,e0,g0,f0,h0,i0,m0,j0,n0,k0,o0,l0,p0]) rfl ⟨rfl,(Below.aU s0 (b:=w.heap.size+1+1) (by omega) (.bool false) (.slice none 0 0) (.bool false) (.slice none 0 0))⟩
theorem a6v (v:Value) (ok:Bool) (q:Rat) (w:World) (h:fH w v ok q) (hn:Qn v 1000000000) :
  Calls Tryz.prog 127 #[v] w (fun e w'=>e=.returned (.int .i64 (sgn q.num))/\Below w.heap.size w w'):=by
 obtain⟨b,p,n,c,d,o,m,e,rfl⟩:=h.form
 have hl:=h.jK hn (by omega)
 have b1:=dO q
 have b2:=dI q
 have b0:=KI
 have aZ:Below w.heap.size w w:=bg _ _
 go_enter Tryz.func127,Tryz.ntmps127
 go_wp2_with fail
 obtain⟨hA1,e0⟩:=bx1 w rfl [.bool b,.slice p n c,.bool d,.slice o m e] 47
 have c0:=(h.below hA1)
 (with_reducible refine(gY _ _ (q) _ c0 hn).mono ?_)
 rintro e w1 ⟨v1,rfl,hi1,hb1⟩
 obtain⟨g1,p1,n1,c1,h1,o1,m1,e1,rfl⟩:=hi1.form
 go_wp2_with fail
 have d0:=hi1.num.raw
 (with_reducible refine(kW _ (((q)).num) _ d0).mono ?_)
 rintro e w2 ⟨rfl,hb2⟩
 have a0:=(Below.tr (Below.tr (Below.tr aZ hA1) hb1) hb2)
 go_wp2_with fail
 go_ret
 exact⟨rfl,a0⟩
theorem a1c (v:Value) (ok:Bool) (q:Rat) (w:World) (h:fH w v ok q) (hn:Qn v 1000000000) :
  Calls Tryz.prog 172 #[v] w (GQ (-q) w):=by
 obtain⟨b,p,n,c,d,o,m,e,rfl⟩:=h.form
 have hl:=h.jK hn (by omega)
 have b1:=dO q
 have b2:=dI q
 have aZ:Below w.heap.size w w:=bg _ _
 go_enter Tryz.func172,Tryz.ntmps172
 go_wp2_with fail
 obtain⟨hA1,s0,t0⟩:=bx2 w rfl [.bool b,.slice p n c,.bool d,.slice o m e] 47 [.bool false,.slice none 0 0,.bool false,.slice none 0 0] 47
 have u0:=(h.below hA1)
 (with_reducible refine(gY _ _ (q) _ u0 hn).mono ?_)
 rintro e w1 ⟨v1,rfl,hi1,hb1⟩
 obtain⟨g1,p1,n1,c1,h1,o1,m1,e1,rfl⟩:=hi1.form
 have bT:=(s0.to hb1)
 obtain⟨a0,e0,b0,f0,c0,g0,d0,h0⟩:=bT.cf4
 go_wp2_with fail
 have dA:=(t0.to hb1)
 have WO:=(aK.mk ((bT.sN (.bool g1) (.slice p1 n1 c1) (.bool h1) (.slice o1 m1 e1)).drew).bs4 (BN.of ((dA.dS (b:=w.heap.size) (by omega) (.bool g1) (.slice p1 n1 c1) (.bool h1) (.slice o1 m1 e1)).drew)))
 have q0:dB (w.heap.size+1) (aK (BS4 w.heap.size (.bool g1) (.slice p1 n1 c1) (.bool h1) (.slice o1 m1 e1)) (BN (w.heap.size+1))):=(aK.hc (BS4.hc (by omega)) BN.hc)
 have tk1:True:=trivial
 go_region_held3 (aK (BS4 w.heap.size (.bool g1) (.slice p1 n1 c1) (.bool h1) (.slice o1 m1 e1)) (BN (w.heap.size+1))) (first|with_reducible exact WO|with_reducible exact fG.go (aK.hk BS4.hk BN.hk) (by assumption) (by assumption)|with_reducible exact dB.go4 q0 (by assumption)|(simp;done))
  (first
   | (((have:=tk1);clear tk1;have v0:=(hi1.aU bT rfl rfl rfl rfl (.bool g1) (.slice p1 n1 c1) (.bool h1) (.slice o1 m1 e1)).drew.num.raw;go_at_call 97;(with_reducible refine(tX _ (((q)).num) _ v0 (by omega)).mono ?_);rintro e w2 ⟨v2,rfl,hi2,hb2⟩;obtain⟨g2,p2,n2,c2,rfl⟩:=hi2.form;have bJ:=((dA.dS (b:=w.heap.size) (by omega) (.bool g1) (.slice p1 n1 c1) (.bool h1) (.slice o1 m1 e1)).drew.to hb2);obtain⟨i0,m0,j0,n0,k0,o0,l0,p0⟩:=bJ.cf4)))
 have w0:=((hi1.aU bT rfl rfl rfl rfl (.bool g1) (.slice p1 n1 c1) (.bool h1) (.slice o1 m1 e1)).drew.below hb2)
 have r0:=(Below.tr (Below.aU (Below.tr (Below.tr aZ hA1) hb1) (b:=w.heap.size) (by omega) (.bool g1) (.slice p1 n1 c1) (.bool h1) (.slice o1 m1 e1)).drew hb2)
 go_wp2_with fail
 exact iw (v:=.agg #[.bool g2,.slice p2 n2 c2,.bool h1,.slice o1 m1 e1]) (by simp[results,Tryz.results172,go_sem,a0,e0,b0,f0,c0,g0,d0,h0,i0,m0,j0,n0,k0,o0,l0,p0]) rfl ⟨_,rfl,RQ.mk' (hi2.aU bJ rfl rfl rfl rfl (.bool g2) (.slice p2 n2 c2) (.bool h1) (.slice o1 m1 e1)) (w0.aU bJ rfl rfl rfl rfl (.bool g2) (.slice p2 n2 c2) (.bool h1) (.slice o1 m1 e1)).den (KP q).symm (by rw[KO]),(Below.aU r0 (b:=w.heap.size+1) (by omega) (.bool g2) (.slice p2 n2 c2) (.bool h1) (.slice o1 m1 e1))⟩
theorem a3R {x:Int} (h0:-9223372036854775808<=x) (h1:x<=9223372036854775807):isz x<=1000000000 :=
 iq (qI (k:=3) (by rw[bI];omega)) (by omega)
theorem b1O (i k:Int) (w:World) (h0:-9223372036854775808<=i) (h1:i<=9223372036854775807) (h2:-9223372036854775808<=k) (h3:k<=9223372036854775807) (hk:k≠0) :
  Calls Tryz.prog 147 #[.int .i64 i,.int .i64 k] w (GQC (Rat.divInt i k) 0 w):=by
 have hz1:=a3R h0 h1
 have hz2:=a3R h2 h3
 have aZ:Below w.heap.size w w:=bg _ _
 go_enter Tryz.func147,Tryz.ntmps147
 go_wp2_with fail
 (with_reducible refine(DK _ _ (by omega) (by omega)).mono ?_)
 rintro e w1 ⟨v1,rfl,hi1,hb1⟩
 obtain⟨g1,p1,n1,c1,rfl⟩:=hi1.form
 go_wp2_with fail
 (with_reducible refine(DK _ _ (by omega) (by omega)).mono ?_)
 rintro e w2 ⟨v2,rfl,hi2,hb2⟩
 obtain⟨g2,p2,n2,c2,rfl⟩:=hi2.form
 go_wp2_with fail
 have n0:=(hi1.below hb2)
 have l0:=n0.QG
 have m0:=hi2.QG
 (with_reducible refine(a4f _ _ _ _ (i) (k) _ l0 m0 hz1 hz2 hk).mono ?_)
 rintro e w3 ⟨v3,rfl,hi3,hb3⟩
 obtain⟨g3,p3,n3,c3,h3,o3,m3,e3,rfl⟩:=hi3.form
 obtain⟨hA1,k0⟩:=bx1 w rfl [.bool false,.slice none 0 0,.bool false,.slice none 0 0] 47
 have iY:=(((k0.to hb1).to hb2).to hb3)
 obtain⟨a0,e0,b0,f0,c0,g0,d0,i0⟩:=iY.cf4
 have j0:=(Below.tr (Below.tr (Below.tr (Below.tr aZ hA1) hb1) hb2) hb3)
 go_wp2_with fail
 exact iw (v:=.tuple #[.agg #[.bool g3,.slice p3 n3 c3,.bool h3,.slice o3 m3 e3],.int .i64 0]) (by simp[results,Tryz.results147,go_sem,a0,e0,b0,f0,c0,g0,d0,i0]) rfl ⟨_,rfl,(hi3.aU iY rfl rfl rfl rfl (.bool g3) (.slice p3 n3 c3) (.bool h3) (.slice o3 m3 e3)),(Below.aU j0 (b:=w.heap.size) (by omega) (.bool g3) (.slice p3 n3 c3) (.bool h3) (.slice o3 m3 e3))⟩
theorem VK (v:Value) (q:Rat) (w:World) (h:RQ w v q) (hl:rsz q<=1000000000) :
 Calls Tryz.prog 127 #[v] w (fun e w'=>e=.returned (.int .i64 (sgn q.num))/\Below w.heap.size w w'):=a6v v true q w h.raw (h.qn hl)
theorem a8X (v:Value) (q:Rat) (w:World) (h:RQ w v q) (hl:rsz q<=1000000000) :
 Calls Tryz.prog 172 #[v] w (GQ (-q) w):=a1c v true q w h.raw (h.qn hl)
section
open Go.RowKit Go.Shelf
attribute [local go_sem] Oper.semAt_some
def mF (x:Int):Int:=if -9223372036854775808<=x/\x<9223372036854775808 then x else 0
def mD (x:Int):Bool:=decide (-9223372036854775808<=x/\x<9223372036854775808)
def VQ:Nat:=9223372036854775808
theorem QZ:VQ=9223372036854775808:=rfl
structure SBx (B NB:Nat) (b:Bool) (v z:Int) (r:Bool) (W:World):Prop where
 q:W.cell? ⟨B,0,none⟩=some (.bool b)
 c2:W.cell? ⟨B+1,0,none⟩=some (.int .i64 z)
 f2:W.frozen? ⟨B+1,0,none⟩=false
 c3:W.cell? ⟨B+1+1,0,none⟩=some (.bool r)
 f3:W.frozen? ⟨B+1+1,0,none⟩=false
 n:W.cell? ⟨NB,0,none⟩=some (.int .u64 v)
 fn:W.frozen? ⟨NB,0,none⟩=false
theorem SBx.kept {B NB:Nat} {b r:Bool} {v z:Int} {A W:World} {row:Option Nat} (hs:SBx B NB b v z r A) (hg:A.grownBy W row) (hr:∀ k,row=some k->∃ o,A.heap[k]?=some o/\o.isCells=false):SBx B NB b v z r W :=
 ⟨Dk hs.q hg hr,Dk hs.c2 hg hr,(frozen_kept hs.c2 hg hr).trans hs.f2,Dk hs.c3 hg hr,(frozen_kept hs.c3 hg hr).trans hs.f3,Dk hs.n hg hr,(frozen_kept hs.n hg hr).trans hs.fn⟩
theorem SBx.c1f {B NB:Nat} {b r:Bool} {v z:Int} {W:World} (h:SBx B NB b v z r W) (hn:B+1+1<NB) (v':Int):SBx B NB b v' z r (W.setCell ⟨NB,0,none⟩ (.int .u64 v')):=by
 refine⟨?_,?_,?_,?_,?_,?_,?_⟩
 ·rw[jd _ _ _ _ (by simp;omega)];exact h.q
 ·rw[jd _ _ _ _ (by simp;omega)];exact h.c2
 ·rw[ru];exact h.f2
 ·rw[jd _ _ _ _ (by simp;omega)];exact h.c3
 ·rw[ru];exact h.f3
 ·exact zu _ _ _ (by rw[h.n];rfl)
 ·rw[ru];exact h.fn
theorem SBx.a9N {B NB:Nat} {b r:Bool} {v z:Int} {W:World} (h:SBx B NB b v z r W) (hn:B+1+1<NB) (z':Int) (r':Bool):SBx B NB b v z' r' ((W.setCell ⟨B+1,0,none⟩ (.int .i64 z')).setCell ⟨B+1+1,0,none⟩ (.bool r')):=by
 refine⟨?_,?_,?_,?_,?_,?_,?_⟩
 ·rw[jd _ _ _ _ (by simp;omega),jd _ _ _ _ (by simp)];exact h.q
 ·rw[jd _ _ _ _ (by simp)];exact zu _ _ _ (by rw[h.c2];rfl)
 ·rw[ru,ru];exact h.f2
 ·exact zu _ _ _ (by rw[jd _ _ _ _ (by simp)];rw[h.c3];rfl)
 ·rw[ru,ru];exact h.f3
 ·rw[jd _ _ _ _ (by simp;omega),jd _ _ _ _ (by simp;omega)];exact h.n
 ·rw[ru,ru];exact h.fn
theorem BD {k:Nat} (h:k<=18446744073709551615):IntKind.u64.wrap (k:Int)=k:=by simp[IntKind.wrap,IntKind.bits,IntKind.signed];omega
theorem WC {z:Int} (h0:0<=z) (h1:z<=18446744073709551615):IntKind.u64.wrap z=z:=by simp[IntKind.wrap,IntKind.bits,IntKind.signed];omega
theorem a6E {k:Nat} (h:k<=9223372036854775807):IntKind.i64.wrap (k:Int)=k:=by simp[IntKind.wrap,IntKind.bits,IntKind.signed];omega
theorem a3j {A:Nat} (h0:0<A) (h1:A<=9223372036854775808):IntKind.i64.wrap (IntKind.u64.wrap (-(A:Int)))=-(A:Int):=by simp[IntKind.wrap,IntKind.bits,IntKind.signed];omega
theorem a0O {l:List Nat} (hl:Low l) {pre:List (Fin l.length)} (h:gZ l.length pre) (hle:pre.length<=l.length):hval l pre<=val l:=by
 rw[UE h hle]
 have e:=val_append (l.take (l.length-pre.length)) (l.drop (l.length-pre.length))
 rw[Aj] at e
 have h1:1<=BB ^ (l.take (l.length-pre.length)).length:=Nat.pow_pos gV
 have h2:val (l.drop (l.length-pre.length))<=BB ^ (l.take (l.length-pre.length)).length*val (l.drop (l.length-pre.length)):=Nat.le_mul_of_pos_left _ h1
 omega
theorem a9X (x:Int) (b:Bool) (p:Option Addr) (n c:Nat) (w:World) (hv:Raw w (.agg #[.bool b,.slice p n c]) x) (hlen:(dig x.natAbs).length<=3) (hbx:x≠0->b=decide (x<0)) :
  CallsIn Fence.wide 3 Tryz.prog 282 #[.agg #[.bool b,.slice p n c]] w fun e W'=>e=.returned (.tuple #[.int .i64 (mF x),.bool (mD x)])/\Below w.heap.size w W':=by
 have hro:Fence.wide.round=none:=rfl
 refine callsIn_of_wp_marks Tryz.func282 rfl trivial ?_ hro
 simp only[Tryz.ntmps282,Ba,List.length_cons,List.length_nil,Nat.reduceAdd,Nat.reduceSub,Bq,Array.replicate_zero,Dp,Cc,List.nil_append,List.cons_append]
 have hd3:decide ((3:Int)<(dig x.natAbs).length)=false:=by simp;omega
 have hv1:=((hv.alloc (.cells #[.bool b,.slice p n c] 45)).alloc (.cells #[.int .i64 0] 3)).alloc (.cells #[.bool false] 4)
 have q0:Bx (((w.alloc (.cells #[.bool b,.slice p n c] 45)).alloc (.cells #[.int .i64 0] 3)).alloc (.cells #[.bool false] 4)) w.heap.size [.bool b,.slice p n c]:=((Bx.new w [.bool b,.slice p n c] 45).alloc _).alloc _
 have q1:Bx (((w.alloc (.cells #[.bool b,.slice p n c] 45)).alloc (.cells #[.int .i64 0] 3)).alloc (.cells #[.bool false] 4)) (w.heap.size+1) [.int .i64 0]:=by simpa using (Bx.new (w.alloc (.cells #[.bool b,.slice p n c] 45)) [.int .i64 0] 3).alloc (.cells #[.bool false] 4)
 have q2:Bx (((w.alloc (.cells #[.bool b,.slice p n c] 45)).alloc (.cells #[.int .i64 0] 3)).alloc (.cells #[.bool false] 4)) (w.heap.size+1+1) [.bool false]:=by simpa using Bx.new ((w.alloc (.cells #[.bool b,.slice p n c] 45)).alloc (.cells #[.int .i64 0] 3)) [.bool false] 4
 have hB0:Below w.heap.size w (((w.alloc (.cells #[.bool b,.slice p n c] 45)).alloc (.cells #[.int .i64 0] 3)).alloc (.cells #[.bool false] 4)):=(((bg _ _).alloc (ak _) _).alloc (by simp) _).alloc (by simp;omega) _
 gi_wp2_with (refine⟨trivial,?_⟩;gi_at_call 192;refine(callsIn_wide.2 (dJ _ x _ hv1)).mono ?_;rintro e w1 ⟨s1,rfl,hs1,hb1⟩;obtain⟨p1,c1,rfl,hl1,hm1⟩:=hs1.form)
 gi_wp2_with (refine⟨trivial,?_⟩;gi_at_call 278;refine(sW Fence.wide 2 trivial hro _ _ _ _).mono ?_;rintro e w' ⟨rfl,rfl⟩)
 have hlow:=bH x.natAbs
 have HX:=bn (aH x.natAbs)
 have HC:=bn (aY x.natAbs)
 have k0:=q0.to hb1
 have k1:=q1.to hb1
 have k2:=q2.to hb1
 have hBw1:=hB0.trans (hb1.mono (by simp;omega))
 have hz1:=k2.1
 clear hv hv1 q0 q1 q2 hB0 hb1
 generalize hll:dig x.natAbs=l at *
 have bN:=Bx.new w1 [.int .u64 0] 147
 have bS:=Boxed.new (w1.alloc (.cells #[.int .u64 0] 147)) 43 (.slice p1 l.length c1)
 rw[Ae] at bS
 have hA:Below w1.heap.size w1 ((w1.alloc (.cells #[.int .u64 0] 147)).alloc (.cells #[.slice p1 l.length c1] 43)):=((bg _ w1).alloc (ak _) _).alloc (by simp) _
 refine wpIn_rangeFunc_ownG (n:=3) (α:=Fin l.length) hro (by omega) (gf:=288) (lb:=#[.pointer (some ⟨w1.heap.size+1,0,none⟩)]) rfl trivial (enters_of Tryz.func288 (by kernel_rfl) rfl)
  (wC Fence.wide 2 trivial hro (by omega) (w1.heap.size+1) w1.heap.size _ l _ (by simp) (by simp;omega) bS.cell (hs1.b.below hA)) (fun h k=>KB.trans h k) (KB.b (by simp;omega) (by simp)) (bg _ _) (fun _=>rfl)
  (fun(pre:List (Fin l.length)) W=>(SBx w.heap.size w1.heap.size b (hval l pre:Nat) 0 false W/\hval l pre<=VQ)/\Below w.heap.size w W)
  (fun cd (pre:List (Fin l.length)) W=>(cd=.ret/\(∃ v,SBx w.heap.size w1.heap.size b v 0 false W)/\VQ<hval l pre)/\Below w.heap.size w W)
  (OwnFrom.and (Own.from (fun s A B row hs hg hr=>⟨hs.1.kept hg hr,hs.2⟩) _) (ownFrom_below (ak _) (by simp;omega)))
  (fun c=>OwnFrom.and (Own.from (fun s A B row hs hg hr=>by obtain⟨hc,⟨v,h1⟩,h2⟩:=hs;exact⟨hc,⟨v,h1.kept hg hr⟩,h2⟩) _) (ownFrom_below (ak _) (by simp;omega)))
  ⟨⟨by
    have kk0:=k0.to hA
    have kk1:=k1.to hA
    have kk2:=k2.to hA
    have nn:=bN.alloc (.cells #[.slice p1 l.length c1] 43)
    exact⟨kk0.c0,kk1.c0,kk1.f0,kk2.c0,kk2.f0,nn.c0,nn.f0⟩,by simp[hval,VQ]⟩,hBw1.trans (hA.mono (by omega))⟩
  (fun(x:Fin l.length)=>{ tmps:=#[.agg #[.bool b,.slice p n c],.pointer (some ⟨w.heap.size,0,none⟩),.pointer (some ⟨w.heap.size+1,0,none⟩),.pointer (some ⟨w.heap.size+1+1,0,none⟩),.slice p1 l.length c1,.pointer (some ⟨w1.heap.size,0,none⟩),undef,.int .u32 (gr l x.1:Nat),.agg #[.bool b,.slice p n c],.slice p1 l.length c1,.slice p1 l.length c1,.int .i64 (l.length:Nat),.bool false,.slice p1 l.length c1,.func (.func 288) #[] #[.pointer (some ⟨w1.heap.size+1,0,none⟩)],.int .i64 (x.1:Nat),.int .u32 (gr l x.1:Nat),undef,undef,undef,undef,undef,undef,undef,undef,undef,undef,undef,undef,undef,undef,undef,undef,undef,undef,undef,undef,undef,undef,undef,undef,undef,undef,undef],defers:=[] }) ?assign ?body ?done ?stop
 case assign =>
  intro l x W K hK
  gi_wp2
  exact hK
 case body =>
  rintro lo pre y W ⟨⟨hS,hT⟩,hB⟩ hpl
  have hg:=fU hlow y.1
  have HS:=bn (AL l pre y)
  obtain⟨hv,hhv⟩:∃ hv,hval l pre=hv:=⟨_,rfl⟩
  rw[hhv] at hS hT HS
  obtain⟨g,hgg⟩:∃ g,gr l y.1=g:=⟨_,rfl⟩
  rw[hgg] at hg HS ⊢
  have c1':=hS.n
  have f1':=hS.fn
  have c2':=hS.c2
  have f2':=hS.f2
  have c3':=hS.c3
  have f3':=hS.f3
  obtain⟨m,hm⟩:∃ m:Nat,(9223372036854775808:Int)-g=m:=⟨9223372036854775808-g,by omega⟩
  obtain⟨t,ht⟩:∃ t:Nat,(m:Int) / 1000000000=t:=⟨m / 1000000000,by simp⟩
  have hmn:m+g=9223372036854775808:=by omega
  have htn:m / 1000000000=t:=by omega
  have ht9:t<=9223372036:=by omega
  by_cases hle:hv<=t
  ·have hv9:hv<=9223372036:=by omega
   have hs9:hv*1000000000+g<=9223372036854775808:=by omega
   have d1:decide ((t:Int)<hv)=false:=by simp;omega
   have d2:decide (t<hv)=false:=by simp;omega
   have HT:=bn (show hv*BB+g<=VQ by rw[bI,QZ];exact hs9)
   have e1:IntKind.u64.wrap ((hv:Int)*1000000000)=(hv:Int)*1000000000:=WC (by omega) (by omega)
   have e2:IntKind.u64.wrap ((hv:Int)*1000000000+g)=(hv:Int)*1000000000+g:=WC (by omega) (by omega)
   have e3:IntKind.u64.wrap (m:Int)=m:=BD (by omega)
   have e4:IntKind.u64.wrap (t:Int)=t:=BD (by omega)
   clear hmn htn hs9 hT
   gi_wp2
   exact⟨(ug _ _ _).from _,KB.setCell (p:=⟨w1.heap.size,0,none⟩) (ak _) (by simp) _,⟨by rw[HS.out,bI];simpa using hS.c1f hz1 ((hv:Int)*1000000000+g),by rw[HS.out];exact HT.out⟩,hB.setCell (p:=⟨w1.heap.size,0,none⟩) (by simp;omega) _⟩
  ·have d1:decide ((t:Int)<hv)=true:=by simp;omega
   have d2:decide (t<hv)=true:=by simp;omega
   have e3:IntKind.u64.wrap (m:Int)=m:=BD (by omega)
   have e4:IntKind.u64.wrap (t:Int)=t:=BD (by omega)
   have HT:=bn (show VQ<hv*BB+g by rw[bI,QZ];omega)
   clear hmn htn hT hle
   gi_wp2
   exact⟨((ug _ _ _).trans (ug _ _ _)).from _,⟨rfl,⟨_,hS.a9N hz1 0 false⟩,by rw[HS.out];exact HT.out⟩,(hB.setCell (p:=⟨w.heap.size+1,0,none⟩) (by simp) _).setCell (p:=⟨w.heap.size+1+1,0,none⟩) (by simp;omega) _⟩
 case done =>
  rintro D ys W hD ⟨hbk,hyl⟩ ⟨⟨hS,hT⟩,hB⟩ hK
  rw[a0N hbk hyl] at hS hT
  obtain⟨A,hA'⟩:∃ A,val l=A:=⟨_,rfl⟩
  rw[hA'] at hS hT HX
  have hxA:=HX.out
  have q1':=hS.q
  have c1':=hS.n
  have f1':=hS.fn
  have c2':=hS.c2
  have f2':=hS.f2
  have c3':=hS.c3
  have f3':=hS.f3
  have hA0:l=[]↔A=0:=by
   rw[<-hll,iO];omega
  have a7J:A<=9223372036854775808:=hT
  have hlz:l.length=0↔A=0:=by rw[<-hA0];exact List.length_eq_zero_iff
  by_cases hneg:x<0
  ·have hb:b=true:=by rw[hbx (by omega)];simpa using hneg
   subst hb
   have hl0:decide ((0:Int)<l.length)=true:=by simp;omega
   have hl0':decide (0<l.length)=true:=by simp;omega
   have hw:=a3j (A:=A) (by omega) a7J
   have HF:Hid (mF x=-(A:Int)/\mD x=true):=by
    unfold Hid mF mD
    rw[jq (by omega)]
    exact⟨by omega,by simp;omega⟩
   have hpos:0<l.length:=by simpa using hl0'
   clear hT a7J hlz hA0 hxA hneg
   gi_wp2
   have hS2:=hS.a9N hz1 (-(A:Int)) true
   have hK':=((ug W ⟨w.heap.size+1,0,none⟩ (.int .i64 (-(A:Int)))).trans (ug _ ⟨w.heap.size+1+1,0,none⟩ (.bool true))).same D _ hK rfl
   refine⟨by simp,.inl ⟨_,_,rfl,Bh hK',?_⟩⟩
   have hS':=hS2.kept (Dl _ D (.deferred none)) (fun r e=>by cases e;exact⟨_,hK',rfl⟩)
   refine⟨.tuple #[.int .i64 (-(A:Int)),.bool true],?_,by rw[HF.out.1,HF.out.2],((hB.setCell (p:=⟨w.heap.size+1,0,none⟩) (by simp) _).setCell (p:=⟨w.heap.size+1+1,0,none⟩) (by simp;omega) _).trans (belowK_b (w:=w) (ak _) _ D _ _ (by simp at hD;omega) hK' rfl rfl)⟩
   simp[results,Tryz.results282,go_sem,hS'.c2,hS'.c3]
  ·have hxe:x=(A:Int):=by omega
   by_cases ht:A=9223372036854775808
   ·have hb:b=false:=by rw[hbx (by omega)];simpa using hneg
    subst hb
    have hl0:decide ((0:Int)<l.length)=true:=by simp;omega
    have hl0':decide (0<l.length)=true:=by simp;omega
    have hpos:0<l.length:=by simpa using hl0'
    have hq:((A:Int)==9223372036854775808)=true:=by simp;omega
    have HF:Hid (mF x=0/\mD x=false):=by
     unfold Hid mF mD
     rw[jk (by omega)]
     exact⟨rfl,by simp;omega⟩
    have HT:=bn ht
    clear hT a7J hlz hA0 hxA hneg hxe ht
    gi_wp2
    have hS2:=hS.a9N hz1 (0) false
    have hK':=((ug W ⟨w.heap.size+1,0,none⟩ (.int .i64 (0))).trans (ug _ ⟨w.heap.size+1+1,0,none⟩ (.bool false))).same D _ hK rfl
    refine⟨by simp,.inl ⟨_,_,rfl,Bh hK',?_⟩⟩
    have hS':=hS2.kept (Dl _ D (.deferred none)) (fun r e=>by cases e;exact⟨_,hK',rfl⟩)
    refine⟨.tuple #[.int .i64 (0),.bool false],?_,by rw[HF.out.1,HF.out.2],((hB.setCell (p:=⟨w.heap.size+1,0,none⟩) (by simp) _).setCell (p:=⟨w.heap.size+1+1,0,none⟩) (by simp;omega) _).trans (belowK_b (w:=w) (ak _) _ D _ _ (by simp at hD;omega) hK' rfl rfl)⟩
    simp[results,Tryz.results282,go_sem,hS'.c2,hS'.c3]
   ·have hq:((A:Int)==9223372036854775808)=false:=by simp;omega
    have hw:IntKind.i64.wrap (A:Int)=A:=a6E (by omega)
    have hA9:A<=9223372036854775807:=by omega
    have HF:Hid (mF x=(A:Int)/\mD x=true):=by
     unfold Hid mF mD
     rw[jq (by omega)]
     exact⟨hxe,by simp;omega⟩
    by_cases hl:l=[]
    ·have hl0:decide ((0:Int)<l.length)=false:=by rw[hl];rfl
     have hl0':decide (0<l.length)=false:=by rw[hl];rfl
     have hl9:¬ 0<l.length:=by simpa using hl0'
     have HT:=bn ht
     have HL:=bn hl
     clear hT a7J hlz hA0 hxA hneg hxe ht hl
     gi_wp2
     have hS2:=hS.a9N hz1 (A:Int) true
     have hK':=((ug W ⟨w.heap.size+1,0,none⟩ (.int .i64 (A:Int))).trans (ug _ ⟨w.heap.size+1+1,0,none⟩ (.bool true))).same D _ hK rfl
     refine⟨by simp,.inl ⟨_,_,rfl,Bh hK',?_⟩⟩
     have hS':=hS2.kept (Dl _ D (.deferred none)) (fun r e=>by cases e;exact⟨_,hK',rfl⟩)
     refine⟨.tuple #[.int .i64 (A:Int),.bool true],?_,by rw[HF.out.1,HF.out.2],((hB.setCell (p:=⟨w.heap.size+1,0,none⟩) (by simp) _).setCell (p:=⟨w.heap.size+1+1,0,none⟩) (by simp;omega) _).trans (belowK_b (w:=w) (ak _) _ D _ _ (by simp at hD;omega) hK' rfl rfl)⟩
     simp[results,Tryz.results282,go_sem,hS'.c2,hS'.c3]
    ·have hl8:0<l.length:=oq.2 hl
     have hb:b=false:=by rw[hbx (by omega)];simpa using hneg
     subst hb
     have hl0:decide ((0:Int)<l.length)=true:=by simp;omega
     have hl0':decide (0<l.length)=true:=by simp;omega
     have HT:=bn ht
     have HL:=bn hl
     clear hT a7J hlz hA0 hxA hneg hxe ht hl
     gi_wp2
     have hS2:=hS.a9N hz1 (A:Int) true
     have hK':=((ug W ⟨w.heap.size+1,0,none⟩ (.int .i64 (A:Int))).trans (ug _ ⟨w.heap.size+1+1,0,none⟩ (.bool true))).same D _ hK rfl
     refine⟨by simp,.inl ⟨_,_,rfl,Bh hK',?_⟩⟩
     have hS':=hS2.kept (Dl _ D (.deferred none)) (fun r e=>by cases e;exact⟨_,hK',rfl⟩)
     refine⟨.tuple #[.int .i64 (A:Int),.bool true],?_,by rw[HF.out.1,HF.out.2],((hB.setCell (p:=⟨w.heap.size+1,0,none⟩) (by simp) _).setCell (p:=⟨w.heap.size+1+1,0,none⟩) (by simp;omega) _).trans (belowK_b (w:=w) (ak _) _ D _ _ (by simp at hD;omega) hK' rfl rfl)⟩
     simp[results,Tryz.results282,go_sem,hS'.c2,hS'.c3]
 case stop =>
  rintro D cd pre W hD ⟨hbk,hpl⟩ ⟨⟨rfl,⟨v,hS⟩,hgt⟩,hB⟩ hK
  have hle:=a0O hlow hbk hpl
  have HF:Hid (mF x=0/\mD x=false):=by
   have h1:=HX.out
   rw[QZ] at hgt
   unfold Hid mF mD
   rw[jk (by omega)]
   exact⟨rfl,by simp;omega⟩
  clear hle hgt
  gi_wp2
  refine⟨by simp,.inl ⟨_,_,rfl,Bh hK,?_⟩⟩
  have hS':=hS.kept (Dl _ D (.deferred none)) (fun r e=>by cases e;exact⟨_,hK,rfl⟩)
  refine⟨.tuple #[.int .i64 0,.bool false],?_,by rw[HF.out.1,HF.out.2],hB.trans (belowK_b (w:=w) (ak _) W D _ _ (by simp at hD;omega) hK rfl rfl)⟩
  simp[results,Tryz.results282,go_sem,hS'.c2,hS'.c3]
theorem a2T (x:Int) (b:Bool) (p:Option Addr) (n c:Nat) (w:World) (hv:Raw w (.agg #[.bool b,.slice p n c]) x) (hlen:3<(dig x.natAbs).length) :
  Calls Tryz.prog 282 #[.agg #[.bool b,.slice p n c]] w fun e W'=>e=.returned (.tuple #[.int .i64 (mF x),.bool (mD x)])/\Below w.heap.size w W':=by
 have hd3:decide ((3:Int)<(dig x.natAbs).length)=true:=by simp;omega
 have hv1:=((hv.alloc (.cells #[.bool b,.slice p n c] 45)).alloc (.cells #[.int .i64 0] 3)).alloc (.cells #[.bool false] 4)
 have q1:Bx (((w.alloc (.cells #[.bool b,.slice p n c] 45)).alloc (.cells #[.int .i64 0] 3)).alloc (.cells #[.bool false] 4)) (w.heap.size+1) [.int .i64 0]:=by simpa using (Bx.new (w.alloc (.cells #[.bool b,.slice p n c] 45)) [.int .i64 0] 3).alloc (.cells #[.bool false] 4)
 have q2:Bx (((w.alloc (.cells #[.bool b,.slice p n c] 45)).alloc (.cells #[.int .i64 0] 3)).alloc (.cells #[.bool false] 4)) (w.heap.size+1+1) [.bool false]:=by simpa using Bx.new ((w.alloc (.cells #[.bool b,.slice p n c] 45)).alloc (.cells #[.int .i64 0] 3)) [.bool false] 4
 have hB0:Below w.heap.size w (((w.alloc (.cells #[.bool b,.slice p n c] 45)).alloc (.cells #[.int .i64 0] 3)).alloc (.cells #[.bool false] 4)):=(((bg _ _).alloc (ak _) _).alloc (by simp) _).alloc (by simp;omega) _
 have HF:Hid (mF x=0/\mD x=false):=by
  have h1:=oP hlen
  rw[bI] at h1
  unfold Hid mF mD
  rw[jk (by omega)]
  exact⟨rfl,by simp;omega⟩
 go_enter Tryz.func282,Tryz.ntmps282
 go_wp2_with fail
 refine(dJ _ x _ hv1).mono ?_
 rintro e w1 ⟨s1,rfl,hs1,hb1⟩
 obtain⟨p1,c1,rfl,hl1,hm1⟩:=hs1.form
 have k1:=q1.to hb1
 have k2:=q2.to hb1
 have r0:=k1.c0
 have f0:=k1.f0
 have r1:=k2.c0
 have f1:=k2.f0
 have hBw1:=Below.tr hB0 hb1
 go_wp2_with fail
 exact iw (v:=.tuple #[.int .i64 0,.bool false]) (by simp[results,Tryz.results282,go_sem,r0,r1]) rfl ⟨by rw[HF.out.1,HF.out.2],(hBw1.setCell (p:=⟨w.heap.size+1,0,none⟩) (by simp) _).setCell (p:=⟨w.heap.size+1+1,0,none⟩) (by simp;omega) _⟩
theorem a6w (v:Value) (x:Int) (w:World) (hv:Raw w v x) :
  Calls Tryz.prog 282 #[v] w fun e W'=>e=.returned (.tuple #[.int .i64 (mF x),.bool (mD x)])/\Below w.heap.size w W':=by
 obtain⟨b,p,n,c,rfl⟩:=hv.form
 by_cases h:(dig x.natAbs).length<=3
 ·exact callsIn_wide.1 (a9X x b p n c w hv h (fun h=>hv.sign h))
 ·exact a2T x b p n c w hv (by omega)
end
end Go.Proofs.YtbkocjmmbkifjaaGreat
