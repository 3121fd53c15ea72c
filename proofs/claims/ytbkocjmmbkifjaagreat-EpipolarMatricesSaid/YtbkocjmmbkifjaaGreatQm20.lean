/-
  Lemmas for the theorem vmatrices28_holds, part 20 of 33.
-/
import Derived.Test.YtbkocjmmbkifjaaGreatQm19
namespace Go.Proofs.YtbkocjmmbkifjaaGreat
open Go Go.RowKit
set_option linter.unusedSimpArgs false
set_option linter.unusedVariables false
set_option maxRecDepth 20000
noncomputable def a0A (rt:Ty):Nat->TypeId->Option Ty
 | 0,_=>none
 | n+1,t=>if t=47 then some rt else if t=45 then some (.lf .big) else match Tryz.prog.underlying t with
  | some .bool=>some .bool
  | some (.int k)=>some (.int k)
  | some .string=>some (.lf .str)
  | some (.slice e)=>(a0A rt n e).map .list
  | some (.array m e)=>(a0A rt n e).map (.arr m)
  | some (.struct fs)=>fs.toList.foldr (fun f acc=>match a0A rt n f.type,acc with
   | some a,some b=>some (.pair a b)
   | _,_=>none) (some .unit)
  | _=>none
structure Hint where
 wr:List Nat
 kb:List Nat:=[]
 mt:List (Nat × Ty):=[]
def b4n:List (Nat × Ty)->Nat->Option Ty
 | [],_=>none
 | (s,t)::l,q=>if q=s then some t else b4n l q
noncomputable def told (h:Hint) (nc:FuncId->List At->List nI):Told:=⟨a0A (.lf .jF) 8,a0A (.lf .rat) 8,fun s=>h.wr.contains s || h.kb.contains s,fun s=>h.kb.contains s,b4n h.mt,nc⟩
structure Lib where
 l:List (FuncId × Ctr)
 ok:∀ p ∈ l,aS Tryz.prog p.1 p.2
 n:List (FuncId × nI)
 okn:∀ p ∈ n,NOk Tryz.prog p.1 p.2
def CW {γ:Type}:List (FuncId × γ)->FuncId->List γ
 | [],_=>[]
 | (f,c)::l,g=>if g=f then c::CW l g else CW l g
theorem mY {γ:Type}:∀ {l:List (FuncId × γ)} {g:FuncId} {c:γ},c ∈ CW l g->(g,c) ∈ l
 | (f,c')::l,g,c,h=>by
  simp only[CW] at h
  split at h
  ·rename_i e
   rcases qm.1 h with rfl|h
   ·rw[e];exact jr ..
   ·exact jk _ (mY h)
  ·exact jk _ (mY h)
 | [],g,c,h=>by cases h
def Lib.nil:Lib:=⟨[],(fun p hp=>by cases hp),[],fun p hp=>by cases hp⟩
def Lib.add (L:Lib) (f:FuncId) (c:Ctr) (h:aS Tryz.prog f c):Lib:=⟨(f,c)::L.l,fun p hp=>(qm.1 hp).elim (fun e=>by subst e;exact h) (fun hp=>L.ok p hp),L.n,L.okn⟩
def Lib.b9P (L:Lib) (f:FuncId) (c:nI) (h:NOk Tryz.prog f c):Lib:=⟨L.l,L.ok,(f,c)::L.n,fun p hp=>(qm.1 hp).elim (fun e=>by subst e;exact h) (fun hp=>L.okn p hp)⟩
def Lib.ad (L:Lib) {f:FuncId} {c:Ctr} (h:aS Tryz.prog f c):Lib:=L.add f c h
def Lib.an (L:Lib) {f:FuncId} {c:nI} (h:NOk Tryz.prog f c):Lib:=L.b9P f c h
def nil0:Lib:=Lib.nil
noncomputable def Lib.book (L:Lib) (N:Nat) (h:Hint):Book:=⟨Tryz.prog,fun g _=>CW L.l g,told h (fun g _=>CW L.n g),N,fun _=>false⟩
theorem Lib.good (L:Lib) (N:Nat) (wr:Hint):(L.book N wr).Ok:=⟨fun g _ c h=>L.ok (g,c) (mY h),fun g _ c h=>L.okn (g,c) (mY h)⟩
theorem mixed:Tryz.prog.follows .mixedOrders=true:=by kernel_rfl
theorem bH (L:Lib) {f:FuncId} {fn:Func} {code:Code} {c:Ctr} (hint:Hint) (hf:Tryz.prog.funcs[f]?=some fn) (hb:fn.body=some code) (hargs:c.args.length<=fn.ntmps) (A:(nest c.args).den->List Ann)
  (h:∀ x,c.pre x->vwp (L.book fn.ntmps hint) code (A x) (a7j (L.book fn.ntmps hint) c.res fn.results.toList (c.fn x)) (sF 0 c.args x) []):aS Tryz.prog f c :=
 b5d (B:=L.book fn.ntmps hint) (L.good fn.ntmps hint) mixed hf hb rfl rfl hargs A h
theorem qQ (L:Lib) {f:FuncId} {fn:Func} {code:Code} {c:Ctr} (wr:List Nat) (hf:Tryz.prog.funcs[f]?=some fn) (hb:fn.body=some code) (hargs:c.args.length<=fn.ntmps) (A:(nest c.args).den->List Ann)
  (h:∀ x,c.pre x->vwp (L.book fn.ntmps ⟨wr,[],[]⟩) code (A x) (a7j (L.book fn.ntmps ⟨wr,[],[]⟩) c.res fn.results.toList (c.fn x)) (sF 0 c.args x) []):aS Tryz.prog f c :=
 bH L ⟨wr,[],[]⟩ hf hb hargs A h
theorem a0e (L:Lib) {f:FuncId} {fn:Func} {code:Code} {k:LK} {args:List Ty} {pre:(nest args).den->Prop} {made:(nest args).den->k.ty.den} {dec:∀ x,Dc (pre x)} (hint:Hint) (hf:Tryz.prog.funcs[f]?=some fn) (hb:fn.body=some code) (hargs:args.length<=fn.ntmps) (A:(nest args).den->List Ann)
  (h:∀ x,pre x->vwp (L.book fn.ntmps hint) code (A x) (b3w k (made x) fn.results.toList) (sF 0 args x) []):NOk Tryz.prog f (@nI.mk k args pre made dec) :=
 b5X (B:=L.book fn.ntmps hint) (L.good fn.ntmps hint) mixed hf hb rfl rfl hargs A h
theorem uU {F:Nat->Prop} {w:World} {v:Value} {x:Rat} (h:iU F w (.lf .rat) v x):RQ w v x:=by
 obtain⟨cs,rfl,h2⟩:=h
 exact h2
theorem XG {F:Nat->Prop} {w:World} {v:Value} {x:Rat} (h:RQ w v x):iU F w (.lf .rat) v x:=by
 obtain⟨b,p,n,c,b',p',n',c',rfl⟩:=h.form
 exact⟨_,rfl,h⟩
theorem a3X {F:Nat->Prop} {w:World} (b:Bool):iU F w .bool (.bool b) b:=⟨_,rfl,rfl⟩
theorem b4W {F:Nat->Prop} {w:World} {v:Value} {b:Bool} (h:iU F w .bool v b):v=.bool b:=by
 obtain⟨cs,rfl,h2⟩:=h
 rw[show cs=_ from h2];rfl
theorem tV {F:Nat->Prop} {w:World} {k:IntKind} (b:Int):iU F w (.int k) (.int k b) b:=⟨_,rfl,rfl⟩
theorem a1E {F:Nat->Prop} {w:World} {k:IntKind} {v:Value} {b:Int} (h:iU F w (.int k) v b):v=.int k b:=by
 obtain⟨cs,rfl,h2⟩:=h
 rw[show cs=_ from h2];rfl
abbrev tQ:Ty:=.lf .rat
abbrev tI:Ty:=.int .i64
def cQ2 (pre:Rat->Rat->Prop) [hd:∀ x y,Dc (pre x y)] (g:Rat->Rat->Rat):Ctr:={ args:=[tQ,tQ],res:=[tQ],pre:=fun x=>pre x.1 x.2.1,fn:=fun x=>(g x.1 x.2.1,()),dec:=fun x=>hd x.1 x.2.1 }
theorem DJ {f:FuncId} {pre:Rat->Rat->Prop} [∀ x y,Dc (pre x y)] {g:Rat->Rat->Rat} (h:∀ (v u:Value) (x y:Rat) (w:World),RQ w v x->RQ w u y->pre x y->Calls Tryz.prog f #[v,u] w (GQ (g x y) w)):aS Tryz.prog f (cQ2 pre g):=by
 intro F w vs x hF hvs hp
 obtain⟨v,vs',rfl,h1,u,vs'',rfl,h2,h3⟩:=hvs
 have h3:vs''=[]:=h3
 subst h3
 refine(h v u x.1 x.2.1 w (uU h1) (uU h2) hp).mono ?_
 rintro e w' ⟨r,rfl,hr,hb⟩
 exact⟨r,rfl,XG hr,hb⟩
def cQ1 (pre:Rat->Prop) [hd:∀ x,Dc (pre x)] (g:Rat->Rat):Ctr:={ args:=[tQ],res:=[tQ],pre:=fun x=>pre x.1,fn:=fun x=>(g x.1,()),dec:=fun x=>hd x.1 }
theorem a7Y {f:FuncId} {pre:Rat->Prop} [∀ x,Dc (pre x)] {g:Rat->Rat} (h:∀ (v:Value) (x:Rat) (w:World),RQ w v x->pre x->Calls Tryz.prog f #[v] w (GQ (g x) w)):aS Tryz.prog f (cQ1 pre g):=by
 intro F w vs x hF hvs hp
 obtain⟨v,vs',rfl,h1,h3⟩:=hvs
 have h3:vs'=[]:=h3
 subst h3
 refine(h v x.1 w (uU h1) hp).mono ?_
 rintro e w' ⟨r,rfl,hr,hb⟩
 exact⟨r,rfl,XG hr,hb⟩
def cIQ (pre:Int->Prop) [hd:∀ x,Dc (pre x)] (g:Int->Rat):Ctr:={ args:=[tI],res:=[tQ],pre:=fun x=>pre x.1,fn:=fun x=>(g x.1,()),dec:=fun x=>hd x.1 }
theorem YF {f:FuncId} {pre:Int->Prop} [∀ x,Dc (pre x)] {g:Int->Rat} (h:∀ (x:Int) (w:World),pre x->Calls Tryz.prog f #[.int .i64 x] w (GQ (g x) w)):aS Tryz.prog f (cIQ pre g):=by
 intro F w vs x hF hvs hp
 obtain⟨v,vs',rfl,h1,h3⟩:=hvs
 have h3:vs'=[]:=h3
 subst h3
 rw[a1E h1]
 refine(h x.1 w hp).mono ?_
 rintro e w' ⟨r,rfl,hr,hb⟩
 exact⟨r,rfl,XG hr,hb⟩
set_option maxRecDepth 100000
set_option maxHeartbeats 4000000
theorem mP {n d:Int} {k:Nat} (hd:d≠0) (h:isz d<=k):isz ((Int.gcd n d:Nat):Int)<=k:=by
 refine dh (QG ?_) h
 rw[Int.natAbs_natCast]
 have:=Nat.gcd_le_right n.natAbs (show 0<d.natAbs by omega)
 exact this
theorem gcd_ne {n d:Int} (hd:d≠0):((Int.gcd n d:Nat):Int)≠0:=by
 have:0<Int.gcd n d:=Int.gcd_pos_of_ne_zero_right _ hd
 omega
theorem EY {n d:Int} (hd:0<d):n.fdiv ((Int.gcd n d:Nat):Int)=(Rat.divInt n d).num/\d.fdiv ((Int.gcd n d:Nat):Int)=(Rat.divInt n d).den:=by
 rw[nS hd,nR hd,Int.fdiv_eq_ediv_of_nonneg _ (by omega),Int.fdiv_eq_ediv_of_nonneg _ (by omega)]
 exact⟨rfl,rfl⟩
theorem YW {n d:Int} (hd:d<0):(-n).fdiv ((Int.gcd (-n) (-d):Nat):Int)=(Rat.divInt n d).num/\(-d).fdiv ((Int.gcd (-n) (-d):Nat):Int)=(Rat.divInt n d).den:=by
 rw[<-sK n d]
 exact EY (by omega)
theorem TR (v:Value) (x:Int) (w:World) (h:fE w v true x) :
  Calls Tryz.prog 256 #[v] w (mD x w):=by
 obtain⟨b,p,n,c,rfl⟩:=h.raw.form
 have bC:Below w.heap.size w w:=bg _ _
 go_enter Tryz.func256,Tryz.ntmps256
 go_wp2_with fail
 obtain⟨hA1,f0,g0⟩:=bx2 w rfl [.bool b,.slice p n c] 45 [.bool false,.slice none 0 0] 45
 have h0:=(h.below hA1)
 (with_reducible refine(jG _ _ _ _ h0).mono ?_)
 rintro e w1 ⟨rfl,hb1⟩
 have bW:=(f0.to hb1)
 obtain⟨i0,j0⟩:=bW.cs2
 have dA:=(g0.to hb1)
 obtain⟨a0,c0,b0,d0⟩:=dA.cf2
 have h_1:=((h.below hA1).below hb1)
 have e0:=(Below.tr (Below.tr bC hA1) hb1)
 go_wp2_with fail
 exact ji (v:=.agg #[.bool b,.slice p n c]) (by simp[results,Tryz.results256,go_sem,a0,c0,b0,d0]) rfl ⟨_,rfl,fE.int (h_1.aF dA rfl rfl (.bool b) (.slice p n c)),(Below.aF e0 (b:=w.heap.size+1) (by omega) (.bool b) (.slice p n c))⟩
theorem OU (v:Value) (x:Int) (w:World) (h:fE w v false x) :
  Calls Tryz.prog 256 #[v] w (mD x w):=by
 obtain⟨b,p,n,c,rfl⟩:=h.raw.form
 have HX:Hid (x=0):=h.zero
 have bC:Below w.heap.size w w:=bg _ _
 go_enter Tryz.func256,Tryz.ntmps256
 go_wp2_with fail
 obtain⟨hA1,h0,f0⟩:=bx2 w rfl [.bool b,.slice p n c] 45 [.bool false,.slice none 0 0] 45
 have g0:=(h.below hA1)
 (with_reducible refine(jG _ _ _ _ g0).mono ?_)
 rintro e w1 ⟨rfl,hb1⟩
 go_wp2_with fail
 (with_reducible refine(zO _ _ (by omega) (by omega)).mono ?_)
 rintro e w2 ⟨v2,rfl,hi2,hb2⟩
 obtain⟨g2,p2,n2,c2,rfl⟩:=hi2.form
 have bP:=((f0.to hb1).to hb2)
 obtain⟨a0,c0,b0,d0⟩:=bP.cf2
 have e0:=(Below.tr (Below.tr (Below.tr bC hA1) hb1) hb2)
 go_wp2_with fail
 exact ji (v:=.agg #[.bool g2,.slice p2 n2 c2]) (by simp[results,Tryz.results256,go_sem,a0,c0,b0,d0]) rfl ⟨_,rfl,by rw[HX.out];exact(hi2.aF bP rfl rfl (.bool g2) (.slice p2 n2 c2)),(Below.aF e0 (b:=w.heap.size+1) (by omega) (.bool g2) (.slice p2 n2 c2))⟩
theorem RZ (v u:Value) (x y:Int) (w:World) (hv:cZ w v x) (hu:cZ w u y) (hl:isz x<=1000000000) (hl2:isz y<=1000000000) (hd:0<y) :
  Calls Tryz.prog 180 #[v,u] w (GQ (Rat.divInt x y) w):=by
 obtain⟨b,p,n,c,rfl⟩:=hv.form
 obtain⟨d,o,m,e,rfl⟩:=hu.form
 have HX:=bn (EY (n:=x) hd)
 have hn1:isz (-x)<=1000000000:=by rw[kX];omega
 have hn2:isz (-y)<=1000000000:=by rw[kX];omega
 have hlg:isz ((Int.gcd x y:Nat):Int)<=1000000000:=mP (by omega) (by assumption)
 have hg0:((Int.gcd x y:Nat):Int)≠0:=gcd_ne (by omega)
 have hsg:decide (sgn y<0)=false:=by rw[xO hd];rfl
 clear hd
 have bC:Below w.heap.size w w:=bg _ _
 go_enter Tryz.func180,Tryz.ntmps180
 go_wp2_with fail
 obtain⟨hA1,w0,x0,y0⟩:=bx3 w rfl [.bool b,.slice p n c] 45 [.bool d,.slice o m e] 45 [.bool false,.slice none 0 0,.bool false,.slice none 0 0] 47
 have a1:=(hu.below hA1).raw
 (with_reducible refine(lC _ (y) _ a1).mono ?_)
 rintro e w1 ⟨rfl,hb1⟩
 have bW:=(w0.to hb1)
 obtain⟨j1,m1⟩:=bW.cs2
 have dA:=(x0.to hb1)
 obtain⟨p1,r1⟩:=dA.cs2
 go_wp2_with fail
 have pF:=((hv.below hA1).below hb1)
 have b1:=pF.raw
 have iK:=((hu.below hA1).below hb1)
 have c1:=iK.raw
 (with_reducible refine(FC _ _ (x) (y) _ b1 c1 (by omega) (by omega)).mono ?_)
 rintro e w2 ⟨v2,rfl,hi2,hb2⟩
 obtain⟨g2,p2,n2,c2,rfl⟩:=hi2.form
 have bU:=(bW.to hb2)
 obtain⟨k1,n1⟩:=bU.cs2
 have q0:=(bU).1
 have bP:=(dA.to hb2)
 have r0:=(bP).1
 have jZ:=((y0.to hb1).to hb2)
 have s0:=(jZ).1
 go_wp2_with fail
 have DX:=(pF.below hb2)
 obtain⟨hA2,z0⟩:=bx1 w2 rfl [.bool g2,.slice p2 n2 c2] 45
 have d1:=(DX.below hA2).raw
 have e1:=(hi2.below hA2).raw
 (with_reducible refine(oU _ _ (x) ((Int.gcd (x) (y):Int)) _ d1 e1 (by omega) hlg hg0).mono ?_)
 rintro e w3 ⟨v3,u3,rfl,hi3,hj3,hb3⟩
 obtain⟨g3,p3,n3,c3,rfl⟩:=hi3.form
 obtain⟨h3,o3,m3,e3,rfl⟩:=hj3.form
 have jA:=((bU.to hA2).to hb3)
 obtain⟨a0,c0,b0,d0⟩:=jA.cf2
 have lT:=((bP.to hA2).to hb3)
 obtain⟨q1,s1⟩:=lT.cs2
 have t1:=(z0.to hb3)
 obtain⟨u0,v0⟩:=t1.cs2
 go_wp2_with fail
 have FP:=(((iK.below hb2).below hA2).below hb3)
 have f1:=(FP.aF jA rfl rfl (.bool g3) (.slice p3 n3 c3)).raw
 have h1:=((hi2.below hA2).below hb3)
 have g1:=(h1.aF jA rfl rfl (.bool g3) (.slice p3 n3 c3)).raw
 (with_reducible refine(oU _ _ (y) ((Int.gcd (x) (y):Int)) _ f1 g1 (by omega) hlg hg0).mono ?_)
 rintro e w4 ⟨v4,u4,rfl,hi4,hj4,hb4⟩
 obtain⟨g4,p4,n4,c4,rfl⟩:=hi4.form
 obtain⟨h4,o4,m4,e4,rfl⟩:=hj4.form
 have jM:=((lT.aI (b:=w.heap.size) (by omega) (.bool g3) (.slice p3 n3 c3)).to hb4)
 obtain⟨e0,g0,f0,h0⟩:=jM.cf2
 have kN:=((jA.store2 (.bool g3) (.slice p3 n3 c3)).to hb4)
 obtain⟨l1,o1⟩:=kN.cs2
 have kZ:=((((jZ.to hA2).to hb3).aI (b:=w.heap.size) (by omega) (.bool g3) (.slice p3 n3 c3)).to hb4)
 obtain⟨i0,m0,j0,n0,k0,o0,l0,p0⟩:=kZ.cf4
 have i1:=((hi3.aF jA rfl rfl (.bool g3) (.slice p3 n3 c3)).below hb4)
 have t0:=(Below.tr (Below.aF (Below.tr (Below.tr (Below.tr (Below.tr (Below.tr bC hA1) hb1) hb2) hA2) hb3) (b:=w.heap.size) (by omega) (.bool g3) (.slice p3 n3 c3)) hb4)
 go_wp2_with fail
 exact ji (v:=.agg #[.bool g3,.slice p3 n3 c3,.bool g4,.slice p4 n4 c4]) (by simp[results,Tryz.results180,go_sem,q0,r0,s0,a0,c0,b0,d0,e0,g0,f0,h0,i0,m0,j0,n0,k0,o0,l0,p0]) rfl ⟨_,rfl,RQ.mk' ((i1.aF jM rfl rfl (.bool g4) (.slice p4 n4 c4)).aU (kZ.aI (b:=w.heap.size+1) (by omega) (.bool g4) (.slice p4 n4 c4)) rfl rfl rfl rfl (.bool g3) (.slice p3 n3 c3) (.bool g4) (.slice p4 n4 c4)) ((hi4.aF jM rfl rfl (.bool g4) (.slice p4 n4 c4)).aU (kZ.aI (b:=w.heap.size+1) (by omega) (.bool g4) (.slice p4 n4 c4)) rfl rfl rfl rfl (.bool g3) (.slice p3 n3 c3) (.bool g4) (.slice p4 n4 c4)) HX.out.1 HX.out.2,(Below.aU (Below.aF t0 (b:=w.heap.size+1) (by omega) (.bool g4) (.slice p4 n4 c4)) (b:=w.heap.size+1+1) (by omega) (.bool g3) (.slice p3 n3 c3) (.bool g4) (.slice p4 n4 c4))⟩
theorem UG (v u:Value) (x y:Int) (w:World) (hv:cZ w v x) (hu:cZ w u y) (hl:isz x<=1000000000) (hl2:isz y<=1000000000) (hd:y<0) :
  Calls Tryz.prog 180 #[v,u] w (GQ (Rat.divInt x y) w):=by
 obtain⟨b,p,n,c,rfl⟩:=hv.form
 obtain⟨d,o,m,e,rfl⟩:=hu.form
 have HX:=bn (YW (n:=x) hd)
 have hn1:isz (-x)<=1000000000:=by rw[kX];omega
 have hn2:isz (-y)<=1000000000:=by rw[kX];omega
 have hlg:isz ((Int.gcd (-x) (-y):Nat):Int)<=1000000000:=mP (by omega) (by assumption)
 have hg0:((Int.gcd (-x) (-y):Nat):Int)≠0:=gcd_ne (by omega)
 have hsg:decide (sgn y<0)=true:=by rw[IC hd];rfl
 clear hd
 have bC:Below w.heap.size w w:=bg _ _
 go_enter Tryz.func180,Tryz.ntmps180
 go_wp2_with fail
 obtain⟨hA1,f1,g1,h1⟩:=bx3 w rfl [.bool b,.slice p n c] 45 [.bool d,.slice o m e] 45 [.bool false,.slice none 0 0,.bool false,.slice none 0 0] 47
 have j1:=(hu.below hA1).raw
 (with_reducible refine(lC _ (y) _ j1).mono ?_)
 rintro e w1 ⟨rfl,hb1⟩
 go_wp2_with fail
 have bW:=(f1.to hb1)
 obtain⟨x1,j2,d2,l2⟩:=bW.drew.cf2
 have dA:=(g1.to hb1)
 obtain⟨o2,z2,t2,b3⟩:=dA.drew.cf2
 have tk1:True:=trivial
 have tk2:True:=trivial
 go_region_with
  (first
   | (((have:=tk1);clear tk1;have pF:=((hv.below hA1).below hb1);have k1:=pF.drew.raw;go_at_call 97;(with_reducible refine(rF _ (x) _ k1 (by omega)).mono ?_);rintro e w2 ⟨v2,rfl,hi2,hb2⟩;obtain⟨g2,p2,n2,c2,rfl⟩:=hi2.form;have bP:=(dA.drew.to hb2);obtain⟨q2,a3,u2,d3⟩:=bP.cf2;have bU:=(bW.drew.to hb2);obtain⟨y1,k2,e2,m2⟩:=bU.cf2))
   | (((have:=tk2);clear tk2;have TY:=(((hu.below hA1).below hb1).drew.below hb2);have l1:=TY.raw;go_at_call 97;(with_reducible refine(rF _ (y) _ l1 (by omega)).mono ?_);rintro e w3 ⟨v3,rfl,hi3,hb3⟩;obtain⟨g3,p3,n3,c3,rfl⟩:=hi3.form;have jA:=(bU.to hb3);obtain⟨a0,e0,c0,g0⟩:=jA.cf2;have lT:=(bP.to hb3);obtain⟨i0,m0,k0,o0⟩:=lT.cf2)))
 all_goals
  obtain⟨z1,f2⟩:=((jA.store2 (.bool g2) (.slice p2 n2 c2)).aI (b:=w.heap.size+1) (by omega) (.bool g3) (.slice p3 n3 c3)).cs2
  obtain⟨r2,x2⟩:=((lT.aI (b:=w.heap.size) (by omega) (.bool g2) (.slice p2 n2 c2)).store2 (.bool g3) (.slice p3 n3 c3)).cs2
  go_wp2_with fail
  have b1:=(hi2.below hb3)
  have m1:=((b1.aF jA rfl rfl (.bool g2) (.slice p2 n2 c2)).aF (lT.aI (b:=w.heap.size) (by omega) (.bool g2) (.slice p2 n2 c2)) rfl rfl (.bool g3) (.slice p3 n3 c3)).raw
  have n1:=((hi3.aF jA rfl rfl (.bool g2) (.slice p2 n2 c2)).aF (lT.aI (b:=w.heap.size) (by omega) (.bool g2) (.slice p2 n2 c2)) rfl rfl (.bool g3) (.slice p3 n3 c3)).raw
  (with_reducible refine(FC _ _ (-((x))) (-((y))) _ m1 n1 (by omega) (by omega)).mono ?_)
  rintro e w4 ⟨v4,rfl,hi4,hb4⟩
  obtain⟨g4,p4,n4,c4,rfl⟩:=hi4.form
  have kN:=(((jA.store2 (.bool g2) (.slice p2 n2 c2)).aI (b:=w.heap.size+1) (by omega) (.bool g3) (.slice p3 n3 c3)).to hb4)
  obtain⟨a2,h2⟩:=kN.cs2
  have y0:=(kN).1
  have jM:=(((lT.aI (b:=w.heap.size) (by omega) (.bool g2) (.slice p2 n2 c2)).store2 (.bool g3) (.slice p3 n3 c3)).to hb4)
  have z0:=(jM).1
  have kZ:=((((((h1.to hb1).drew.to hb2).to hb3).aI (b:=w.heap.size) (by omega) (.bool g2) (.slice p2 n2 c2)).aI (b:=w.heap.size+1) (by omega) (.bool g3) (.slice p3 n3 c3)).to hb4)
  have a1:=(kZ).1
  go_wp2_with fail
  have s1:=(((b1.aF jA rfl rfl (.bool g2) (.slice p2 n2 c2)).aF (lT.aI (b:=w.heap.size) (by omega) (.bool g2) (.slice p2 n2 c2)) rfl rfl (.bool g3) (.slice p3 n3 c3)).below hb4)
  obtain⟨hA2,i1⟩:=bx1 w4 rfl [.bool g4,.slice p4 n4 c4] 45
  have o1:=(s1.below hA2).raw
  have p1:=(hi4.below hA2).raw
  (with_reducible refine(oU _ _ (-((x))) ((Int.gcd (-((x))) (-((y))):Int)) _ o1 p1 (by omega) hlg hg0).mono ?_)
  rintro e w5 ⟨v5,u5,rfl,hi5,hj5,hb5⟩
  obtain⟨g5,p5,n5,c5,rfl⟩:=hi5.form
  obtain⟨h5,o5,m5,e5,rfl⟩:=hj5.form
  have a1Z:=((kN.to hA2).to hb5)
  obtain⟨b0,f0,d0,h0⟩:=a1Z.cf2
  have b0x:=((jM.to hA2).to hb5)
  obtain⟨s2,y2⟩:=b0x.cs2
  have e3:=(i1.to hb5)
  obtain⟨d1,e1⟩:=e3.cs2
  go_wp2_with fail
  have t1:=(((((hi3.aF jA rfl rfl (.bool g2) (.slice p2 n2 c2)).aF (lT.aI (b:=w.heap.size) (by omega) (.bool g2) (.slice p2 n2 c2)) rfl rfl (.bool g3) (.slice p3 n3 c3)).below hb4).below hA2).below hb5)
  have q1:=(t1.aF a1Z rfl rfl (.bool g5) (.slice p5 n5 c5)).raw
  have u1:=((hi4.below hA2).below hb5)
  have r1:=(u1.aF a1Z rfl rfl (.bool g5) (.slice p5 n5 c5)).raw
  (with_reducible refine(oU _ _ (-((y))) ((Int.gcd (-((x))) (-((y))):Int)) _ q1 r1 (by omega) hlg hg0).mono ?_)
  rintro e w6 ⟨v6,u6,rfl,hi6,hj6,hb6⟩
  obtain⟨g6,p6,n6,c6,rfl⟩:=hi6.form
  obtain⟨h6,o6,m6,e6,rfl⟩:=hj6.form
  have a3u:=((b0x.aI (b:=w.heap.size) (by omega) (.bool g5) (.slice p5 n5 c5)).to hb6)
  obtain⟨j0,n0,l0,p0⟩:=a3u.cf2
  have b0w:=((a1Z.store2 (.bool g5) (.slice p5 n5 c5)).to hb6)
  obtain⟨b2,i2⟩:=b0w.cs2
  have qK:=((((kZ.to hA2).to hb5).aI (b:=w.heap.size) (by omega) (.bool g5) (.slice p5 n5 c5)).to hb6)
  obtain⟨q0,u0,r0,v0,s0,w0,t0,x0⟩:=qK.cf4
  have v1:=((hi5.aF a1Z rfl rfl (.bool g5) (.slice p5 n5 c5)).below hb6)
  have c1:=(Below.tr (Below.aF (Below.tr (Below.tr (Below.tr (Below.aF (Below.aF (Below.tr (Below.tr (Below.tr (Below.tr bC hA1) hb1).drew hb2) hb3) (b:=w.heap.size) (by omega) (.bool g2) (.slice p2 n2 c2)) (b:=w.heap.size+1) (by omega) (.bool g3) (.slice p3 n3 c3)) hb4) hA2) hb5) (b:=w.heap.size) (by omega) (.bool g5) (.slice p5 n5 c5)) hb6)
  go_wp2_with fail
  exact ji (v:=.agg #[.bool g5,.slice p5 n5 c5,.bool g6,.slice p6 n6 c6]) (by simp[results,Tryz.results180,go_sem,a0,e0,c0,g0,i0,m0,k0,o0,y0,z0,a1,b0,f0,d0,h0,j0,n0,l0,p0,q0,u0,r0,v0,s0,w0,t0,x0]) rfl ⟨_,rfl,RQ.mk' ((v1.aF a3u rfl rfl (.bool g6) (.slice p6 n6 c6)).aU (qK.aI (b:=w.heap.size+1) (by omega) (.bool g6) (.slice p6 n6 c6)) rfl rfl rfl rfl (.bool g5) (.slice p5 n5 c5) (.bool g6) (.slice p6 n6 c6)) ((hi6.aF a3u rfl rfl (.bool g6) (.slice p6 n6 c6)).aU (qK.aI (b:=w.heap.size+1) (by omega) (.bool g6) (.slice p6 n6 c6)) rfl rfl rfl rfl (.bool g5) (.slice p5 n5 c5) (.bool g6) (.slice p6 n6 c6)) HX.out.1 HX.out.2,(Below.aU (Below.aF c1 (b:=w.heap.size+1) (by omega) (.bool g6) (.slice p6 n6 c6)) (b:=w.heap.size+1+1) (by omega) (.bool g5) (.slice p5 n5 c5) (.bool g6) (.slice p6 n6 c6))⟩
theorem rE (v:Value) (ok:Bool) (x:Int) (w:World) (h:fE w v ok x) :
  Calls Tryz.prog 256 #[v] w (mD x w):=by
 cases ok
 ·exact OU v x w h
 ·exact TR v x w h
theorem rH (v u:Value) (x y:Int) (w:World) (hv:cZ w v x) (hu:cZ w u y) (hl:isz x<=1000000000) (hl2:isz y<=1000000000) (hd:y≠0) :
  Calls Tryz.prog 180 #[v,u] w (GQ (Rat.divInt x y) w):=by
 rcases zo y 0 with h|h|h
 ·exact UG v u x y w hv hu hl hl2 h
 ·exact absurd h hd
 ·exact RZ v u x y w hv hu hl hl2 h
def GQC (q:Rat) (c:Int) (w:World) (e:Ending) (w':World):Prop:=∃ v,e=.returned (.tuple #[v,.int .i64 c])/\RQ w' v q/\Below w.heap.size w w'
def b1O (c:Int) (w:World) (e:Ending) (w':World):Prop:=e=.returned (.tuple #[.agg #[.bool false,.slice none 0 0,.bool false,.slice none 0 0],.int .i64 c])/\Below w.heap.size w w'
theorem LJ:∀ (a b c d:Value) (w:World),Sem.run Tryz.prog (Instr.field 47 (.agg #[a,b,c,d]) 0) w=.ok (.agg #[a,b]) w:=fun a b c d w=>by kernel_rfl
theorem a0d (v u:Value) (o1 o2:Bool) (x y:Int) (w:World) (hv:fE w v o1 x) (hu:fE w u o2 y) (hl:isz x<=1000000000) (hl2:isz y<=1000000000) (hd:y≠0) :
  Calls Tryz.prog 183 #[v,u] w (GQC (Rat.divInt x y) 0 w):=by
 obtain⟨b,p,n,c,rfl⟩:=hv.raw.form
 obtain⟨d,o,m,e,rfl⟩:=hu.raw.form
 have hsg:decide (sgn y=0)=false:=by have:=SH hd;simpa using this
 have b2A:(sgn y==0)=false:=by have:=SH hd;simpa using this
 have bC:Below w.heap.size w w:=bg _ _
 go_enter Tryz.func183,Tryz.ntmps183
 go_wp2_with fail
 obtain⟨hA1,q0,r0,t0⟩:=bx3 w rfl [.bool b,.slice p n c] 45 [.bool d,.slice o m e] 45 [.bool false,.slice none 0 0,.bool false,.slice none 0 0] 47
 obtain⟨b1,j1,f1,l1⟩:=q0.drew.cf2
 obtain⟨q1,a2,u1,d2⟩:=r0.drew.cf2
 have tk1:True:=trivial
 have tk2:True:=trivial
 go_region_with
  (first
   | (((have:=tk1);clear tk1;have u0:=(hv.below hA1).drew;go_at_call 256;(with_reducible refine(rE _ _ (x) _ u0 ).mono ?_);rintro e w1 ⟨v1,rfl,hi1,hb1⟩;obtain⟨g1,p1,n1,c1,rfl⟩:=hi1.form;have dA:=(r0.drew.to hb1);obtain⟨r1,b2,x1,e2⟩:=dA.cf2;have bW:=(q0.drew.to hb1);obtain⟨d1,k1,h1,m1⟩:=bW.cf2))
   | (((have:=tk2);clear tk2;have iK:=((hu.below hA1).drew.below hb1);have v0:=iK;go_at_call 256;(with_reducible refine(rE _ _ (y) _ v0 ).mono ?_);rintro e w2 ⟨v2,rfl,hi2,hb2⟩;obtain⟨g2,p2,n2,c2,rfl⟩:=hi2.form;have bU:=(bW.to hb2);obtain⟨a0,c0,b0,d0⟩:=bU.cf2;have bP:=(dA.to hb2);obtain⟨e0,g0,f0,h0⟩:=bP.cf2)))
 all_goals
  obtain⟨s1,y1⟩:=((bP.aI (b:=w.heap.size) (by omega) (.bool g1) (.slice p1 n1 c1)).store2 (.bool g2) (.slice p2 n2 c2)).cs2
  go_wp2_with fail
  have w0:=((hi2.aF bU rfl rfl (.bool g1) (.slice p1 n1 c1)).aF (bP.aI (b:=w.heap.size) (by omega) (.bool g1) (.slice p1 n1 c1)) rfl rfl (.bool g2) (.slice p2 n2 c2)).raw
  (with_reducible refine(lC _ ((y)) _ w0).mono ?_)
  rintro e w3 ⟨rfl,hb3⟩
  have jA:=(((bU.store2 (.bool g1) (.slice p1 n1 c1)).aI (b:=w.heap.size+1) (by omega) (.bool g2) (.slice p2 n2 c2)).to hb3)
  obtain⟨e1,i1⟩:=jA.cs2
  have lT:=(((bP.aI (b:=w.heap.size) (by omega) (.bool g1) (.slice p1 n1 c1)).store2 (.bool g2) (.slice p2 n2 c2)).to hb3)
  obtain⟨t1,z1⟩:=lT.cs2
  go_wp2_with fail
  have z0:=((((hi1.below hb2).aF bU rfl rfl (.bool g1) (.slice p1 n1 c1)).aF (bP.aI (b:=w.heap.size) (by omega) (.bool g1) (.slice p1 n1 c1)) rfl rfl (.bool g2) (.slice p2 n2 c2)).below hb3)
  have x0:=z0
  have a1:=(((hi2.aF bU rfl rfl (.bool g1) (.slice p1 n1 c1)).aF (bP.aI (b:=w.heap.size) (by omega) (.bool g1) (.slice p1 n1 c1)) rfl rfl (.bool g2) (.slice p2 n2 c2)).below hb3)
  have y0:=a1
  (with_reducible refine(rH _ _ ((x)) ((y)) _ x0 y0 hl hl2 hd).mono ?_)
  rintro e w4 ⟨v4,rfl,hi4,hb4⟩
  obtain⟨g4,p4,n4,c4,h4,o4,m4,e4,rfl⟩:=hi4.form
  have kZ:=((((((t0.drew.to hb1).to hb2).aI (b:=w.heap.size) (by omega) (.bool g1) (.slice p1 n1 c1)).aI (b:=w.heap.size+1) (by omega) (.bool g2) (.slice p2 n2 c2)).to hb3).to hb4)
  obtain⟨i0,m0,j0,n0,k0,o0,l0,p0⟩:=kZ.cf4
  have s0:=(Below.tr (Below.tr (Below.aF (Below.aF (Below.tr (Below.tr (Below.tr bC hA1).drew hb1) hb2) (b:=w.heap.size) (by omega) (.bool g1) (.slice p1 n1 c1)) (b:=w.heap.size+1) (by omega) (.bool g2) (.slice p2 n2 c2)) hb3) hb4)
  go_wp2_with fail
  exact ji (v:=.tuple #[.agg #[.bool g4,.slice p4 n4 c4,.bool h4,.slice o4 m4 e4],.int .i64 0]) (by simp[results,Tryz.results183,go_sem,a0,c0,b0,d0,e0,g0,f0,h0,i0,m0,j0,n0,k0,o0,l0,p0]) rfl ⟨_,rfl,(hi4.aU kZ rfl rfl rfl rfl (.bool g4) (.slice p4 n4 c4) (.bool h4) (.slice o4 m4 e4)),(Below.aU s0 (b:=w.heap.size+1+1) (by omega) (.bool g4) (.slice p4 n4 c4) (.bool h4) (.slice o4 m4 e4))⟩
theorem a5f (v u:Value) (o1 o2:Bool) (x y:Int) (w:World) (hv:fE w v o1 x) (hu:fE w u o2 y) (hd:y=0) :
  Calls Tryz.prog 183 #[v,u] w (b1O 14 w):=by
 obtain⟨b,p,n,c,rfl⟩:=hv.raw.form
 obtain⟨d,o,m,e,rfl⟩:=hu.raw.form
 have b2A:(sgn y==0)=true:=by rw[hd];rfl
 have hd2:=bn hd
 clear hd
 have bC:Below w.heap.size w w:=bg _ _
 go_enter Tryz.func183,Tryz.ntmps183
 go_wp2_with fail
 obtain⟨hA1,q0,r0,t0⟩:=bx3 w rfl [.bool b,.slice p n c] 45 [.bool d,.slice o m e] 45 [.bool false,.slice none 0 0,.bool false,.slice none 0 0] 47
 obtain⟨x0,b1,z0,e1⟩:=q0.drew.cf2
 obtain⟨h1,q1,k1,s1⟩:=r0.drew.cf2
 have tk1:True:=trivial
 have tk2:True:=trivial
 go_region_with
  (first
   | (((have:=tk1);clear tk1;have u0:=(hv.below hA1).drew;go_at_call 256;(with_reducible refine(rE _ _ (x) _ u0 ).mono ?_);rintro e w1 ⟨v1,rfl,hi1,hb1⟩;obtain⟨g1,p1,n1,c1,rfl⟩:=hi1.form;have dA:=(r0.drew.to hb1);obtain⟨i1,r1,l1,t1⟩:=dA.cf2;have bW:=(q0.drew.to hb1);obtain⟨y0,d1,a1,f1⟩:=bW.cf2))
   | (((have:=tk2);clear tk2;have iK:=((hu.below hA1).drew.below hb1);have v0:=iK;go_at_call 256;(with_reducible refine(rE _ _ (y) _ v0 ).mono ?_);rintro e w2 ⟨v2,rfl,hi2,hb2⟩;obtain⟨g2,p2,n2,c2,rfl⟩:=hi2.form;have bU:=(bW.to hb2);obtain⟨a0,c0,b0,d0⟩:=bU.cf2;have bP:=(dA.to hb2);obtain⟨e0,g0,f0,h0⟩:=bP.cf2)))
 all_goals
  obtain⟨j1,m1⟩:=((bP.aI (b:=w.heap.size) (by omega) (.bool g1) (.slice p1 n1 c1)).store2 (.bool g2) (.slice p2 n2 c2)).cs2
  go_wp2_with fail
  have w0:=((hi2.aF bU rfl rfl (.bool g1) (.slice p1 n1 c1)).aF (bP.aI (b:=w.heap.size) (by omega) (.bool g1) (.slice p1 n1 c1)) rfl rfl (.bool g2) (.slice p2 n2 c2)).raw
  (with_reducible refine(lC _ ((y)) _ w0).mono ?_)
  rintro e w3 ⟨rfl,hb3⟩
  have CQ:=(((((t0.drew.to hb1).to hb2).aI (b:=w.heap.size) (by omega) (.bool g1) (.slice p1 n1 c1)).aI (b:=w.heap.size+1) (by omega) (.bool g2) (.slice p2 n2 c2)).to hb3)
  obtain⟨i0,m0,j0,n0,k0,o0,l0,p0⟩:=CQ.cf4
  have s0:=(Below.tr (Below.aF (Below.aF (Below.tr (Below.tr (Below.tr bC hA1).drew hb1) hb2) (b:=w.heap.size) (by omega) (.bool g1) (.slice p1 n1 c1)) (b:=w.heap.size+1) (by omega) (.bool g2) (.slice p2 n2 c2)) hb3)
  go_wp2_with fail
  exact ji (v:=.tuple #[.agg #[.bool false,.slice none 0 0,.bool false,.slice none 0 0],.int .i64 14]) (by simp[results,Tryz.results183,go_sem,a0,c0,b0,d0,e0,g0,f0,h0,i0,m0,j0,n0,k0,o0,l0,p0]) rfl ⟨rfl,(Below.aU s0 (b:=w.heap.size+1+1) (by omega) (.bool false) (.slice none 0 0) (.bool false) (.slice none 0 0))⟩
theorem a7y (v:Value) (ok:Bool) (q:Rat) (w:World) (h:fK w v ok q) (hn:Qn v 1000000000) :
  Calls Tryz.prog 127 #[v] w (fun e w'=>e=.returned (.int .i64 (sgn q.num))/\Below w.heap.size w w'):=by
 obtain⟨b,p,n,c,d,o,m,e,rfl⟩:=h.form
 have hl:=h.jO hn (by omega)
 have b1:=dL q
 have b2:=dG q
 have b0:=LJ
 have bC:Below w.heap.size w w:=bg _ _
 go_enter Tryz.func127,Tryz.ntmps127
 go_wp2_with fail
 obtain⟨hA1,e0⟩:=bx1 w rfl [.bool b,.slice p n c,.bool d,.slice o m e] 47
 have c0:=(h.below hA1)
 (with_reducible refine(iD _ _ (q) _ c0 hn).mono ?_)
 rintro e w1 ⟨v1,rfl,hi1,hb1⟩
 obtain⟨g1,p1,n1,c1,h1,o1,m1,e1,rfl⟩:=hi1.form
 go_wp2_with fail
 have d0:=hi1.num.raw
 (with_reducible refine(lC _ (((q)).num) _ d0).mono ?_)
 rintro e w2 ⟨rfl,hb2⟩
 have a0:=(Below.tr (Below.tr (Below.tr bC hA1) hb1) hb2)
 go_wp2_with fail
 go_ret
 exact⟨rfl,a0⟩
theorem a1U (v:Value) (ok:Bool) (q:Rat) (w:World) (h:fK w v ok q) (hn:Qn v 1000000000) :
  Calls Tryz.prog 172 #[v] w (GQ (-q) w):=by
 obtain⟨b,p,n,c,d,o,m,e,rfl⟩:=h.form
 have hl:=h.jO hn (by omega)
 have b1:=dL q
 have b2:=dG q
 have bC:Below w.heap.size w w:=bg _ _
 go_enter Tryz.func172,Tryz.ntmps172
 go_wp2_with fail
 obtain⟨hA1,s0,t0⟩:=bx2 w rfl [.bool b,.slice p n c,.bool d,.slice o m e] 47 [.bool false,.slice none 0 0,.bool false,.slice none 0 0] 47
 have u0:=(h.below hA1)
 (with_reducible refine(iD _ _ (q) _ u0 hn).mono ?_)
 rintro e w1 ⟨v1,rfl,hi1,hb1⟩
 obtain⟨g1,p1,n1,c1,h1,o1,m1,e1,rfl⟩:=hi1.form
 have bW:=(s0.to hb1)
 obtain⟨a0,e0,b0,f0,c0,g0,d0,h0⟩:=bW.cf4
 go_wp2_with fail
 have dA:=(t0.to hb1)
 have XU:=(aN.mk ((bW.tN (.bool g1) (.slice p1 n1 c1) (.bool h1) (.slice o1 m1 e1)).drew).bs4 (BN.of ((dA.dS (b:=w.heap.size) (by omega) (.bool g1) (.slice p1 n1 c1) (.bool h1) (.slice o1 m1 e1)).drew)))
 have q0:dB (w.heap.size+1) (aN (BS4 w.heap.size (.bool g1) (.slice p1 n1 c1) (.bool h1) (.slice o1 m1 e1)) (BN (w.heap.size+1))):=(aN.hc (BS4.hc (by omega)) BN.hc)
 have tk1:True:=trivial
 go_region_held3 (aN (BS4 w.heap.size (.bool g1) (.slice p1 n1 c1) (.bool h1) (.slice o1 m1 e1)) (BN (w.heap.size+1))) (first|with_reducible exact XU|with_reducible exact fJ.go (aN.hk BS4.hk BN.hk) (by assumption) (by assumption)|with_reducible exact dB.go4 q0 (by assumption)|(simp;done))
  (first
   | (((have:=tk1);clear tk1;have v0:=(hi1.aU bW rfl rfl rfl rfl (.bool g1) (.slice p1 n1 c1) (.bool h1) (.slice o1 m1 e1)).drew.num.raw;go_at_call 97;(with_reducible refine(rF _ (((q)).num) _ v0 (by omega)).mono ?_);rintro e w2 ⟨v2,rfl,hi2,hb2⟩;obtain⟨g2,p2,n2,c2,rfl⟩:=hi2.form;have bP:=((dA.dS (b:=w.heap.size) (by omega) (.bool g1) (.slice p1 n1 c1) (.bool h1) (.slice o1 m1 e1)).drew.to hb2);obtain⟨i0,m0,j0,n0,k0,o0,l0,p0⟩:=bP.cf4)))
 have w0:=((hi1.aU bW rfl rfl rfl rfl (.bool g1) (.slice p1 n1 c1) (.bool h1) (.slice o1 m1 e1)).drew.below hb2)
 have r0:=(Below.tr (Below.aU (Below.tr (Below.tr bC hA1) hb1) (b:=w.heap.size) (by omega) (.bool g1) (.slice p1 n1 c1) (.bool h1) (.slice o1 m1 e1)).drew hb2)
 go_wp2_with fail
 exact ji (v:=.agg #[.bool g2,.slice p2 n2 c2,.bool h1,.slice o1 m1 e1]) (by simp[results,Tryz.results172,go_sem,a0,e0,b0,f0,c0,g0,d0,h0,i0,m0,j0,n0,k0,o0,l0,p0]) rfl ⟨_,rfl,RQ.mk' (hi2.aU bP rfl rfl rfl rfl (.bool g2) (.slice p2 n2 c2) (.bool h1) (.slice o1 m1 e1)) (w0.aU bP rfl rfl rfl rfl (.bool g2) (.slice p2 n2 c2) (.bool h1) (.slice o1 m1 e1)).den (LV q).symm (by rw[LU]),(Below.aU r0 (b:=w.heap.size+1) (by omega) (.bool g2) (.slice p2 n2 c2) (.bool h1) (.slice o1 m1 e1))⟩
theorem a4R {x:Int} (h0:-9223372036854775808<=x) (h1:x<=9223372036854775807):isz x<=1000000000 :=
 dh (qU (k:=3) (by rw[bK];omega)) (by omega)
theorem b3b (i k:Int) (w:World) (h0:-9223372036854775808<=i) (h1:i<=9223372036854775807) (h2:-9223372036854775808<=k) (h3:k<=9223372036854775807) (hk:k≠0) :
  Calls Tryz.prog 147 #[.int .i64 i,.int .i64 k] w (GQC (Rat.divInt i k) 0 w):=by
 have hz1:=a4R h0 h1
 have hz2:=a4R h2 h3
 have bC:Below w.heap.size w w:=bg _ _
 go_enter Tryz.func147,Tryz.ntmps147
 go_wp2_with fail
 (with_reducible refine(zO _ _ (by omega) (by omega)).mono ?_)
 rintro e w1 ⟨v1,rfl,hi1,hb1⟩
 obtain⟨g1,p1,n1,c1,rfl⟩:=hi1.form
 go_wp2_with fail
 (with_reducible refine(zO _ _ (by omega) (by omega)).mono ?_)
 rintro e w2 ⟨v2,rfl,hi2,hb2⟩
 obtain⟨g2,p2,n2,c2,rfl⟩:=hi2.form
 go_wp2_with fail
 have n0:=(hi1.below hb2)
 have l0:=n0.EF
 have m0:=hi2.EF
 (with_reducible refine(a0d _ _ _ _ (i) (k) _ l0 m0 hz1 hz2 hk).mono ?_)
 rintro e w3 ⟨v3,rfl,hi3,hb3⟩
 obtain⟨g3,p3,n3,c3,h3,o3,m3,e3,rfl⟩:=hi3.form
 obtain⟨hA1,k0⟩:=bx1 w rfl [.bool false,.slice none 0 0,.bool false,.slice none 0 0] 47
 have jA:=(((k0.to hb1).to hb2).to hb3)
 obtain⟨a0,e0,b0,f0,c0,g0,d0,i0⟩:=jA.cf4
 have j0:=(Below.tr (Below.tr (Below.tr (Below.tr bC hA1) hb1) hb2) hb3)
 go_wp2_with fail
 exact ji (v:=.tuple #[.agg #[.bool g3,.slice p3 n3 c3,.bool h3,.slice o3 m3 e3],.int .i64 0]) (by simp[results,Tryz.results147,go_sem,a0,e0,b0,f0,c0,g0,d0,i0]) rfl ⟨_,rfl,(hi3.aU jA rfl rfl rfl rfl (.bool g3) (.slice p3 n3 c3) (.bool h3) (.slice o3 m3 e3)),(Below.aU j0 (b:=w.heap.size) (by omega) (.bool g3) (.slice p3 n3 c3) (.bool h3) (.slice o3 m3 e3))⟩
theorem WW (v:Value) (q:Rat) (w:World) (h:RQ w v q) (hl:rsz q<=1000000000) :
 Calls Tryz.prog 127 #[v] w (fun e w'=>e=.returned (.int .i64 (sgn q.num))/\Below w.heap.size w w'):=a7y v true q w h.raw (h.qn hl)
theorem b0g (v:Value) (q:Rat) (w:World) (h:RQ w v q) (hl:rsz q<=1000000000) :
 Calls Tryz.prog 172 #[v] w (GQ (-q) w):=a1U v true q w h.raw (h.qn hl)
section
open Go.RowKit Go.Shelf
attribute [local go_sem] Oper.semAt_some
def mW (x:Int):Int:=if -9223372036854775808<=x/\x<9223372036854775808 then x else 0
def mV (x:Int):Bool:=decide (-9223372036854775808<=x/\x<9223372036854775808)
def XB:Nat:=9223372036854775808
theorem SX:XB=9223372036854775808:=rfl
structure SBx (B NB:Nat) (b:Bool) (v z:Int) (r:Bool) (W:World):Prop where
 q:W.cell? ⟨B,0,none⟩=some (.bool b)
 c2:W.cell? ⟨B+1,0,none⟩=some (.int .i64 z)
 f2:W.frozen? ⟨B+1,0,none⟩=false
 c3:W.cell? ⟨B+1+1,0,none⟩=some (.bool r)
 f3:W.frozen? ⟨B+1+1,0,none⟩=false
 n:W.cell? ⟨NB,0,none⟩=some (.int .u64 v)
 fn:W.frozen? ⟨NB,0,none⟩=false
theorem SBx.kept {B NB:Nat} {b r:Bool} {v z:Int} {A W:World} {row:Option Nat} (hs:SBx B NB b v z r A) (hg:A.grownBy W row) (hr:∀ k,row=some k->∃ o,A.heap[k]?=some o/\o.isCells=false):SBx B NB b v z r W :=
 ⟨Dt hs.q hg hr,Dt hs.c2 hg hr,(frozen_kept hs.c2 hg hr).trans hs.f2,Dt hs.c3 hg hr,(frozen_kept hs.c3 hg hr).trans hs.f3,Dt hs.n hg hr,(frozen_kept hs.n hg hr).trans hs.fn⟩
theorem SBx.c3b {B NB:Nat} {b r:Bool} {v z:Int} {W:World} (h:SBx B NB b v z r W) (hn:B+1+1<NB) (v':Int):SBx B NB b v' z r (W.setCell ⟨NB,0,none⟩ (.int .u64 v')):=by
 refine⟨?_,?_,?_,?_,?_,?_,?_⟩
 ·rw[jm _ _ _ _ (by simp;omega)];exact h.q
 ·rw[jm _ _ _ _ (by simp;omega)];exact h.c2
 ·rw[ru];exact h.f2
 ·rw[jm _ _ _ _ (by simp;omega)];exact h.c3
 ·rw[ru];exact h.f3
 ·exact zy _ _ _ (by rw[h.n];rfl)
 ·rw[ru];exact h.fn
theorem SBx.b0Y {B NB:Nat} {b r:Bool} {v z:Int} {W:World} (h:SBx B NB b v z r W) (hn:B+1+1<NB) (z':Int) (r':Bool):SBx B NB b v z' r' ((W.setCell ⟨B+1,0,none⟩ (.int .i64 z')).setCell ⟨B+1+1,0,none⟩ (.bool r')):=by
 refine⟨?_,?_,?_,?_,?_,?_,?_⟩
 ·rw[jm _ _ _ _ (by simp;omega),jm _ _ _ _ (by simp)];exact h.q
 ·rw[jm _ _ _ _ (by simp)];exact zy _ _ _ (by rw[h.c2];rfl)
 ·rw[ru,ru];exact h.f2
 ·exact zy _ _ _ (by rw[jm _ _ _ _ (by simp)];rw[h.c3];rfl)
 ·rw[ru,ru];exact h.f3
 ·rw[jm _ _ _ _ (by simp;omega),jm _ _ _ _ (by simp;omega)];exact h.n
 ·rw[ru,ru];exact h.fn
theorem BZ {k:Nat} (h:k<=18446744073709551615):IntKind.u64.wrap (k:Int)=k:=by simp[IntKind.wrap,IntKind.bits,IntKind.signed];omega
theorem XK {z:Int} (h0:0<=z) (h1:z<=18446744073709551615):IntKind.u64.wrap z=z:=by simp[IntKind.wrap,IntKind.bits,IntKind.signed];omega
theorem a7H {k:Nat} (h:k<=9223372036854775807):IntKind.i64.wrap (k:Int)=k:=by simp[IntKind.wrap,IntKind.bits,IntKind.signed];omega
theorem a4f {A:Nat} (h0:0<A) (h1:A<=9223372036854775808):IntKind.i64.wrap (IntKind.u64.wrap (-(A:Int)))=-(A:Int):=by simp[IntKind.wrap,IntKind.bits,IntKind.signed];omega
theorem a1D {l:List Nat} (hl:Low l) {pre:List (Fin l.length)} (h:iG l.length pre) (hle:pre.length<=l.length):hval l pre<=val l:=by
 rw[VP h hle]
 have e:=val_append (l.take (l.length-pre.length)) (l.drop (l.length-pre.length))
 rw[Aq] at e
 have h1:1<=BB ^ (l.take (l.length-pre.length)).length:=Nat.pow_pos gY
 have h2:val (l.drop (l.length-pre.length))<=BB ^ (l.take (l.length-pre.length)).length*val (l.drop (l.length-pre.length)):=Nat.le_mul_of_pos_left _ h1
 omega
theorem b1j (x:Int) (b:Bool) (p:Option Addr) (n c:Nat) (w:World) (hv:Raw w (.agg #[.bool b,.slice p n c]) x) (hlen:(dig x.natAbs).length<=3) (hbx:x≠0->b=decide (x<0)) :
  CallsIn Fence.wide 3 Tryz.prog 282 #[.agg #[.bool b,.slice p n c]] w fun e W'=>e=.returned (.tuple #[.int .i64 (mW x),.bool (mV x)])/\Below w.heap.size w W':=by
 have hro:Fence.wide.round=none:=rfl
 refine callsIn_of_wp_marks Tryz.func282 rfl trivial ?_ hro
 simp only[Tryz.ntmps282,Bg,List.length_cons,List.length_nil,Nat.reduceAdd,Nat.reduceSub,Cj,Array.replicate_zero,Dv,Di,List.nil_append,List.cons_append]
 have hd3:decide ((3:Int)<(dig x.natAbs).length)=false:=by simp;omega
 have hv1:=((hv.alloc (.cells #[.bool b,.slice p n c] 45)).alloc (.cells #[.int .i64 0] 3)).alloc (.cells #[.bool false] 4)
 have q0:Bx (((w.alloc (.cells #[.bool b,.slice p n c] 45)).alloc (.cells #[.int .i64 0] 3)).alloc (.cells #[.bool false] 4)) w.heap.size [.bool b,.slice p n c]:=((Bx.new w [.bool b,.slice p n c] 45).alloc _).alloc _
 have q1:Bx (((w.alloc (.cells #[.bool b,.slice p n c] 45)).alloc (.cells #[.int .i64 0] 3)).alloc (.cells #[.bool false] 4)) (w.heap.size+1) [.int .i64 0]:=by simpa using (Bx.new (w.alloc (.cells #[.bool b,.slice p n c] 45)) [.int .i64 0] 3).alloc (.cells #[.bool false] 4)
 have q2:Bx (((w.alloc (.cells #[.bool b,.slice p n c] 45)).alloc (.cells #[.int .i64 0] 3)).alloc (.cells #[.bool false] 4)) (w.heap.size+1+1) [.bool false]:=by simpa using Bx.new ((w.alloc (.cells #[.bool b,.slice p n c] 45)).alloc (.cells #[.int .i64 0] 3)) [.bool false] 4
 have hB0:Below w.heap.size w (((w.alloc (.cells #[.bool b,.slice p n c] 45)).alloc (.cells #[.int .i64 0] 3)).alloc (.cells #[.bool false] 4)):=(((bg _ _).alloc (au _) _).alloc (by simp) _).alloc (by simp;omega) _
 gi_wp2_with (refine⟨trivial,?_⟩;gi_at_call 192;refine(callsIn_wide.2 (dM _ x _ hv1)).mono ?_;rintro e w1 ⟨s1,rfl,hs1,hb1⟩;obtain⟨p1,c1,rfl,hl1,hm1⟩:=hs1.form)
 gi_wp2_with (refine⟨trivial,?_⟩;gi_at_call 278;refine(uI Fence.wide 2 trivial hro _ _ _ _).mono ?_;rintro e w' ⟨rfl,rfl⟩)
 have hlow:=bJ x.natAbs
 have HX:=bn (aH x.natAbs)
 have HC:=bn (aZ x.natAbs)
 have k0:=q0.to hb1
 have k1:=q1.to hb1
 have k2:=q2.to hb1
 have hBw1:=hB0.trans (hb1.mono (by simp;omega))
 have hz1:=k2.1
 clear hv hv1 q0 q1 q2 hB0 hb1
 generalize hll:dig x.natAbs=l at *
 have bN:=Bx.new w1 [.int .u64 0] 147
 have bS:=Boxed.new (w1.alloc (.cells #[.int .u64 0] 147)) 43 (.slice p1 l.length c1)
 rw[Ah] at bS
 have hA:Below w1.heap.size w1 ((w1.alloc (.cells #[.int .u64 0] 147)).alloc (.cells #[.slice p1 l.length c1] 43)):=((bg _ w1).alloc (au _) _).alloc (by simp) _
 refine wpIn_rangeFunc_ownG (n:=3) (α:=Fin l.length) hro (by omega) (gf:=288) (lb:=#[.pointer (some ⟨w1.heap.size+1,0,none⟩)]) rfl trivial (enters_of Tryz.func288 (by kernel_rfl) rfl)
  (wM Fence.wide 2 trivial hro (by omega) (w1.heap.size+1) w1.heap.size _ l _ (by simp) (by simp;omega) bS.cell (hs1.b.below hA)) (fun h k=>KB.trans h k) (KB.b (by simp;omega) (by simp)) (bg _ _) (fun _=>rfl)
  (fun(pre:List (Fin l.length)) W=>(SBx w.heap.size w1.heap.size b (hval l pre:Nat) 0 false W/\hval l pre<=XB)/\Below w.heap.size w W)
  (fun cd (pre:List (Fin l.length)) W=>(cd=.ret/\(∃ v,SBx w.heap.size w1.heap.size b v 0 false W)/\XB<hval l pre)/\Below w.heap.size w W)
  (OwnFrom.and (Own.from (fun s A B row hs hg hr=>⟨hs.1.kept hg hr,hs.2⟩) _) (ownFrom_below (au _) (by simp;omega)))
  (fun c=>OwnFrom.and (Own.from (fun s A B row hs hg hr=>by obtain⟨hc,⟨v,h1⟩,h2⟩:=hs;exact⟨hc,⟨v,h1.kept hg hr⟩,h2⟩) _) (ownFrom_below (au _) (by simp;omega)))
  ⟨⟨by
    have kk0:=k0.to hA
    have kk1:=k1.to hA
    have kk2:=k2.to hA
    have nn:=bN.alloc (.cells #[.slice p1 l.length c1] 43)
    exact⟨kk0.c0,kk1.c0,kk1.f0,kk2.c0,kk2.f0,nn.c0,nn.f0⟩,by simp[hval,XB]⟩,hBw1.trans (hA.mono (by omega))⟩
  (fun(x:Fin l.length)=>{ tmps:=#[.agg #[.bool b,.slice p n c],.pointer (some ⟨w.heap.size,0,none⟩),.pointer (some ⟨w.heap.size+1,0,none⟩),.pointer (some ⟨w.heap.size+1+1,0,none⟩),.slice p1 l.length c1,.pointer (some ⟨w1.heap.size,0,none⟩),undef,.int .u32 (gr l x.1:Nat),.agg #[.bool b,.slice p n c],.slice p1 l.length c1,.slice p1 l.length c1,.int .i64 (l.length:Nat),.bool false,.slice p1 l.length c1,.func (.func 288) #[] #[.pointer (some ⟨w1.heap.size+1,0,none⟩)],.int .i64 (x.1:Nat),.int .u32 (gr l x.1:Nat),undef,undef,undef,undef,undef,undef,undef,undef,undef,undef,undef,undef,undef,undef,undef,undef,undef,undef,undef,undef,undef,undef,undef,undef,undef,undef,undef],defers:=[] }) ?assign ?body ?done ?stop
 case assign =>
  intro l x W K hK
  gi_wp2
  exact hK
 case body =>
  rintro lo pre y W ⟨⟨hS,hT⟩,hB⟩ hpl
  have hg:=fZ hlow y.1
  have HS:=bn (BI l pre y)
  obtain⟨hv,hhv⟩:∃ hv,hval l pre=hv:=⟨_,rfl⟩
  rw[hhv] at hS hT HS
  obtain⟨g,hgg⟩:∃ g,gr l y.1=g:=⟨_,rfl⟩
  rw[hgg] at hg HS ⊢
  have c1':=hS.n
  have f1':=hS.fn
  have c2':=hS.c2
  have f2':=hS.f2
  have c3':=hS.c3
  have f3':=hS.f3
  obtain⟨m,hm⟩:∃ m:Nat,(9223372036854775808:Int)-g=m:=⟨9223372036854775808-g,by omega⟩
  obtain⟨t,ht⟩:∃ t:Nat,(m:Int) / 1000000000=t:=⟨m / 1000000000,by simp⟩
  have hmn:m+g=9223372036854775808:=by omega
  have htn:m / 1000000000=t:=by omega
  have ht9:t<=9223372036:=by omega
  by_cases hle:hv<=t
  ·have hv9:hv<=9223372036:=by omega
   have hs9:hv*1000000000+g<=9223372036854775808:=by omega
   have d1:decide ((t:Int)<hv)=false:=by simp;omega
   have d2:decide (t<hv)=false:=by simp;omega
   have HT:=bn (show hv*BB+g<=XB by rw[bK,SX];exact hs9)
   have e1:IntKind.u64.wrap ((hv:Int)*1000000000)=(hv:Int)*1000000000:=XK (by omega) (by omega)
   have e2:IntKind.u64.wrap ((hv:Int)*1000000000+g)=(hv:Int)*1000000000+g:=XK (by omega) (by omega)
   have e3:IntKind.u64.wrap (m:Int)=m:=BZ (by omega)
   have e4:IntKind.u64.wrap (t:Int)=t:=BZ (by omega)
   clear hmn htn hs9 hT
   gi_wp2
   exact⟨(ug _ _ _).from _,KB.setCell (p:=⟨w1.heap.size,0,none⟩) (au _) (by simp) _,⟨by rw[HS.out,bK];simpa using hS.c3b hz1 ((hv:Int)*1000000000+g),by rw[HS.out];exact HT.out⟩,hB.setCell (p:=⟨w1.heap.size,0,none⟩) (by simp;omega) _⟩
  ·have d1:decide ((t:Int)<hv)=true:=by simp;omega
   have d2:decide (t<hv)=true:=by simp;omega
   have e3:IntKind.u64.wrap (m:Int)=m:=BZ (by omega)
   have e4:IntKind.u64.wrap (t:Int)=t:=BZ (by omega)
   have HT:=bn (show XB<hv*BB+g by rw[bK,SX];omega)
   clear hmn htn hT hle
   gi_wp2
   exact⟨((ug _ _ _).trans (ug _ _ _)).from _,⟨rfl,⟨_,hS.b0Y hz1 0 false⟩,by rw[HS.out];exact HT.out⟩,(hB.setCell (p:=⟨w.heap.size+1,0,none⟩) (by simp) _).setCell (p:=⟨w.heap.size+1+1,0,none⟩) (by simp;omega) _⟩
 case done =>
  rintro D ys W hD ⟨hbk,hyl⟩ ⟨⟨hS,hT⟩,hB⟩ hK
  rw[a1C hbk hyl] at hS hT
  obtain⟨A,hA'⟩:∃ A,val l=A:=⟨_,rfl⟩
  rw[hA'] at hS hT HX
  have hxA:=HX.out
  have q1':=hS.q
  have c1':=hS.n
  have f1':=hS.fn
  have c2':=hS.c2
  have f2':=hS.f2
  have c3':=hS.c3
  have f3':=hS.f3
  have hA0:l=[]↔A=0:=by
   rw[<-hll,iQ];omega
  have a8S:A<=9223372036854775808:=hT
  have hlz:l.length=0↔A=0:=by rw[<-hA0];exact List.length_eq_zero_iff
  by_cases hneg:x<0
  ·have hb:b=true:=by rw[hbx (by omega)];simpa using hneg
   subst hb
   have hl0:decide ((0:Int)<l.length)=true:=by simp;omega
   have hl0':decide (0<l.length)=true:=by simp;omega
   have hw:=a4f (A:=A) (by omega) a8S
   have HF:Hid (mW x=-(A:Int)/\mV x=true):=by
    unfold Hid mW mV
    rw[jv (by omega)]
    exact⟨by omega,by simp;omega⟩
   have hpos:0<l.length:=by simpa using hl0'
   clear hT a8S hlz hA0 hxA hneg
   gi_wp2
   have hS2:=hS.b0Y hz1 (-(A:Int)) true
   have hK':=((ug W ⟨w.heap.size+1,0,none⟩ (.int .i64 (-(A:Int)))).trans (ug _ ⟨w.heap.size+1+1,0,none⟩ (.bool true))).same D _ hK rfl
   refine⟨by simp,.inl ⟨_,_,rfl,Bv hK',?_⟩⟩
   have hS':=hS2.kept (Du _ D (.deferred none)) (fun r e=>by cases e;exact⟨_,hK',rfl⟩)
   refine⟨.tuple #[.int .i64 (-(A:Int)),.bool true],?_,by rw[HF.out.1,HF.out.2],((hB.setCell (p:=⟨w.heap.size+1,0,none⟩) (by simp) _).setCell (p:=⟨w.heap.size+1+1,0,none⟩) (by simp;omega) _).trans (belowK_b (w:=w) (au _) _ D _ _ (by simp at hD;omega) hK' rfl rfl)⟩
   simp[results,Tryz.results282,go_sem,hS'.c2,hS'.c3]
  ·have hxe:x=(A:Int):=by omega
   by_cases ht:A=9223372036854775808
   ·have hb:b=false:=by rw[hbx (by omega)];simpa using hneg
    subst hb
    have hl0:decide ((0:Int)<l.length)=true:=by simp;omega
    have hl0':decide (0<l.length)=true:=by simp;omega
    have hpos:0<l.length:=by simpa using hl0'
    have hq:((A:Int)==9223372036854775808)=true:=by simp;omega
    have HF:Hid (mW x=0/\mV x=false):=by
     unfold Hid mW mV
     rw[jq (by omega)]
     exact⟨rfl,by simp;omega⟩
    have HT:=bn ht
    clear hT a8S hlz hA0 hxA hneg hxe ht
    gi_wp2
    have hS2:=hS.b0Y hz1 (0) false
    have hK':=((ug W ⟨w.heap.size+1,0,none⟩ (.int .i64 (0))).trans (ug _ ⟨w.heap.size+1+1,0,none⟩ (.bool false))).same D _ hK rfl
    refine⟨by simp,.inl ⟨_,_,rfl,Bv hK',?_⟩⟩
    have hS':=hS2.kept (Du _ D (.deferred none)) (fun r e=>by cases e;exact⟨_,hK',rfl⟩)
    refine⟨.tuple #[.int .i64 (0),.bool false],?_,by rw[HF.out.1,HF.out.2],((hB.setCell (p:=⟨w.heap.size+1,0,none⟩) (by simp) _).setCell (p:=⟨w.heap.size+1+1,0,none⟩) (by simp;omega) _).trans (belowK_b (w:=w) (au _) _ D _ _ (by simp at hD;omega) hK' rfl rfl)⟩
    simp[results,Tryz.results282,go_sem,hS'.c2,hS'.c3]
   ·have hq:((A:Int)==9223372036854775808)=false:=by simp;omega
    have hw:IntKind.i64.wrap (A:Int)=A:=a7H (by omega)
    have hA9:A<=9223372036854775807:=by omega
    have HF:Hid (mW x=(A:Int)/\mV x=true):=by
     unfold Hid mW mV
     rw[jv (by omega)]
     exact⟨hxe,by simp;omega⟩
    by_cases hl:l=[]
    ·have hl0:decide ((0:Int)<l.length)=false:=by rw[hl];rfl
     have hl0':decide (0<l.length)=false:=by rw[hl];rfl
     have hl9:¬ 0<l.length:=by simpa using hl0'
     have HT:=bn ht
     have HL:=bn hl
     clear hT a8S hlz hA0 hxA hneg hxe ht hl
     gi_wp2
     have hS2:=hS.b0Y hz1 (A:Int) true
     have hK':=((ug W ⟨w.heap.size+1,0,none⟩ (.int .i64 (A:Int))).trans (ug _ ⟨w.heap.size+1+1,0,none⟩ (.bool true))).same D _ hK rfl
     refine⟨by simp,.inl ⟨_,_,rfl,Bv hK',?_⟩⟩
     have hS':=hS2.kept (Du _ D (.deferred none)) (fun r e=>by cases e;exact⟨_,hK',rfl⟩)
     refine⟨.tuple #[.int .i64 (A:Int),.bool true],?_,by rw[HF.out.1,HF.out.2],((hB.setCell (p:=⟨w.heap.size+1,0,none⟩) (by simp) _).setCell (p:=⟨w.heap.size+1+1,0,none⟩) (by simp;omega) _).trans (belowK_b (w:=w) (au _) _ D _ _ (by simp at hD;omega) hK' rfl rfl)⟩
     simp[results,Tryz.results282,go_sem,hS'.c2,hS'.c3]
    ·have hl8:0<l.length:=ou.2 hl
     have hb:b=false:=by rw[hbx (by omega)];simpa using hneg
     subst hb
     have hl0:decide ((0:Int)<l.length)=true:=by simp;omega
     have hl0':decide (0<l.length)=true:=by simp;omega
     have HT:=bn ht
     have HL:=bn hl
     clear hT a8S hlz hA0 hxA hneg hxe ht hl
     gi_wp2
     have hS2:=hS.b0Y hz1 (A:Int) true
     have hK':=((ug W ⟨w.heap.size+1,0,none⟩ (.int .i64 (A:Int))).trans (ug _ ⟨w.heap.size+1+1,0,none⟩ (.bool true))).same D _ hK rfl
     refine⟨by simp,.inl ⟨_,_,rfl,Bv hK',?_⟩⟩
     have hS':=hS2.kept (Du _ D (.deferred none)) (fun r e=>by cases e;exact⟨_,hK',rfl⟩)
     refine⟨.tuple #[.int .i64 (A:Int),.bool true],?_,by rw[HF.out.1,HF.out.2],((hB.setCell (p:=⟨w.heap.size+1,0,none⟩) (by simp) _).setCell (p:=⟨w.heap.size+1+1,0,none⟩) (by simp;omega) _).trans (belowK_b (w:=w) (au _) _ D _ _ (by simp at hD;omega) hK' rfl rfl)⟩
     simp[results,Tryz.results282,go_sem,hS'.c2,hS'.c3]
 case stop =>
  rintro D cd pre W hD ⟨hbk,hpl⟩ ⟨⟨rfl,⟨v,hS⟩,hgt⟩,hB⟩ hK
  have hle:=a1D hlow hbk hpl
  have HF:Hid (mW x=0/\mV x=false):=by
   have h1:=HX.out
   rw[SX] at hgt
   unfold Hid mW mV
   rw[jq (by omega)]
   exact⟨rfl,by simp;omega⟩
  clear hle hgt
  gi_wp2
  refine⟨by simp,.inl ⟨_,_,rfl,Bv hK,?_⟩⟩
  have hS':=hS.kept (Du _ D (.deferred none)) (fun r e=>by cases e;exact⟨_,hK,rfl⟩)
  refine⟨.tuple #[.int .i64 0,.bool false],?_,by rw[HF.out.1,HF.out.2],hB.trans (belowK_b (w:=w) (au _) W D _ _ (by simp at hD;omega) hK rfl rfl)⟩
  simp[results,Tryz.results282,go_sem,hS'.c2,hS'.c3]
theorem a3Q (x:Int) (b:Bool) (p:Option Addr) (n c:Nat) (w:World) (hv:Raw w (.agg #[.bool b,.slice p n c]) x) (hlen:3<(dig x.natAbs).length) :
  Calls Tryz.prog 282 #[.agg #[.bool b,.slice p n c]] w fun e W'=>e=.returned (.tuple #[.int .i64 (mW x),.bool (mV x)])/\Below w.heap.size w W':=by
 have hd3:decide ((3:Int)<(dig x.natAbs).length)=true:=by simp;omega
 have hv1:=((hv.alloc (.cells #[.bool b,.slice p n c] 45)).alloc (.cells #[.int .i64 0] 3)).alloc (.cells #[.bool false] 4)
 have q1:Bx (((w.alloc (.cells #[.bool b,.slice p n c] 45)).alloc (.cells #[.int .i64 0] 3)).alloc (.cells #[.bool false] 4)) (w.heap.size+1) [.int .i64 0]:=by simpa using (Bx.new (w.alloc (.cells #[.bool b,.slice p n c] 45)) [.int .i64 0] 3).alloc (.cells #[.bool false] 4)
 have q2:Bx (((w.alloc (.cells #[.bool b,.slice p n c] 45)).alloc (.cells #[.int .i64 0] 3)).alloc (.cells #[.bool false] 4)) (w.heap.size+1+1) [.bool false]:=by simpa using Bx.new ((w.alloc (.cells #[.bool b,.slice p n c] 45)).alloc (.cells #[.int .i64 0] 3)) [.bool false] 4
 have hB0:Below w.heap.size w (((w.alloc (.cells #[.bool b,.slice p n c] 45)).alloc (.cells #[.int .i64 0] 3)).alloc (.cells #[.bool false] 4)):=(((bg _ _).alloc (au _) _).alloc (by simp) _).alloc (by simp;omega) _
 have HF:Hid (mW x=0/\mV x=false):=by
  have h1:=pI hlen
  rw[bK] at h1
  unfold Hid mW mV
  rw[jq (by omega)]
  exact⟨rfl,by simp;omega⟩
 go_enter Tryz.func282,Tryz.ntmps282
 go_wp2_with fail
 refine(dM _ x _ hv1).mono ?_
 rintro e w1 ⟨s1,rfl,hs1,hb1⟩
 obtain⟨p1,c1,rfl,hl1,hm1⟩:=hs1.form
 have k1:=q1.to hb1
 have k2:=q2.to hb1
 have r0:=k1.c0
 have f0:=k1.f0
 have r1:=k2.c0
 have f1:=k2.f0
 have hBw1:=Below.tr hB0 hb1
 go_wp2_with fail
 exact ji (v:=.tuple #[.int .i64 0,.bool false]) (by simp[results,Tryz.results282,go_sem,r0,r1]) rfl ⟨by rw[HF.out.1,HF.out.2],(hBw1.setCell (p:=⟨w.heap.size+1,0,none⟩) (by simp) _).setCell (p:=⟨w.heap.size+1+1,0,none⟩) (by simp;omega) _⟩
theorem a7z (v:Value) (x:Int) (w:World) (hv:Raw w v x) :
  Calls Tryz.prog 282 #[v] w fun e W'=>e=.returned (.tuple #[.int .i64 (mW x),.bool (mV x)])/\Below w.heap.size w W':=by
 obtain⟨b,p,n,c,rfl⟩:=hv.form
 by_cases h:(dig x.natAbs).length<=3
 ·exact callsIn_wide.1 (b1j x b p n c w hv h (fun h=>hv.sign h))
 ·exact a3Q x b p n c w hv (by omega)
end
end Go.Proofs.YtbkocjmmbkifjaaGreat
