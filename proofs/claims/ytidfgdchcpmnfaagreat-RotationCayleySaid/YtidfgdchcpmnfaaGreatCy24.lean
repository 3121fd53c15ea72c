/-
  Lemmas for the theorem vcayley_holds, part 24 of 33.
-/
import Derived.Deep.RegionHeld3
import Derived.Test.YtidfgdchcpmnfaaGreatCy01
import Derived.Test.YtidfgdchcpmnfaaGreatCy06
import Derived.Test.YtidfgdchcpmnfaaGreatCy07
import Derived.Test.YtidfgdchcpmnfaaGreatCy23
namespace Go.Proofs.YtidfgdchcpmnfaaGreat
open Go.RowKit
set_option maxRecDepth 100000
set_option maxHeartbeats 2000000
set_option linter.unusedSimpArgs false
set_option linter.unusedVariables false
theorem bU.YJ {w:World} {b:Nat} (h:b < w.heap.size):bU w (.agg #[.bool false,.slice (some ⟨b,0,none⟩) 0 0]) 0:=by
 refine ⟨.slice (some ⟨b,0,none⟩) 0 0,by simp,.inr ⟨b,0,0,by simp [dO],by simp [dO],by omega,h,fun i hi=>?_⟩⟩
 simp [dO] at hi
theorem a5Q (v:Value) (x:Int) (w:World) (h:fF w v false x) :
  Calls Tryz.prog 120 #[v] w (kK x w):=by
 obtain ⟨b,p,n,c,rfl⟩:=h.raw.form
 have HX:=Lib.hid h.zero
 have aX:Below w.heap.size w w:=Below.refl _ _
 go_enter Tryz.func120,Tryz.ntmps120
 go_wp2_with fail
 obtain ⟨hA1,h0,f0⟩:=bx2 w rfl [.bool b,.slice p n c] 28 [.bool false,.slice none 0 0] 28
 have g0:=(h.below hA1)
 (with_reducible refine (iV _ _ _ _ g0).mono ?_)
 rintro e w1 ⟨rfl,hb1⟩
 have dD:=(f0.to hb1)
 obtain ⟨a0,c0,b0,d0⟩:=dD.cf2
 have e0:=(Below.tr (Below.tr aX hA1) hb1)
 go_wp2_with fail
 exact bodyPost_ret (v:=.agg #[.bool false,.slice none 0 0]) (by simp [results,Tryz.results120,go_sem,a0,c0,b0,d0]) rfl ⟨_,rfl,by rw [HX.out];exact bU.zero _,(Below.aC e0 (b:=w.heap.size+1) (by omega) (.bool false) (.slice none 0 0))⟩
theorem a5P (x:Int) (w:World) (b:Bool) (g o n c:Nat) (h:bU w (.agg #[.bool b,.slice (some ⟨g,o,none⟩) n c]) x) (hg:g < w.heap.size) (hc:∀ i,i < (dig x.natAbs).length→w.cell? ⟨g,o+i,none⟩=some (.int .u32 (gr (dig x.natAbs) i:Nat))) (hx:b=decide (x < 0)) (hn:n=(dig x.natAbs).length) (hl:n≤1000000000) :
  Calls Tryz.prog 120 #[.agg #[.bool b,.slice (some ⟨g,o,none⟩) n c]] w (kK x w):=by
 obtain ⟨i0,hi,hz0,hz1,hz2⟩:=info_parts iF
 have HC:=Lib.hid hc
 have HX:=Lib.hid hx
 have HN:=Lib.hid hn
 clear hc hx hn
 have aX:Below w.heap.size w w:=Below.refl _ _
 go_enter Tryz.func120,Tryz.ntmps120
 go_wp2_with fail
 obtain ⟨hA1,e0,g0⟩:=bx2 w rfl [.bool b,.slice (some ⟨g,o,none⟩) n c] 28 [.bool false,.slice none 0 0] 28
 have j0:=(h.below hA1).PW
 (with_reducible refine (iV _ _ _ _ j0).mono ?_)
 rintro e w1 ⟨rfl,hb1⟩
 have bF:=(e0.to hb1)
 have dD:=(g0.to hb1)
 have b0:=(Below.tr (Below.tr aX hA1) hb1)
 have h_1:=((h.below hA1).below hb1)
 have q0d:=(bF).drew
 have q1d:=(dD).drew
 have hBd:=(b0).drew
 have q1a:=((dD).alloc (.cells #[] 118)).drew
 have a0:=q1a.c0
 have a1:=q1a.c1
 have a2:=q1a.f0
 have a3:=q1a.f1
 have d0:=(dD).c0
 have d1:=(dD).c1
 have d2:=(dD).f0
 have d3:=(dD).f1
 have d4:=(dD).1
 have d5:=(bF).1
 have hRd:=(h_1).drew
 have S0:(fun w':World=>w'.cell? ⟨w.heap.size,0,none⟩=some (.bool b)∧w'.cell? ⟨w.heap.size,1,none⟩=some (.slice (some ⟨g,o,none⟩) n c)∧w.heap.size+1 < w'.heap.size) w1.drew:=⟨q0d.c0,q0d.c1,q1d.1⟩
 have S1:(fun w':World=>w'.cell? ⟨w.heap.size,0,none⟩=some (.bool b)∧w'.cell? ⟨w.heap.size,1,none⟩=some (.slice (some ⟨g,o,none⟩) n c)∧w.heap.size+1 < w'.heap.size) (w1.alloc (.cells #[] 118)).drew:=⟨((bF).alloc (.cells #[] 118)).drew.c0,((bF).alloc (.cells #[] 118)).drew.c1,((dD).alloc (.cells #[] 118)).drew.1⟩
 have S2:∀ x0 x1:Value,(fun w':World=>w'.cell? ⟨w.heap.size,0,none⟩=some (.bool b)∧w'.cell? ⟨w.heap.size,1,none⟩=some (.slice (some ⟨g,o,none⟩) n c)∧w.heap.size+1 < w'.heap.size) (((w1.setCell ⟨w.heap.size+1,0,none⟩ x0).setCell ⟨w.heap.size+1,1,none⟩ x1).alloc (.cells #[] 118)).drew:=fun x0 x1=>⟨(((bF).aH (b:=w.heap.size+1) (by omega) x0 x1).alloc (.cells #[] 118)).drew.c0,(((bF).aH (b:=w.heap.size+1) (by omega) x0 x1).alloc (.cells #[] 118)).drew.c1,(((dD).store2 x0 x1).alloc (.cells #[] 118)).drew.1⟩
 have K:∀ A B:World,(fun w':World=>w'.cell? ⟨w.heap.size,0,none⟩=some (.bool b)∧w'.cell? ⟨w.heap.size,1,none⟩=some (.slice (some ⟨g,o,none⟩) n c)∧w.heap.size+1 < w'.heap.size) A→Below A.heap.size A B→(fun w':World=>w'.cell? ⟨w.heap.size,0,none⟩=some (.bool b)∧w'.cell? ⟨w.heap.size,1,none⟩=some (.slice (some ⟨g,o,none⟩) n c)∧w.heap.size+1 < w'.heap.size) B:=by
  rintro A B ⟨h0,h1,h2⟩ hb
  have hs:=hb.size
  exact ⟨by rw [(eH hb).1 _ _ (by omega)];exact h0,by rw [(eH hb).1 _ _ (by omega)];exact h1,by omega⟩
 have KS:∀ (A:World) (x0 x1:Value),(fun w':World=>w'.cell? ⟨w.heap.size,0,none⟩=some (.bool b)∧w'.cell? ⟨w.heap.size,1,none⟩=some (.slice (some ⟨g,o,none⟩) n c)∧w.heap.size+1 < w'.heap.size) A→(fun w':World=>w'.cell? ⟨w.heap.size,0,none⟩=some (.bool b)∧w'.cell? ⟨w.heap.size,1,none⟩=some (.slice (some ⟨g,o,none⟩) n c)∧w.heap.size+1 < w'.heap.size) ((A.setCell ⟨w.heap.size+1,0,none⟩ x0).setCell ⟨w.heap.size+1,1,none⟩ x1):=by
  rintro A x0 x1 ⟨h0,h1,h2⟩
  simp [go_sem,h0,h1,h2]
 go_wp2_with fail
 have tk1:True:=trivial
 go_region_held3 (fun w':World=>w'.cell? ⟨w.heap.size,0,none⟩=some (.bool b)∧w'.cell? ⟨w.heap.size,1,none⟩=some (.slice (some ⟨g,o,none⟩) n c)∧w.heap.size+1 < w'.heap.size) (first | with_reducible exact S0 | with_reducible exact S1 | with_reducible exact S2 _ _ | with_reducible exact K _ _ S0 (by assumption) | with_reducible exact K _ _ (by assumption) ((Below.refl _ _).alloc (Nat.le_refl _) _) | with_reducible exact KS _ _ _ (by assumption) | (simp;done))
  (first
   | ((have:=tk1);clear tk1;refine KQ rfl _ _ 26 rfl w1.drew.heap.size 118 i0 (.int .u32 0) 1 4 Tryz.underlying26 hi hz0 hz1 hz2 rfl (by decide) _ _ _ rfl (World.ownsRow_made w1.drew #[] 0 (Nat.le_refl _) (by simp [maxLen]) (by simp)) ⟨g,o,none⟩ n c (cells32 (dig x.natAbs)) rfl (by rw [HN.out];exact iT _) (mD fun i hi=>(World.cell?_alloc_lt _ _ ⟨g,o+i,none⟩ (Nat.lt_of_lt_of_le hg hBd.size)).trans ((hBd.cell (p:=⟨g,o+i,none⟩) hg).trans (HC.out i hi))) (kM _) (by unfold maxLen;omega) (by omega) (by simp) ?_;intro v2 w2 hown hgrow _;have hbw:Below w1.drew.heap.size w1.drew w2:=((Below.refl _ _).alloc (Nat.le_refl _) _).grown hgrow (by simp) (fun j e=>Nat.le_of_eq (Option.some.inj e));have hR2:=Rd.bY (l:=dig x.natAbs) (by rw [← HN.out];simpa using hown);obtain ⟨p2,c2,rfl,_,_⟩:=hR2.form;have q1w:=q1d.to hbw;have r0:=q1w.c0;have r1:=q1w.c1;have f0:=q1w.f0;have f1:=q1w.f1))
 go_wp2_with fail
 exact bodyPost_ret (v:=.agg #[.bool b,.slice p2 (dig x.natAbs).length c2]) (by simp [results,Tryz.results120,go_sem,r0,r1]) rfl ⟨_,rfl,bU.aC ⟨_,by rw [HX.out],hR2⟩ q1w rfl rfl _ _,Below.aC (Below.tr hBd hbw) (by omega) _ _⟩
theorem a2H (p:Option Addr) (w:World) (h:bU w (.agg #[.bool false,.slice p 0 0]) 0) :
  Calls Tryz.prog 120 #[.agg #[.bool false,.slice p 0 0]] w (kK 0 w):=by
 obtain ⟨i0,hi,hz0,hz1,hz2⟩:=info_parts iF
 have aX:Below w.heap.size w w:=Below.refl _ _
 go_enter Tryz.func120,Tryz.ntmps120
 go_wp2_with fail
 obtain ⟨hA1,e0,g0⟩:=bx2 w rfl [.bool false,.slice p 0 0] 28 [.bool false,.slice none 0 0] 28
 have j0:=(h.below hA1).PW
 (with_reducible refine (iV _ _ (0:Int) _ j0).mono ?_)
 rintro e w1 ⟨rfl,hb1⟩
 have bF:=(e0.to hb1)
 have dD:=(g0.to hb1)
 have b0:=(Below.tr (Below.tr aX hA1) hb1)
 have h_1:=((h.below hA1).below hb1)
 have q0d:=(bF).drew
 have q1d:=(dD).drew
 have hBd:=(b0).drew
 have q1a:=((dD).alloc (.cells #[] 118)).drew
 have a0:=q1a.c0
 have a1:=q1a.c1
 have a2:=q1a.f0
 have a3:=q1a.f1
 have d0:=(dD).c0
 have d1:=(dD).c1
 have d2:=(dD).f0
 have d3:=(dD).f1
 have d4:=(dD).1
 have d5:=(bF).1
 have hRd:=(h_1).drew
 have S0:(fun w':World=>w'.cell? ⟨w.heap.size,0,none⟩=some (.bool false)∧w'.cell? ⟨w.heap.size,1,none⟩=some (.slice p 0 0)∧w.heap.size+1 < w'.heap.size) w1.drew:=⟨q0d.c0,q0d.c1,q1d.1⟩
 have S1:(fun w':World=>w'.cell? ⟨w.heap.size,0,none⟩=some (.bool false)∧w'.cell? ⟨w.heap.size,1,none⟩=some (.slice p 0 0)∧w.heap.size+1 < w'.heap.size) (w1.alloc (.cells #[] 118)).drew:=⟨((bF).alloc (.cells #[] 118)).drew.c0,((bF).alloc (.cells #[] 118)).drew.c1,((dD).alloc (.cells #[] 118)).drew.1⟩
 have S2:∀ x0 x1:Value,(fun w':World=>w'.cell? ⟨w.heap.size,0,none⟩=some (.bool false)∧w'.cell? ⟨w.heap.size,1,none⟩=some (.slice p 0 0)∧w.heap.size+1 < w'.heap.size) (((w1.setCell ⟨w.heap.size+1,0,none⟩ x0).setCell ⟨w.heap.size+1,1,none⟩ x1).alloc (.cells #[] 118)).drew:=fun x0 x1=>⟨(((bF).aH (b:=w.heap.size+1) (by omega) x0 x1).alloc (.cells #[] 118)).drew.c0,(((bF).aH (b:=w.heap.size+1) (by omega) x0 x1).alloc (.cells #[] 118)).drew.c1,(((dD).store2 x0 x1).alloc (.cells #[] 118)).drew.1⟩
 have K:∀ A B:World,(fun w':World=>w'.cell? ⟨w.heap.size,0,none⟩=some (.bool false)∧w'.cell? ⟨w.heap.size,1,none⟩=some (.slice p 0 0)∧w.heap.size+1 < w'.heap.size) A→Below A.heap.size A B→(fun w':World=>w'.cell? ⟨w.heap.size,0,none⟩=some (.bool false)∧w'.cell? ⟨w.heap.size,1,none⟩=some (.slice p 0 0)∧w.heap.size+1 < w'.heap.size) B:=by
  rintro A B ⟨h0,h1,h2⟩ hb
  have hs:=hb.size
  exact ⟨by rw [(eH hb).1 _ _ (by omega)];exact h0,by rw [(eH hb).1 _ _ (by omega)];exact h1,by omega⟩
 have KS:∀ (A:World) (x0 x1:Value),(fun w':World=>w'.cell? ⟨w.heap.size,0,none⟩=some (.bool false)∧w'.cell? ⟨w.heap.size,1,none⟩=some (.slice p 0 0)∧w.heap.size+1 < w'.heap.size) A→(fun w':World=>w'.cell? ⟨w.heap.size,0,none⟩=some (.bool false)∧w'.cell? ⟨w.heap.size,1,none⟩=some (.slice p 0 0)∧w.heap.size+1 < w'.heap.size) ((A.setCell ⟨w.heap.size+1,0,none⟩ x0).setCell ⟨w.heap.size+1,1,none⟩ x1):=by
  rintro A x0 x1 ⟨h0,h1,h2⟩
  simp [go_sem,h0,h1,h2]
 go_wp2_with fail
 go_region_held3 (fun w':World=>w'.cell? ⟨w.heap.size,0,none⟩=some (.bool false)∧w'.cell? ⟨w.heap.size,1,none⟩=some (.slice p 0 0)∧w.heap.size+1 < w'.heap.size) (first | with_reducible exact S0 | with_reducible exact S1 | with_reducible exact S2 _ _ | with_reducible exact K _ _ S0 (by assumption) | with_reducible exact K _ _ (by assumption) ((Below.refl _ _).alloc (Nat.le_refl _) _) | with_reducible exact KS _ _ _ (by assumption) | (simp;done))
  (refine FM rfl _ _ 26 rfl 118 i0 Tryz.underlying26 hi _ rfl rfl ?_)
 go_wp2_with fail
 exact bodyPost_ret (v:=.agg #[.bool false,.slice (some ⟨w1.heap.size,0,none⟩) 0 0]) (by simp [results,Tryz.results120,go_sem,d0,d1,d2,d3,d4]) rfl ⟨_,rfl,bU.YJ (by simp [World.setCell]),(Below.al (Below.aC b0 (by omega) _ _) _).drew⟩
end Go.Proofs.YtidfgdchcpmnfaaGreat
namespace Go.Proofs.YtidfgdchcpmnfaaGreat
open Go.RowKit
set_option maxRecDepth 100000
set_option maxHeartbeats 2000000
set_option linter.unusedSimpArgs false
set_option linter.unusedVariables false
theorem a2I (v:Value) (ok:Bool) (x:Int) (w:World) (h:fF w v ok x) (hl:isz x≤1000000000) :
  Calls Tryz.prog 120 #[v] w (kK x w):=by
 cases ok
 ·exact a5Q v x w h
 ·have hi:=h.int
  obtain ⟨s,rfl,hs⟩:=hi
  rcases hs with ⟨p,rfl,h0⟩ | ⟨b,o,c,rfl,h2,h3,h4,h5⟩
  ·have hx:x=0:=by have:=iU.1 h0;omega
   subst hx
   exact a2H p w (h.int)
  ·exact a5P x w _ b o _ c h.int h4 h5 rfl rfl hl
theorem Raw.toV {w:World} {v:Value} {x:Int} (h:Raw w v x):∃ ok,fF w v ok x:=by
 obtain ⟨neg,s,l,h1,h2,h3,h4⟩:=h
 exact ⟨_,neg,s,l,h1,h2,h3,h4,rfl⟩
theorem eX (v:Value) (x:Int) (w:World) (h:Raw w v x) (hl:isz x≤1000000000) :
  Calls Tryz.prog 120 #[v] w (kK x w):=by
 obtain ⟨ok,h⟩:=h.toV
 exact a2I v ok x w h hl
theorem qH {P:Program} {w:World} {ops:Array Oper} {rest:List Oper} {o:Oper} {a:Act} {Q:Exit→Act→World→Prop} (hgd:o.guard=none) (s x:Operand) (t:TypeId)
  (hop:o.op=Op.call { callee:=Callee.builtin Builtin.append,args:=#[s,x],argTypes:=#[t,t] })
  (e:TypeId) (i:TypeInfo) (h1:P.underlying t=some (.slice e)) (h2:P.info? e=some i)
  (b:Addr) (hs:a.eval s=.slice (some b) 0 0) {q:Option Addr} (hx:a.eval x=.slice q 0 0)
  (h:wpList P ops Q rest (a.put o.dst (.slice (some b) 0 0)) w):wpList P ops Q (o :: rest) a w :=
 wpList_plain hgd fun _ hK=>by
  have hrun:(Builtin.append_ #[t,t] o.type #[.slice (some b) 0 0,.slice q 0 0]).run P w=.ok (.slice (some b) 0 0) w:=by
   cases q <;> simp [Builtin.append_,run_underlying h1,sizeOf,typeInfo,h2,Builtin.lenOf,Builtin.firstCells,loadCells,loadCellsFrom,Sem.run_bind,storeCells]
  unfold Oper.wp
  simp [execOp,hop,resolve,invoke,builtin,hs,hx,hrun,Result.andThen]
  exact hK _ _ h
theorem zW (W:World):(W.alloc (.cells #[] 118)).ownsRow W.heap.size 118 1 (.slice (some ⟨W.heap.size,0,none⟩) 0 0) 0 []:=World.ownsRow_made W #[] 0 (Nat.le_refl _) (by simp [maxLen]) (by simp)
theorem uS (w:World) (cs:List Value) (T:TypeId):((w.alloc (.cells cs.toArray T)).alloc (.cells #[] 118)).ownsRow (w.heap.size+1) 118 1 (.slice (some ⟨w.heap.size+1,0,none⟩) 0 0) 0 []:=by simpa using zW (w.alloc (.cells cs.toArray T))
theorem AP {w:World} {p:Option Addr} {c k:Nat} {l:List Nat} {flag neg:Bool} {L:List Nat} (hLq:l.take k=L) (hR:Rd w (.slice p L.length c) L) (hL:Low l) (hz:val (l.take k)=val l) (hf:(k=0∧flag=false) ∨ (0 < k∧k≤l.length∧gr l (k - 1) ≠ 0∧flag=neg)) :
  bU w (.agg #[.bool flag,.slice p L.length c]) (sg neg (val l)):=by
 subst hLq
 have ht:dig (val l)=l.take k:=by
  rcases hf with ⟨rfl,_⟩ | ⟨h0,h1,h2,_⟩
  ·exact wO hL (Nat.zero_le _) hz (.inl rfl)
  ·exact wO hL h1 hz (.inr h2)
 refine ⟨_,?_,by rw [a2L,ht];exact hR⟩
 rcases hf with ⟨rfl,rfl⟩ | ⟨h0,h1,h2,rfl⟩
 ·have:val l=0:=by rw [← hz];simp [val]
  rw [this,XY];simp
 ·have:val l ≠ 0:=fun e=>by
   rw [e,dO] at ht
   have:=congrArg List.length ht
   rw [List.length_take] at this
   simp at this;omega
  rw [a8C this]
def a6i (x:Int) (w:World) (e:Ending) (w':World):Prop:=∃ g p n c,e=.returned (.agg #[.bool g,.slice p n c])∧bU w' (.agg #[.bool g,.slice p n c]) x∧(∀ k,(Value.slice p n c).ownBlock=some k→w.heap.size≤k)∧Below w.heap.size w w'
def a8Y (l:List Nat) (w:World) (e:Ending) (w':World):Prop:=∃ s,e=.returned s∧Rd w' s l∧(∀ k,s.ownBlock=some k→w.heap.size≤k)∧Below w.heap.size w w'
theorem a2B (s:Value) (l:List Nat) (w:World) (hs:Rd w s l) (hl:Low l) (hn:l.length≤2000000001) :
  Calls Tryz.prog 127 #[.bool true,s] w (a6i (sg true (val l)) w):=by
 obtain ⟨i0,hi,hz0,hz1,hz2⟩:=info_parts iF
 have HL:=Lib.hid hl
 clear hl
 rcases hs with ⟨p,rfl,rfl⟩ | ⟨b,o,c,rfl,h2,h3,h4,h5⟩
 ·go_enter Tryz.func127,Tryz.ntmps127
  go_wp2
  go_loop [5,8,9,10,11,12,13,14,15,16,17,18,19] (fun n _ _ _ _ _ _ _ _ _ _ _ _=>n=.int .i64 0) (fun n _ _ _ _ _ _ _ _ _ _ _ _=>0)
  case atStart=>rfl
  case round =>
   subst hrel
   go_wp2_with (at_builtin;refine qH rfl _ _ 26 rfl 118 i0 Tryz.underlying26 hi _ rfl rfl ?_)
   exact bodyPost_ret (v:=.agg #[.bool false,.slice (some ⟨w.heap.size+1,0,none⟩) 0 0]) (by simp [results,Tryz.results127,go_sem]) rfl ⟨_,_,_,_,rfl,by simpa [val,sg] using bU.YJ (by simp),fun k hk=>by simp [Value.ownBlock] at hk;omega,((Below.refl _ _).alloc (Nat.le_refl _) _).alloc (by simp) _⟩
 ·have H5:=Lib.hid h5
  clear h5
  go_enter Tryz.func127,Tryz.ntmps127
  go_wp2
  go_loop [5,8,9,10,11,12,13,14,15,16,17,18,19] (fun n _ _ _ _ _ _ _ _ _ _ _ _=>∃ k:Nat,k≤l.length∧n=.int .i64 (k:Nat)∧Hid (val (l.take k)=val l)) (fun n _ _ _ _ _ _ _ _ _ _ _ _=>(intOf n).toNat)
  case atStart=>exact ⟨l.length,Nat.le_refl _,rfl,by simp [Hid]⟩
  case round =>
   obtain ⟨k,hk,rfl,hz⟩:=hrel
   cases k with
   | zero =>
    have HK:Hid ((l.take 0).length=0):=by unfold Hid;simp
    obtain ⟨L,hL⟩:∃ L,l.take (0)=L:=⟨_,rfl⟩
    have HLn:Hid (L.length=0):=by rw [← hL];exact HK.out
    have HCL:Hid (∀ i,i < L.length→w.cell? ⟨b,o+i,none⟩=some (.int .u32 (gr L i:Nat))):=fun i hi=>by
     have hi2:i < 0:=by have:=HLn.out;omega
     rw [← hL,zY hi2]
     exact H5.out i (by omega)
    have HLq:=Lib.hid hL
    clear hL HK
    go_wp2_with (at_builtin;refine wpList_append_own _ rfl _ _ 26 rfl (w.heap.size+1) 118 i0 (.int .u32 0) 1 4 Tryz.underlying26 hi hz0 hz1 hz2 rfl (by decide) _ _ _ rfl (uS w [.bool false,.slice none 0 0] 28) ⟨b,o,none⟩ (0) c (cells32 L) rfl (by rw [iT,HLn.out]) (mD fun i hi=>(World.cell?_alloc_lt _ _ ⟨b,o+i,none⟩ (by simp;omega)).trans ((World.cell?_alloc_lt _ _ ⟨b,o+i,none⟩ h4).trans (HCL.out i hi))) (kM _) (by unfold maxLen;omega) (by omega) (by simp) ?_)
    intro v' w1 hown hgrow _
    have hbw:Below (w.heap.size+1) (w.alloc (.cells #[.bool false,.slice none 0 0] 28)) w1:=((Below.refl _ _).alloc (by simp) _).grown hgrow (by simp) (fun j e=>Nat.le_of_eq (Option.some.inj e))
    have hR:=Rd.bY (l:=L) (by rw [HLn.out];simpa using qX hown (Nat.zero_le _))
    obtain ⟨p2,c2,rfl,_,_⟩:=hR.form
    have q1:=(Bx.new w [.bool false,.slice none 0 0] 28).below hbw (by omega)
    have r0:=q1.c0
    have r1:=q1.c1
    have f0:=q1.f0
    have f1:=q1.f1
    go_wp2
    exact bodyPost_ret (v:=.agg #[.bool false,.slice p2 L.length c2]) (by simp [results,Tryz.results127,go_sem,r0,r1]) rfl ⟨_,_,_,_,rfl,bU.aC (AP (neg:=true) (flag:=false) HLq.out hR HL.out hz.out (.inl ⟨rfl,rfl⟩)) q1 rfl rfl _ _,fun k hk=>Nat.le_of_succ_le (hown.lt k hk).1,Below.aC (((Below.refl _ _).alloc (Nat.le_refl _) _).trans (hbw.mono (by simp))) (Nat.le_refl _) _ _⟩
   | succ k =>
    have hc:=H5.out k (by omega)
    by_cases hg:gr l k=0
    ·have HV:=Lib.hid (uP (by omega) hg)
     rw [hg] at hc
     have HG:=Lib.hid hg
     clear hg
     go_wp2
     go_round
     case rel=>exact ⟨k,by omega,by go_num,by unfold Hid;rw [HV.out,hz.out]⟩
     case measure=>simp [intOf]
    ·have hg':((gr l k:Int) == 0)=false:=by simp;omega
     have HG:=Lib.hid hg
     clear hg
     have HK:Hid ((l.take (k+1)).length=k+1):=by unfold Hid;rw [List.length_take];omega
     obtain ⟨L,hL⟩:∃ L,l.take (k+1)=L:=⟨_,rfl⟩
     have HLn:Hid (L.length=k+1):=by rw [← hL];exact HK.out
     have HCL:Hid (∀ i,i < L.length→w.cell? ⟨b,o+i,none⟩=some (.int .u32 (gr L i:Nat))):=fun i hi=>by
      have hi2:i < k+1:=by have:=HLn.out;omega
      rw [← hL,zY hi2]
      exact H5.out i (by omega)
     have HLq:=Lib.hid hL
     clear hL HK
     go_wp2_with (at_builtin;refine wpList_append_own _ rfl _ _ 26 rfl (w.heap.size+1) 118 i0 (.int .u32 0) 1 4 Tryz.underlying26 hi hz0 hz1 hz2 rfl (by decide) _ _ _ rfl (uS w [.bool false,.slice none 0 0] 28) ⟨b,o,none⟩ (k+1) c (cells32 L) rfl (by rw [iT,HLn.out]) (mD fun i hi=>(World.cell?_alloc_lt _ _ ⟨b,o+i,none⟩ (by simp;omega)).trans ((World.cell?_alloc_lt _ _ ⟨b,o+i,none⟩ h4).trans (HCL.out i hi))) (kM _) (by unfold maxLen;omega) (by omega) (by simp) ?_)
     intro v' w1 hown hgrow _
     have hbw:Below (w.heap.size+1) (w.alloc (.cells #[.bool false,.slice none 0 0] 28)) w1:=((Below.refl _ _).alloc (by simp) _).grown hgrow (by simp) (fun j e=>Nat.le_of_eq (Option.some.inj e))
     have hR:=Rd.bY (l:=L) (by rw [HLn.out];simpa using qX hown (Nat.zero_le _))
     obtain ⟨p2,c2,rfl,_,_⟩:=hR.form
     have q1:=(Bx.new w [.bool false,.slice none 0 0] 28).below hbw (by omega)
     have r0:=q1.c0
     have r1:=q1.c1
     have f0:=q1.f0
     have f1:=q1.f1
     go_wp2
     exact bodyPost_ret (v:=.agg #[.bool true,.slice p2 L.length c2]) (by simp [results,Tryz.results127,go_sem,r0,r1]) rfl ⟨_,_,_,_,rfl,bU.aC (AP (neg:=true) (flag:=true) HLq.out hR HL.out hz.out (.inr ⟨by omega,hk,HG.out,rfl⟩)) q1 rfl rfl _ _,fun k hk=>Nat.le_of_succ_le (hown.lt k hk).1,Below.aC (((Below.refl _ _).alloc (Nat.le_refl _) _).trans (hbw.mono (by simp))) (Nat.le_refl _) _ _⟩
theorem a0L (s:Value) (l:List Nat) (w:World) (hs:Rd w s l) (hl:Low l) (hn:l.length≤2000000001) :
  Calls Tryz.prog 127 #[.bool false,s] w (a6i (sg false (val l)) w):=by
 obtain ⟨i0,hi,hz0,hz1,hz2⟩:=info_parts iF
 have HL:=Lib.hid hl
 clear hl
 rcases hs with ⟨p,rfl,rfl⟩ | ⟨b,o,c,rfl,h2,h3,h4,h5⟩
 ·go_enter Tryz.func127,Tryz.ntmps127
  go_wp2
  go_loop [5,8,9,10,11,12,13,14,15,16,17,18,19] (fun n _ _ _ _ _ _ _ _ _ _ _ _=>n=.int .i64 0) (fun n _ _ _ _ _ _ _ _ _ _ _ _=>0)
  case atStart=>rfl
  case round =>
   subst hrel
   go_wp2_with (at_builtin;refine qH rfl _ _ 26 rfl 118 i0 Tryz.underlying26 hi _ rfl rfl ?_)
   exact bodyPost_ret (v:=.agg #[.bool false,.slice (some ⟨w.heap.size+1,0,none⟩) 0 0]) (by simp [results,Tryz.results127,go_sem]) rfl ⟨_,_,_,_,rfl,by simpa [val,sg] using bU.YJ (by simp),fun k hk=>by simp [Value.ownBlock] at hk;omega,((Below.refl _ _).alloc (Nat.le_refl _) _).alloc (by simp) _⟩
 ·have H5:=Lib.hid h5
  clear h5
  go_enter Tryz.func127,Tryz.ntmps127
  go_wp2
  go_loop [5,8,9,10,11,12,13,14,15,16,17,18,19] (fun n _ _ _ _ _ _ _ _ _ _ _ _=>∃ k:Nat,k≤l.length∧n=.int .i64 (k:Nat)∧Hid (val (l.take k)=val l)) (fun n _ _ _ _ _ _ _ _ _ _ _ _=>(intOf n).toNat)
  case atStart=>exact ⟨l.length,Nat.le_refl _,rfl,by simp [Hid]⟩
  case round =>
   obtain ⟨k,hk,rfl,hz⟩:=hrel
   cases k with
   | zero =>
    have HK:Hid ((l.take 0).length=0):=by unfold Hid;simp
    obtain ⟨L,hL⟩:∃ L,l.take (0)=L:=⟨_,rfl⟩
    have HLn:Hid (L.length=0):=by rw [← hL];exact HK.out
    have HCL:Hid (∀ i,i < L.length→w.cell? ⟨b,o+i,none⟩=some (.int .u32 (gr L i:Nat))):=fun i hi=>by
     have hi2:i < 0:=by have:=HLn.out;omega
     rw [← hL,zY hi2]
     exact H5.out i (by omega)
    have HLq:=Lib.hid hL
    clear hL HK
    go_wp2_with (at_builtin;refine wpList_append_own _ rfl _ _ 26 rfl (w.heap.size+1) 118 i0 (.int .u32 0) 1 4 Tryz.underlying26 hi hz0 hz1 hz2 rfl (by decide) _ _ _ rfl (uS w [.bool false,.slice none 0 0] 28) ⟨b,o,none⟩ (0) c (cells32 L) rfl (by rw [iT,HLn.out]) (mD fun i hi=>(World.cell?_alloc_lt _ _ ⟨b,o+i,none⟩ (by simp;omega)).trans ((World.cell?_alloc_lt _ _ ⟨b,o+i,none⟩ h4).trans (HCL.out i hi))) (kM _) (by unfold maxLen;omega) (by omega) (by simp) ?_)
    intro v' w1 hown hgrow _
    have hbw:Below (w.heap.size+1) (w.alloc (.cells #[.bool false,.slice none 0 0] 28)) w1:=((Below.refl _ _).alloc (by simp) _).grown hgrow (by simp) (fun j e=>Nat.le_of_eq (Option.some.inj e))
    have hR:=Rd.bY (l:=L) (by rw [HLn.out];simpa using qX hown (Nat.zero_le _))
    obtain ⟨p2,c2,rfl,_,_⟩:=hR.form
    have q1:=(Bx.new w [.bool false,.slice none 0 0] 28).below hbw (by omega)
    have r0:=q1.c0
    have r1:=q1.c1
    have f0:=q1.f0
    have f1:=q1.f1
    go_wp2
    exact bodyPost_ret (v:=.agg #[.bool false,.slice p2 L.length c2]) (by simp [results,Tryz.results127,go_sem,r0,r1]) rfl ⟨_,_,_,_,rfl,bU.aC (AP (neg:=false) (flag:=false) HLq.out hR HL.out hz.out (.inl ⟨rfl,rfl⟩)) q1 rfl rfl _ _,fun k hk=>Nat.le_of_succ_le (hown.lt k hk).1,Below.aC (((Below.refl _ _).alloc (Nat.le_refl _) _).trans (hbw.mono (by simp))) (Nat.le_refl _) _ _⟩
   | succ k =>
    have hc:=H5.out k (by omega)
    by_cases hg:gr l k=0
    ·have HV:=Lib.hid (uP (by omega) hg)
     rw [hg] at hc
     have HG:=Lib.hid hg
     clear hg
     go_wp2
     go_round
     case rel=>exact ⟨k,by omega,by go_num,by unfold Hid;rw [HV.out,hz.out]⟩
     case measure=>simp [intOf]
    ·have hg':((gr l k:Int) == 0)=false:=by simp;omega
     have HG:=Lib.hid hg
     clear hg
     have HK:Hid ((l.take (k+1)).length=k+1):=by unfold Hid;rw [List.length_take];omega
     obtain ⟨L,hL⟩:∃ L,l.take (k+1)=L:=⟨_,rfl⟩
     have HLn:Hid (L.length=k+1):=by rw [← hL];exact HK.out
     have HCL:Hid (∀ i,i < L.length→w.cell? ⟨b,o+i,none⟩=some (.int .u32 (gr L i:Nat))):=fun i hi=>by
      have hi2:i < k+1:=by have:=HLn.out;omega
      rw [← hL,zY hi2]
      exact H5.out i (by omega)
     have HLq:=Lib.hid hL
     clear hL HK
     go_wp2_with (at_builtin;refine wpList_append_own _ rfl _ _ 26 rfl (w.heap.size+1) 118 i0 (.int .u32 0) 1 4 Tryz.underlying26 hi hz0 hz1 hz2 rfl (by decide) _ _ _ rfl (uS w [.bool false,.slice none 0 0] 28) ⟨b,o,none⟩ (k+1) c (cells32 L) rfl (by rw [iT,HLn.out]) (mD fun i hi=>(World.cell?_alloc_lt _ _ ⟨b,o+i,none⟩ (by simp;omega)).trans ((World.cell?_alloc_lt _ _ ⟨b,o+i,none⟩ h4).trans (HCL.out i hi))) (kM _) (by unfold maxLen;omega) (by omega) (by simp) ?_)
     intro v' w1 hown hgrow _
     have hbw:Below (w.heap.size+1) (w.alloc (.cells #[.bool false,.slice none 0 0] 28)) w1:=((Below.refl _ _).alloc (by simp) _).grown hgrow (by simp) (fun j e=>Nat.le_of_eq (Option.some.inj e))
     have hR:=Rd.bY (l:=L) (by rw [HLn.out];simpa using qX hown (Nat.zero_le _))
     obtain ⟨p2,c2,rfl,_,_⟩:=hR.form
     have q1:=(Bx.new w [.bool false,.slice none 0 0] 28).below hbw (by omega)
     have r0:=q1.c0
     have r1:=q1.c1
     have f0:=q1.f0
     have f1:=q1.f1
     go_wp2
     exact bodyPost_ret (v:=.agg #[.bool false,.slice p2 L.length c2]) (by simp [results,Tryz.results127,go_sem,r0,r1]) rfl ⟨_,_,_,_,rfl,bU.aC (AP (neg:=false) (flag:=false) HLq.out hR HL.out hz.out (.inr ⟨by omega,hk,HG.out,rfl⟩)) q1 rfl rfl _ _,fun k hk=>Nat.le_of_succ_le (hown.lt k hk).1,Below.aC (((Below.refl _ _).alloc (Nat.le_refl _) _).trans (hbw.mono (by simp))) (Nat.le_refl _) _ _⟩
theorem oU (neg:Bool) (s:Value) (l:List Nat) (w:World) (hs:Rd w s l) (hl:Low l) (hn:l.length≤2000000001) :
  Calls Tryz.prog 127 #[.bool neg,s] w (a6i (sg neg (val l)) w):=by
 cases neg
 ·exact a0L s l w hs hl hn
 ·exact a2B s l w hs hl hn
theorem gW (neg:Bool) (s:Value) (l:List Nat) (w:World) (hs:Rd w s l) (hl:Low l) (hn:l.length≤2000000001) :
  Calls Tryz.prog 127 #[.bool neg,s] w (kK (sg neg (val l)) w) :=
 (oU neg s l w hs hl hn).mono fun e w' ⟨g,p,n,c,h1,h2,_,h4⟩=>⟨_,h1,h2,h4⟩
end Go.Proofs.YtidfgdchcpmnfaaGreat
namespace Go.Proofs.YtidfgdchcpmnfaaGreat
set_option linter.unusedSimpArgs false
theorem zI (o:List Nat) (r:Nat):val (o ++ [r])=val o+BB ^ o.length * r:=by rw [val_append];simp [bW,val]
theorem yP {o:List Nat} {r:Nat} (h:Low o) (hr:r≤999999999):Low (o ++ [r]):=Low.append.2 ⟨h,Low.cons.2 ⟨by rw [bG];omega,Low.nil⟩⟩
structure VL (a b o:List Nat) (k c:Nat):Prop where
 len:o.length=k
 low:Low o
 vl:val o+BB ^ k * c=val (a.take k)+val (b.take k)
 car:c≤1
theorem VL.zero (a b:List Nat):VL a b [] 0 0:=⟨rfl,Low.nil,by simp [val],by omega⟩
theorem VL.step {a b o:List Nat} {k c r q:Nat} (h:VL a b o k c) (ha:gr a k≤999999999) (hb:gr b k≤999999999) (hs:gr a k+gr b k+c=r+1000000000 * q) (hr:r≤999999999):VL a b (o ++ [r]) (k+1) q:=by
 have hc:=h.car
 refine ⟨by simp [h.len],yP h.low hr,?_,by omega⟩
 rw [zI,aZ,aZ,h.len,Nat.pow_succ]
 have:=h.vl
 simp only [bG] at *
 have e:1000000000 ^ k * (gr a k+gr b k+c)=1000000000 ^ k * (r+1000000000 * q):=by rw [hs]
 grind
theorem VL.done {a b o:List Nat} {k c:Nat} (h:VL a b o k c) (h1:a.length≤k) (h2:b.length≤k):Low (o ++ [c])∧val (o ++ [c])=val a+val b:=by
 have hc:=h.car
 have hv:=h.vl
 rw [dV h1,dV h2] at hv
 exact ⟨yP h.low (by omega),by rw [zI,h.len];exact hv⟩
structure VO (a o:List Nat) (d k c:Nat):Prop where
 len:o.length=k
 low:Low o
 vl:val o+BB ^ k * c=val (a.take k) * d
 car:c≤999999999
theorem VO.zero (a:List Nat) (d:Nat):VO a [] d 0 0:=⟨rfl,Low.nil,by simp [val],by omega⟩
theorem VO.step {a o:List Nat} {d k c r q:Nat} (h:VO a o d k c) (hs:gr a k * d+c=r+1000000000 * q) (hr:r≤999999999) (hq:q≤999999999):VO a (o ++ [r]) d (k+1) q:=by
 refine ⟨by simp [h.len],yP h.low hr,?_,hq⟩
 rw [zI,aZ,h.len,Nat.pow_succ]
 have:=h.vl
 simp only [bG] at *
 have e:1000000000 ^ k * (gr a k * d+c)=1000000000 ^ k * (r+1000000000 * q):=by rw [hs]
 grind
theorem VO.done {a o:List Nat} {d k c:Nat} (h:VO a o d k c) (h1:a.length≤k):Low (o ++ [c])∧val (o ++ [c])=val a * d:=by
 have hv:=h.vl
 rw [dV h1] at hv
 exact ⟨yP h.low h.car,by rw [zI,h.len];exact hv⟩
structure MInv (a b o:List Nat) (k c:Nat):Prop where
 len:o.length=k
 low:Low o
 vl:val o+val (b.take k)=val (a.take k)+BB ^ k * c
 car:c≤1
theorem MInv.zero (a b:List Nat):MInv a b [] 0 0:=⟨rfl,Low.nil,by simp [val],by omega⟩
theorem MInv.step {a b o:List Nat} {k c r c':Nat} (h:MInv a b o k c) (hs:r+gr b k+c=gr a k+1000000000 * c') (hr:r≤999999999) (hc:c'≤1):MInv a b (o ++ [r]) (k+1) c':=by
 refine ⟨by simp [h.len],yP h.low hr,?_,hc⟩
 rw [zI,aZ,aZ,h.len,Nat.pow_succ]
 have:=h.vl
 simp only [bG] at *
 have e:1000000000 ^ k * (r+gr b k+c)=1000000000 ^ k * (gr a k+1000000000 * c'):=by rw [hs]
 grind
theorem MInv.done {a b o:List Nat} {k c:Nat} (h:MInv a b o k c) (h1:a.length≤k) (h2:b.length≤k) (hle:val b≤val a):val o=val a - val b:=by
 have hv:=h.vl
 rw [dV h1,dV h2] at hv
 have hl:=nS h.low
 rw [h.len] at hl
 have hc:=h.car
 rcases Nat.eq_zero_or_pos c with h0 | h0
 ·subst h0;simp at hv;omega
 ·have:c=1:=by omega
  subst this
  simp at hv
  omega
structure VN (a o:List Nat) (d k r:Nat):Prop where
 len:o.length=a.length
 low:Low (o.drop k)
 vl:val (a.drop k)=val (o.drop k) * d+r
 rest:r < d
theorem kE {a:List Nat} {k:Nat} (hk:k < a.length):val (a.drop k)=gr a k+BB * val (a.drop (k+1)):=by
 rw [List.drop_eq_getElem_cons hk,bW,nZ hk]
theorem VN.start (a:List Nat) {d:Nat} (hd:0 < d):VN a (List.replicate a.length 0) d a.length 0:=⟨by simp,by simp [Low.nil],by simp [val],hd⟩
theorem VN.step {a o:List Nat} {d k r q r':Nat} (h:VN a o d (k+1) r) (hk:k < a.length) (hn:r * 1000000000+gr a k=q * d+r') (hr:r' < d) (ha:gr a k≤999999999):VN a (o.set k q) d k r'∧q≤999999999:=by
 have hq:q≤999999999:=by
  rcases Nat.lt_or_ge 999999999 q with h1 | h1
  ·exfalso
   have e1:1000000000 * d≤q * d:=Nat.mul_le_mul_right _ h1
   have e2:=h.rest
   have e3:(r+1) * 1000000000≤d * 1000000000:=Nat.mul_le_mul_right _ e2
   rw [Nat.add_mul] at e3
   rw [Nat.mul_comm d] at e3
   omega
  ·exact h1
 have hl:k < o.length:=by rw [h.len];exact hk
 have hs:(o.set k q).drop k=q :: o.drop (k+1):=by
  rw [List.drop_eq_getElem_cons (by simpa using hl),List.drop_set_of_lt (by omega)]
  simp
 refine ⟨⟨by simp [h.len],?_,?_,hr⟩,hq⟩
 ·rw [hs];exact Low.cons.2 ⟨by rw [bG];omega,h.low⟩
 ·rw [hs,kE hk,h.vl,bW,bG]
  grind
theorem VN.done {a o:List Nat} {d r:Nat} (h:VN a o d 0 r):Low o∧val o=val a / d∧r=val a % d:=by
 have h1:=h.vl
 simp at h1
 have hr:=h.rest
 have hl:=h.low
 simp at hl
 refine ⟨hl,?_,?_⟩
 ·rw [h1,Nat.mul_comm,Nat.mul_add_div (by omega),Nat.div_eq_of_lt hr];simp
 ·rw [h1,Nat.mul_comm,Nat.mul_add_mod,Nat.mod_eq_of_lt hr]
end Go.Proofs.YtidfgdchcpmnfaaGreat
namespace Go.Proofs.YtidfgdchcpmnfaaGreat
open Go.RowKit
set_option maxRecDepth 100000
set_option maxHeartbeats 2000000
set_option linter.unusedSimpArgs false
set_option linter.unusedVariables false
theorem gX:∀ (a b:Value) (w:World),Sem.run Tryz.prog (Instr.field 28 (.agg #[a,b]) 1) w=.ok b w:=fun a b w=>by kernel_rfl
theorem bU.rd {w:World} {b s:Value} {x:Int} (h:bU w (.agg #[b,s]) x):Rd w s (dig x.natAbs):=by
 obtain ⟨s',e,h⟩:=h;cases e;exact h
theorem group_any (s:Value) (l:List Nat) (i:Int) (w:World) (hs:Rd w s l) (hl:Low l) (h0:0≤i) :
  Calls Tryz.prog 160 #[s,.int .i64 i] w fun e w'=>e=.returned (.int .u64 (gr l i.toNat:Nat))∧w=w':=by
 obtain ⟨n,rfl⟩:=Int.eq_ofNat_of_zero_le h0
 rw [Int.toNat_natCast]
 clear h0
 have hg:=gB hl n
 rcases hs with ⟨p,rfl,rfl⟩ | ⟨b,o,c,rfl,h2,h3,h4,h5⟩
 ·have h8:decide ((n:Int) < 0)=false:=by simp
  go_enter Tryz.func160,Tryz.ntmps160
  go_wp2_with fail
  go_ret
  exact ⟨by simp [gr],rfl⟩
 ·by_cases hn:n < l.length
  ·have h6:=h5 n hn
   clear h5
   go_enter Tryz.func160,Tryz.ntmps160
   go_wp2
   go_ret
   exact ⟨rfl,rfl⟩
  ·clear h5
   go_enter Tryz.func160,Tryz.ntmps160
   go_wp2
   go_ret
   exact ⟨by rw [uJ (by omega)];rfl,rfl⟩
theorem zZ (s:Value) (l:List Nat) (k:Nat) (w:World) (hs:Rd w s l) (hl:Low l) :
  Calls Tryz.prog 160 #[s,.int .i64 (k:Nat)] w fun e w'=>e=.returned (.int .u64 (gr l k:Nat))∧w=w':=by
 have:=group_any s l k w hs hl (by omega)
 rwa [Int.toNat_natCast] at this
theorem lT (l:List Nat) (g:Nat):cells32 l ++ [.int .u32 (g:Nat)]=cells32 (l ++ [g]):=by simp [cells32]
theorem a5M (s t:Value) (a b:List Nat) (w:World) (hs:Rd w s a) (ht:Rd w t b) (ha:Low a) (hb:Low b) (la:a.length≤1000000000) (lb:b.length≤1000000000) :
  Calls Tryz.prog 128 #[s,t] w (a8Y (dig (val a+val b)) w):=by
 obtain ⟨i0,hi,hz0,hz1,hz2⟩:=info_parts iF
 obtain ⟨p,c,rfl,_,_⟩:=hs.form
 obtain ⟨q,d,rfl,_,_⟩:=ht.form
 have HA:=Lib.hid ha
 have HB:=Lib.hid hb
 clear ha hb
 have hf1:=gX
 have hO:=zW w
 have hB0:Below w.heap.size w (w.alloc (.cells #[] 118)):=(Below.refl _ _).alloc (Nat.le_refl _) _
 go_enter Tryz.func128,Tryz.ntmps128
 go_wp2_with fail
 go_loopw [5,6,7,8,10,11,12,13,14,15,16,17,18,19,20,21,22,23,24,25,26,27,28,29,30,31,32,33,34,35,36,37,38] (fun v cc i _ _ _ _ _ _ _ _ _ _ _ _ _ _ _ _ _ _ _ _ _ _ _ _ _ _ _ _ _ _ wr=>∃ (k e:Nat) (o:List Nat),k≤max a.length b.length∧i=.int .i64 (k:Nat)∧cc=.int .u64 (e:Nat)∧VL a b o k e∧wr.ownsRow w.heap.size 118 1 v k (cells32 o)∧Below w.heap.size w wr) (fun _ _ i _ _ _ _ _ _ _ _ _ _ _ _ _ _ _ _ _ _ _ _ _ _ _ _ _ _ _ _ _ _ _=>max a.length b.length - (intOf i).toNat)
 case atStart=>exact ⟨0,0,[],by omega,rfl,rfl,VL.zero a b,hO,hB0⟩
 case round =>
  obtain ⟨k,e,o,hk,rfl,rfl,hI,hown,hB⟩:=hrel
  have ga:gr a k≤999999999:=gB HA.out k
  have gb:gr b k≤999999999:=gB HB.out k
  have ge:e≤1:=hI.car
  have hsz:=hB.size
  by_cases hlt:k < a.length ∨ k < b.length
  ·have hN:=fun r q=>hI.step (r:=r) (q:=q) ga gb
   obtain ⟨r,hr⟩:∃ r,(gr a k+gr b k+e) % 1000000000=r:=⟨_,rfl⟩
   obtain ⟨m,hm⟩:∃ m,(gr a k+gr b k+e) / 1000000000=m:=⟨_,rfl⟩
   have hN:=hI.step (r:=r) (q:=m) ga gb (by omega) (by omega)
   have hr2:((gr a k:Int)+gr b k+e) % 1000000000=r:=by omega
   have hm2:((gr a k:Int)+gr b k+e) / 1000000000=m:=by omega
   have hr3:r≤999999999:=by omega
   have HN:=Lib.hid hN
   clear hr hm hN
   have hlt2:k+1≤max a.length b.length:=by omega
   have hd1:decide (k < a.length)=true ∨ (decide (k < a.length)=false∧decide (k < b.length)=true):=by
    by_cases h:k < a.length
    ·left;simpa using h
    ·right;exact ⟨by simpa using h,by simp;omega⟩
   clear hlt
   by_cases hka:k < a.length
   all_goals
    (try have hkb:k < b.length:=by omega)
    clear hd1
    go_wp2_with fail
    refine (zZ _ a k _ (hs.below hB) HA.out).mono ?_
    rintro e' w' ⟨rfl,rfl⟩
    go_wp2_with fail
    refine (zZ _ b k _ (ht.below hB) HB.out).mono ?_
    rintro e' w' ⟨rfl,rfl⟩
    go_wp2_with (at_builtin;refine wpList_append_own _ rfl _ _ 26 rfl w.heap.size 118 i0 (.int .u32 0) 1 4 Tryz.underlying26 hi hz0 hz1 hz2 rfl (by decide) _ _ _ rfl (hown.alloc _) ⟨wr.heap.size,0,none⟩ 1 1 [.int .u32 (r:Nat)] rfl rfl (cell_one_new _ _ _) (by simp [Value.oneCell']) (by unfold maxLen;omega) (by omega) (by simp;omega) ?_)
    intro v' w1 hown' hgrow _
    rw [lT] at hown'
    have hB1:Below w.heap.size w w1:=(hB.alloc hsz _).grown hgrow (by simp;omega) (fun j e=>(hown.lt j e).1)
    clear hgrow
    go_wp2_with fail
    go_roundw
    case rel=>exact ⟨k+1,m,o ++ [r],hlt2,by go_num,by rw [hm2],HN.out,hown',hB1⟩
    case measure=>simp [intOf];omega
  ·have hka:¬ k < a.length:=by omega
   have hkb:¬ k < b.length:=by omega
   have hD:=hI.done (by omega) (by omega)
   have HV:Hid (sg false (val (o ++ [e]))=((val a+val b:Nat):Int)):=by unfold Hid;rw [hD.2];rfl
   clear hlt
   go_wp2_with (at_builtin;refine wpList_append_own _ rfl _ _ 26 rfl w.heap.size 118 i0 (.int .u32 0) 1 4 Tryz.underlying26 hi hz0 hz1 hz2 rfl (by decide) _ _ _ rfl (hown.alloc _) ⟨wr.heap.size,0,none⟩ 1 1 [.int .u32 (e:Nat)] rfl rfl (cell_one_new _ _ _) (by simp [Value.oneCell']) (by unfold maxLen;omega) (by omega) (by simp;omega) ?_)
   intro v' w1 hown' hgrow _
   rw [lT] at hown'
   have hB1:Below w.heap.size w w1:=(hB.alloc hsz _).grown hgrow (by simp;omega) (fun j e=>(hown.lt j e).1)
   clear hgrow
   have hR:=Rd.bY (l:=o ++ [e]) (by rw [List.length_append,hI.len];exact hown')
   go_wp2_with fail
   refine (oU false _ _ _ hR hD.1 (by rw [List.length_append,hI.len];simp;omega)).mono ?_
   rw [HV.out]
   rintro e2 w2 ⟨g2,p2,n2,c2,rfl,hi2,hfr2,hb2⟩
   have hR2:=hi2.rd
   go_wp2_with fail
   go_ret
   exact ⟨_,rfl,hR2,fun k hk=>Nat.le_trans hB1.size (hfr2 k hk),hB1.trans (hb2.mono hB1.size)⟩
end Go.Proofs.YtidfgdchcpmnfaaGreat
namespace Go.Proofs.YtidfgdchcpmnfaaGreat
open Go.RowKit
set_option maxRecDepth 100000
set_option maxHeartbeats 2000000
set_option linter.unusedSimpArgs false
set_option linter.unusedVariables false
theorem zC (s:Value) (a:List Nat) (d:Nat) (w:World) (hs:Rd w s a) (ha:Low a) (la:a.length≤1000000001) (hd:d≤999999999) :
  Calls Tryz.prog 172 #[s,.int .u64 (d:Nat)] w (a8Y (dig (val a * d)) w):=by
 obtain ⟨i0,hi,hz0,hz1,hz2⟩:=info_parts iF
 obtain ⟨p,c,rfl,_,_⟩:=hs.form
 have HA:=Lib.hid ha
 clear ha
 have hf1:=gX
 have hO:=zW w
 have hB0:Below w.heap.size w (w.alloc (.cells #[] 118)):=(Below.refl _ _).alloc (Nat.le_refl _) _
 go_enter Tryz.func172,Tryz.ntmps172
 go_wp2_with fail
 go_loopw [5,6,7,8,10,11,12,13,14,15,16,17,18,19,20,21,22,23,24,25,26,27,28,29,30,31,32] (fun v cc i _ _ _ _ _ _ _ _ _ _ _ _ _ _ _ _ _ _ _ _ _ _ _ _ wr=>∃ (k e:Nat) (o:List Nat),k≤a.length∧i=.int .i64 (k:Nat)∧cc=.int .u64 (e:Nat)∧VO a o d k e∧wr.ownsRow w.heap.size 118 1 v k (cells32 o)∧Below w.heap.size w wr) (fun _ _ i _ _ _ _ _ _ _ _ _ _ _ _ _ _ _ _ _ _ _ _ _ _ _ _ _=>a.length - (intOf i).toNat)
 case atStart=>exact ⟨0,0,[],by omega,rfl,rfl,VO.zero a d,hO,hB0⟩
 case round =>
  obtain ⟨k,e,o,hk,rfl,rfl,hI,hown,hB⟩:=hrel
  have ga:gr a k≤999999999:=gB HA.out k
  have ge:e≤999999999:=hI.car
  have hsz:=hB.size
  by_cases hlt:k < a.length
  ·obtain ⟨ba,oa,rfl,hba,hca⟩:=hs.at (by intro e;subst e;simp at hlt)
   have hcell:wr.cell? ⟨ba,oa+k,none⟩=some (.int .u32 (gr a k:Nat)):=(hB.cell (p:=⟨ba,oa+k,none⟩) hba).trans (hca k hlt)
   clear hca
   obtain ⟨x,hx⟩:∃ x:Nat,(gr a k:Int) * d=x:=⟨gr a k * d,by simp⟩
   have hx2:gr a k * d=x:=by
    have h2:((gr a k * d:Nat):Int)=x:=by rw [← hx];simp
    omega
   have hx3:x≤999999998000000001:=by
    have h1:gr a k * d≤999999999 * 999999999:=Nat.mul_le_mul ga hd
    omega
   obtain ⟨r,hr⟩:∃ r,(x+e) % 1000000000=r:=⟨_,rfl⟩
   obtain ⟨m,hm⟩:∃ m,(x+e) / 1000000000=m:=⟨_,rfl⟩
   have hN:=hI.step (r:=r) (q:=m) (by omega) (by omega) (by omega)
   have hr2:((x:Int)+e) % 1000000000=r:=by omega
   have hm2:((x:Int)+e) / 1000000000=m:=by omega
   have hr3:r≤999999999:=by omega
   have HN:=Lib.hid hN
   clear hr hm hN hx2
   have hlt2:k+1≤a.length:=by omega
   go_wp2_with (at_builtin;refine wpList_append_own _ rfl _ _ 26 rfl w.heap.size 118 i0 (.int .u32 0) 1 4 Tryz.underlying26 hi hz0 hz1 hz2 rfl (by decide) _ _ _ rfl (hown.alloc _) ⟨wr.heap.size,0,none⟩ 1 1 [.int .u32 (r:Nat)] rfl rfl (cell_one_new _ _ _) (by simp [Value.oneCell']) (by unfold maxLen;omega) (by omega) (by simp;omega) ?_)
   intro v' w1 hown' hgrow _
   rw [lT] at hown'
   have hB1:Below w.heap.size w w1:=(hB.alloc hsz _).grown hgrow (by simp;omega) (fun j e=>(hown.lt j e).1)
   clear hgrow
   go_wp2_with fail
   go_roundw
   case rel=>exact ⟨k+1,m,o ++ [r],hlt2,by go_num,by rw [hm2],HN.out,hown',hB1⟩
   case measure=>simp [intOf];omega
  ·obtain rfl:k=a.length:=by omega
   have hD:=hI.done (Nat.le_refl _)
   have HV:Hid (sg false (val (o ++ [e]))=((val a * d:Nat):Int)):=by unfold Hid;rw [hD.2];rfl
   clear hlt
   go_wp2_with (at_builtin;refine wpList_append_own _ rfl _ _ 26 rfl w.heap.size 118 i0 (.int .u32 0) 1 4 Tryz.underlying26 hi hz0 hz1 hz2 rfl (by decide) _ _ _ rfl (hown.alloc _) ⟨wr.heap.size,0,none⟩ 1 1 [.int .u32 (e:Nat)] rfl rfl (cell_one_new _ _ _) (by simp [Value.oneCell']) (by unfold maxLen;omega) (by omega) (by simp;omega) ?_)
   intro v' w1 hown' hgrow _
   rw [lT] at hown'
   have hB1:Below w.heap.size w w1:=(hB.alloc hsz _).grown hgrow (by simp;omega) (fun j e=>(hown.lt j e).1)
   clear hgrow
   have hR:=Rd.bY (l:=o ++ [e]) (by rw [List.length_append,hI.len];exact hown')
   go_wp2_with fail
   refine (oU false _ _ _ hR hD.1 (by rw [List.length_append,hI.len];simp;omega)).mono ?_
   rw [HV.out]
   rintro e2 w2 ⟨g2,p2,n2,c2,rfl,hi2,hfr2,hb2⟩
   have hR2:=hi2.rd
   go_wp2_with fail
   go_ret
   exact ⟨_,rfl,hR2,fun k hk=>Nat.le_trans hB1.size (hfr2 k hk),hB1.trans (hb2.mono hB1.size)⟩
theorem wG (s t:Value) (a b:List Nat) (w:World) (hs:Rd w s a) (ht:Rd w t b) (ha:Low a) (hb:Low b) (la:a.length≤1000000002) (lb:b.length≤a.length) (hle:val b≤val a) :
  Calls Tryz.prog 130 #[s,t] w (a8Y (dig (val a - val b)) w):=by
 obtain ⟨i0,hi,hz0,hz1,hz2⟩:=info_parts iF
 obtain ⟨p,c,rfl,_,_⟩:=hs.form
 obtain ⟨q,d,rfl,_,_⟩:=ht.form
 have HA:=Lib.hid ha
 have HB:=Lib.hid hb
 have HLE:=Lib.hid hle
 clear ha hb hle
 have hf1:=gX
 have hO:=zW w
 have hB0:Below w.heap.size w (w.alloc (.cells #[] 118)):=(Below.refl _ _).alloc (Nat.le_refl _) _
 go_enter Tryz.func130,Tryz.ntmps130
 go_wp2_with fail
 go_loopw [5,6,7,8,10,11,12,13,14,15,16,17,18,19,20,21,22,23,24,25,26,27,28,29,30,31,32,33] (fun v cc i _ _ _ _ _ _ _ _ _ _ _ _ _ _ _ _ _ _ _ _ _ _ _ _ _ wr=>∃ (k e:Nat) (o:List Nat),k≤a.length∧i=.int .i64 (k:Nat)∧cc=.int .u64 (e:Nat)∧MInv a b o k e∧wr.ownsRow w.heap.size 118 1 v k (cells32 o)∧Below w.heap.size w wr) (fun _ _ i _ _ _ _ _ _ _ _ _ _ _ _ _ _ _ _ _ _ _ _ _ _ _ _ _ _=>a.length - (intOf i).toNat)
 case atStart=>exact ⟨0,0,[],by omega,rfl,rfl,MInv.zero a b,hO,hB0⟩
 case round =>
  obtain ⟨k,e,o,hk,rfl,rfl,hI,hown,hB⟩:=hrel
  have ga:gr a k≤999999999:=gB HA.out k
  have gb:gr b k≤999999999:=gB HB.out k
  have ge:e≤1:=hI.car
  have hsz:=hB.size
  by_cases hlt:k < a.length
  ·obtain ⟨x,hx⟩:∃ x:Nat,x+gr b k+e=1000000000+gr a k:=⟨1000000000+gr a k - gr b k - e,by omega⟩
   obtain ⟨r,hr⟩:∃ r,x % 1000000000=r:=⟨_,rfl⟩
   obtain ⟨m,hm⟩:∃ m,x / 1000000000=m:=⟨_,rfl⟩
   obtain ⟨y,hy⟩:∃ y,y+m=1:=⟨1 - m,by omega⟩
   have hN:=hI.step (r:=r) (c':=y) (by omega) (by omega) (by omega)
   have hr2:((1000000000:Int)+gr a k - gr b k - e) % 1000000000=r:=by omega
   have hm2:((1000000000:Int)+gr a k - gr b k - e) / 1000000000=m:=by omega
   have hy2:(1:Int) - m=y:=by omega
   have hr3:r≤999999999:=by omega
   have hm3:m≤1:=by omega
   have HN:=Lib.hid hN
   have HY:=Lib.hid hy2
   clear hr hm hN hx hy hy2
   have hlt2:k+1≤a.length:=by omega
   go_wp2_with fail
   refine (zZ _ a k _ (hs.below hB) HA.out).mono ?_
   rintro e' w' ⟨rfl,rfl⟩
   go_wp2_with fail
   refine (zZ _ b k _ (ht.below hB) HB.out).mono ?_
   rintro e' w' ⟨rfl,rfl⟩
   go_wp2_with (at_builtin;refine wpList_append_own _ rfl _ _ 26 rfl w.heap.size 118 i0 (.int .u32 0) 1 4 Tryz.underlying26 hi hz0 hz1 hz2 rfl (by decide) _ _ _ rfl (hown.alloc _) ⟨wr.heap.size,0,none⟩ 1 1 [.int .u32 (r:Nat)] rfl rfl (cell_one_new _ _ _) (by simp [Value.oneCell']) (by unfold maxLen;omega) (by omega) (by simp;omega) ?_)
   intro v' w1 hown' hgrow _
   rw [lT] at hown'
   have hB1:Below w.heap.size w w1:=(hB.alloc hsz _).grown hgrow (by simp;omega) (fun j e=>(hown.lt j e).1)
   clear hgrow
   go_wp2_with fail
   go_roundw
   case rel=>exact ⟨k+1,y,o ++ [r],hlt2,by go_num,by rw [← HY.out],HN.out,hown',hB1⟩
   case measure=>simp [intOf];omega
  ·obtain rfl:k=a.length:=by omega
   have hD:=hI.done (Nat.le_refl _) lb HLE.out
   have hlow:=hI.low
   have hlen:=hI.len
   have HV:Hid (sg false (val o)=((val a - val b:Nat):Int)):=by unfold Hid;rw [hD];rfl
   have hR:=Rd.bY (l:=o) (by rw [hlen];exact hown)
   clear hlt hD
   go_wp2_with fail
   refine (oU false _ _ _ hR hlow (by rw [hlen];omega)).mono ?_
   rw [HV.out]
   rintro e2 w2 ⟨g2,p2,n2,c2,rfl,hi2,hfr2,hb2⟩
   have hR2:=hi2.rd
   go_wp2_with fail
   go_ret
   exact ⟨_,rfl,hR2,fun k hk=>Nat.le_trans hB.size (hfr2 k hk),hB.trans (hb2.mono hB.size)⟩
end Go.Proofs.YtidfgdchcpmnfaaGreat
namespace Go.Proofs.YtidfgdchcpmnfaaGreat
open Go.RowKit
set_option maxRecDepth 100000
set_option maxHeartbeats 2000000
set_option linter.unusedSimpArgs false
set_option linter.unusedVariables false
theorem QE (s:Value) (a:List Nat) (d:Nat) (w:World) (hs:Rd w s a) (ha:Low a) (la:a.length≤2000000000) (hd:1≤d) (hd2:d≤999999999) :
  Calls Tryz.prog 171 #[s,.int .u64 (d:Nat)] w fun e w'=>∃ v,e=.returned (.tuple #[v,.int .u64 (val a % d:Nat)])∧Rd w' v (dig (val a / d))∧Below w.heap.size w w':=by
 obtain ⟨i0,hi,hz0,hz1,hz2⟩:=info_parts iF
 obtain ⟨p,c,rfl,_,_⟩:=hs.form
 have HA:=Lib.hid ha
 clear ha
 have hf1:=gX
 obtain ⟨n,hn⟩:∃ n,a.length=n:=⟨_,rfl⟩
 rw [hn] at hs la ⊢
 have HNL:=Lib.hid hn
 clear hn
 go_enter Tryz.func171,Tryz.ntmps171
 go_wp2_with (at_make;refine wpList_make_full _ rfl _ _ 26 rfl w.heap.size 118 i0 (.int .u32 0) 1 Tryz.underlying26 hi hz0 hz1 _ _ _ _ n rfl rfl (by omega) (by omega) (by rw [hz2];omega) (by unfold maxLen;omega) (Nat.le_refl _) ?_)
 intro w1 hown hgrow
 rw [jB] at hown
 have hB1:Below w.heap.size w w1:=(Below.refl _ _).grown hgrow (Nat.le_refl _) (fun k e=>by cases e)
 clear hgrow
 go_wp2
 go_loopw [7,8,9,16,17,18,19,20,21,22,23,24,25,26,27,28,29,30,31,32,33,34,35,36,37] (fun rr i _ _ _ _ _ _ _ _ _ _ _ _ _ _ _ _ _ _ _ _ _ _ _ wr=>∃ (k r:Nat) (i':Int) (o:List Nat),i=.int .i64 i'∧Hid (i'=(k:Int) - 1)∧k≤n∧rr=.int .u64 (r:Nat)∧Hid (VN a o d k r)∧wr.ownsRow w.heap.size 118 1 (.slice (some ⟨w.heap.size,0,none⟩) n n) n (cells32 o)∧Below w.heap.size w wr) (fun _ i _ _ _ _ _ _ _ _ _ _ _ _ _ _ _ _ _ _ _ _ _ _ _ _=>(intOf i+1).toNat)
 case atStart=>exact ⟨n,0,_,_,rfl,rfl,Nat.le_refl _,rfl,by have:=HNL.out;subst this;exact VN.start a hd,hown,hB1⟩
 case round =>
  obtain ⟨k,r,i',o,rfl,hk',hkn,rfl,hI,hO,hB⟩:=hrel
  cases k with
  | zero =>
   obtain rfl:i'=-1:=by have:=hk'.out;simpa using this
   have hD:=hI.out.done
   have hlen:o.length=n:=by have:=hI.out.len;rw [HNL.out] at this;exact this
   have HV:Hid (sg false (val o)=((val a / d:Nat):Int)):=by unfold Hid;rw [hD.2.1];rfl
   have HR2:=Lib.hid hD.2.2
   have hlow:=hD.1
   have hR:=Rd.bY (l:=o) (by rw [hlen];exact hO)
   have HLEN:=Lib.hid hlen
   clear hD hlen
   go_wp2_with fail
   refine (gW false _ _ _ hR hlow (by rw [HLEN.out];omega)).mono ?_
   rw [HV.out]
   rintro e2 w2 ⟨v2,rfl,hi2,hb2⟩
   obtain ⟨g2,p2,n2,c2,rfl⟩:=hi2.form
   have hR3:=hi2.rd
   go_wp2_with fail
   go_ret2
   exact ⟨_,by rw [HR2.out];rfl,hR3,hB.trans (hb2.mono hB.size)⟩
  | succ k =>
   obtain rfl:i'=(k:Int):=by have:=hk'.out;simp at this;omega
   have ga:gr a k≤999999999:=gB HA.out k
   have hkl:k < a.length:=by have:=HNL.out;omega
   obtain ⟨ba,oa,rfl,hba,hca⟩:=hs.at (by intro e;subst e;simp at hkl)
   have hcell:wr.cell? ⟨ba,oa+k,none⟩=some (.int .u32 (gr a k:Nat)):=(hB.cell (p:=⟨ba,oa+k,none⟩) hba).trans (hca k hkl)
   clear hca
   have hr:r≤999999998:=by have:=hI.out.rest;omega
   obtain ⟨x,hx⟩:∃ x:Nat,(r:Int) * 1000000000+gr a k=x:=⟨r * 1000000000+gr a k,by simp⟩
   have hxn:r * 1000000000+gr a k=x:=by omega
   have hx3:x≤999999998999999999:=by omega
   obtain ⟨q,hq⟩:∃ q,x / d=q:=⟨_,rfl⟩
   obtain ⟨m,hm⟩:∃ m,x % d=m:=⟨_,rfl⟩
   have hqm:x=q * d+m:=by rw [← hq,← hm,Nat.mul_comm];exact (Nat.div_add_mod x d).symm
   have hmd:m < d:=by rw [← hm];exact Nat.mod_lt _ (by omega)
   have hN:=hI.out.step (q:=q) (r':=m) hkl (by omega) hmd ga
   have hq3:q≤999999999:=hN.2
   have HN:=Lib.hid hN.1
   have a7v:=fun w=>PV (n:=x) (d:=d) (v:=q) hd (by omega) (by rw [← hq];simp) (wrap_u64 (by omega)) w
   have a7w:=fun w=>EX (n:=x) (d:=d) (v:=m) hd (by omega) (by rw [← hm];simp) (wrap_u64 (by omega)) w
   have hdz:((d:Int) == 0)=false:=by simp;omega
   have i1:(x:Int) / d=q:=by rw [← hq];simp
   have i2:(x:Int) % d=m:=by rw [← hm];simp
   have w1':IntKind.u64.wrap (q:Int)=q:=wrap_u64 (by omega)
   have w2':(q:Int) % 4294967296=q:=by omega
   have hlo:o.length=n:=by have:=hI.out.len;rw [HNL.out] at this;exact this
   have hcl:wr.cell? ⟨w.heap.size,k,none⟩=some (.int .u32 (gr o k:Nat)):=by
    rw [hO.cellAt k (by omega)];exact dZ (by omega)
   have hfr:=hO.frozenAt k
   have hst:=hO.stored k (.int .u32 (q:Nat))
   rw [fJ] at hst
   have HST:=Lib.hid hst
   have hkn2:(k:Int) < n:=by omega
   clear hN hq hm hqm hxn hst hlo
   go_wp2_with fail
   go_roundw
   case rel=>exact ⟨k,m,_,_,rfl,rfl,by omega,by rw [i2],HN,HST.out.1,hB.setCell (p:=⟨w.heap.size,k,none⟩) (Nat.le_refl _) _⟩
   case measure=>simp [intOf]
theorem a8x (p q:Option Addr) (c d n:Nat) (a b:List Nat) (w:World) (hs:Rd w (.slice p n c) a) (ht:Rd w (.slice q n d) b) (ha:Low a) (hb:Low b) (la:a.length=n) (lb:b.length=n) (hn:n≤2000000000) :
  Calls Tryz.prog 129 #[.slice p n c,.slice q n d] w fun e w'=>e=.returned (.int .i64 (dA (val a) (val b)))∧Below w.heap.size w w':=by
 have HA:=Lib.hid ha
 have HB:=Lib.hid hb
 have HLA:=Lib.hid la
 have HLB:=Lib.hid lb
 clear ha hb la lb
 go_enter Tryz.func129,Tryz.ntmps129
 go_wp2_with fail
 go_loopw [5,19,20,21,22,23,24,25,26,27,28,29,30,31,32,33,34,35,36,37,38,39,40] (fun i _ _ _ _ _ _ _ _ _ _ _ _ _ _ _ _ _ _ _ _ _ _ wr=>∃ (k:Nat) (i':Int),i=.int .i64 i'∧Hid (i'=(k:Int) - 1)∧k≤n∧Hid (∀ j,k≤j→gr a j=gr b j)∧Below w.heap.size w wr) (fun i _ _ _ _ _ _ _ _ _ _ _ _ _ _ _ _ _ _ _ _ _ _ _=>(intOf i+1).toNat)
 case atStart=>exact ⟨n,_,rfl,rfl,Nat.le_refl _,fun j hj=>by have:=HLA.out;have:=HLB.out;rw [uJ (by omega),uJ (by omega)],Below.refl _ _⟩
 case round =>
  obtain ⟨k,i',rfl,hk',hkn,hI,hB⟩:=hrel
  cases k with
  | zero =>
   obtain rfl:i'=-1:=by have:=hk'.out;simpa using this
   have hab:a=b:=by
    have:=uD (i:=0) (a:=a) (b:=b) (by rw [HLA.out,HLB.out]) (fun j _=>hI.out j (by omega))
    simpa using this
   have HV:Hid (dA (val a) (val b)=0):=by unfold Hid;rw [hab];unfold dA;simp
   clear hab
   go_wp2_with fail
   go_ret
   exact ⟨fE HV.out.symm,hB⟩
  | succ k =>
   obtain rfl:i'=(k:Int):=by have:=hk'.out;simp at this;omega
   have hka:k < a.length:=by have:=HLA.out;omega
   have hkb:k < b.length:=by have:=HLB.out;omega
   obtain ⟨ba,oa,rfl,hba,hca⟩:=hs.at (by intro e;subst e;simp at hka)
   obtain ⟨bb,ob,rfl,hbb,hcb⟩:=ht.at (by intro e;subst e;simp at hkb)
   have hc1:wr.cell? ⟨ba,oa+k,none⟩=some (.int .u32 (gr a k:Nat)):=(hB.cell (p:=⟨ba,oa+k,none⟩) hba).trans (hca k hka)
   have hc2:wr.cell? ⟨bb,ob+k,none⟩=some (.int .u32 (gr b k:Nat)):=(hB.cell (p:=⟨bb,ob+k,none⟩) hbb).trans (hcb k hkb)
   have ga:gr a k≤999999999:=gB HA.out k
   have gb:gr b k≤999999999:=gB HB.out k
   have hdr:=uD (i:=k+1) (a:=a) (b:=b) (by rw [HLA.out,HLB.out]) (fun j hj=>hI.out j hj)
   have h0:(0:Int)≤k:=by omega
   have h1:(k:Int) < n:=by omega
   clear hca hcb hka hkb
   rcases Nat.lt_trichotomy (gr a k) (gr b k) with h | h | h
   ·have hv:=AX HA.out (by rw [hdr]) h
    have HV:Hid (dA (val a) (val b)=-1):=by unfold Hid dA;rw [if_pos (by omega)]
    clear hdr hv
    generalize gr a k=x at *
    generalize gr b k=y at *
    have d1:decide (x < y)=true:=by simpa using h
    have d2:decide ((x:Int) < y)=true:=by simpa using h
    go_wp2_with fail
    go_quiet (fail)
    go_wp2_with fail
    go_ret
    exact ⟨fE HV.out.symm,by first | exact Below.nY hB _ | exact Below.nY (Below.nY hB _) _⟩
   ·have HE:=Lib.hid h
    clear hdr
    have d1:decide (gr a k < gr b k)=false:=by simp;omega
    have d3:decide (gr b k < gr a k)=false:=by simp;omega
    generalize hxx:gr a k=x at *
    generalize hyy:gr b k=y at *
    have HXX:=Lib.hid hxx
    have HYY:=Lib.hid hyy
    clear h hxx hyy
    go_wp2_with fail
    go_quiet (fail)
    go_wp2_with fail
    go_quiet (fail)
    go_wp2_with fail
    go_roundw
    case rel=>exact ⟨k,_,rfl,rfl,by omega,fun j hj=>if e:j=k then by rw [e,HXX.out,HYY.out];exact HE.out else hI.out j (by omega),Below.nY hB _⟩
    case measure=>simp [intOf]
   ·have hv:=AX (i:=k) HB.out (by rw [hdr]) h
    have HV:Hid (dA (val a) (val b)=1):=by unfold Hid dA;rw [if_neg (by omega),if_pos (by omega)]
    clear hdr hv
    generalize gr a k=x at *
    generalize gr b k=y at *
    have d1:decide (x < y)=false:=by simp;omega
    have d3:decide (y < x)=true:=by simpa using h
    go_wp2_with fail
    go_quiet (fail)
    go_wp2_with fail
    go_quiet (fail)
    go_wp2_with fail
    go_ret
    exact ⟨fE HV.out.symm,by first | exact Below.nY hB _ | exact Below.nY (Below.nY hB _) _⟩
end Go.Proofs.YtidfgdchcpmnfaaGreat
