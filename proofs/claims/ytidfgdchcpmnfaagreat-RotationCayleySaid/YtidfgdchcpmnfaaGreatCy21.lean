/-
  Lemmas for the theorem vcayley_holds, part 21 of 33.
-/
import Derived.Orders
import Derived.Test.YtidfgdchcpmnfaaGreatCy02
import Derived.Test.YtidfgdchcpmnfaaGreatCy05
import Derived.Test.YtidfgdchcpmnfaaGreatCy06
import Derived.Test.YtidfgdchcpmnfaaGreatCy07
namespace Go.Proofs.YtidfgdchcpmnfaaGreat
open Go.RowKit Go.Shelf
set_option maxRecDepth 100000
set_option maxHeartbeats 4000000
set_option linter.unusedSimpArgs false
set_option linter.unusedVariables false
attribute [local go_sem] Oper.semAt_some
def aG (x:Int):Int:=if -9223372036854775808≤x∧x < 9223372036854775808 then x else 0
def aJ (x:Int):Bool:=decide (-9223372036854775808≤x∧x < 9223372036854775808)
def UY:Nat:=9223372036854775808
theorem QJ:UY=9223372036854775808:=rfl
structure SBx (B NB:Nat) (b:Bool) (v z:Int) (r:Bool) (W:World):Prop where
 q:W.cell? ⟨B,0,none⟩=some (.bool b)
 c2:W.cell? ⟨B+1,0,none⟩=some (.int .i64 z)
 f2:W.frozen? ⟨B+1,0,none⟩=false
 c3:W.cell? ⟨B+1+1,0,none⟩=some (.bool r)
 f3:W.frozen? ⟨B+1+1,0,none⟩=false
 n:W.cell? ⟨NB,0,none⟩=some (.int .u64 v)
 fn:W.frozen? ⟨NB,0,none⟩=false
theorem SBx.kept {B NB:Nat} {b r:Bool} {v z:Int} {A W:World} {row:Option Nat} (hs:SBx B NB b v z r A) (hg:A.grownBy W row) (hr:∀ k,row=some k→∃ o,A.heap[k]?=some o∧o.isCells=false):SBx B NB b v z r W :=
 ⟨cell_kept hs.q hg hr,cell_kept hs.c2 hg hr,(frozen_kept hs.c2 hg hr).trans hs.f2,cell_kept hs.c3 hg hr,(frozen_kept hs.c3 hg hr).trans hs.f3,cell_kept hs.n hg hr,(frozen_kept hs.n hg hr).trans hs.fn⟩
theorem SBx.b8w {B NB:Nat} {b r:Bool} {v z:Int} {W:World} (h:SBx B NB b v z r W) (hn:B+1+1 < NB) (v':Int):SBx B NB b v' z r (W.setCell ⟨NB,0,none⟩ (.int .u64 v')):=by
 refine ⟨?_,?_,?_,?_,?_,?_,?_⟩
 ·rw [World.cell?_setCell_far _ _ _ _ (by simp;omega)];exact h.q
 ·rw [World.cell?_setCell_far _ _ _ _ (by simp;omega)];exact h.c2
 ·rw [World.frozen?_setCell];exact h.f2
 ·rw [World.cell?_setCell_far _ _ _ _ (by simp;omega)];exact h.c3
 ·rw [World.frozen?_setCell];exact h.f3
 ·exact World.cell?_setCell_same' _ _ _ (by rw [h.n];rfl)
 ·rw [World.frozen?_setCell];exact h.fn
theorem SBx.a8B {B NB:Nat} {b r:Bool} {v z:Int} {W:World} (h:SBx B NB b v z r W) (hn:B+1+1 < NB) (z':Int) (r':Bool):SBx B NB b v z' r' ((W.setCell ⟨B+1,0,none⟩ (.int .i64 z')).setCell ⟨B+1+1,0,none⟩ (.bool r')):=by
 refine ⟨?_,?_,?_,?_,?_,?_,?_⟩
 ·rw [World.cell?_setCell_far _ _ _ _ (by simp;omega),World.cell?_setCell_far _ _ _ _ (by simp)];exact h.q
 ·rw [World.cell?_setCell_far _ _ _ _ (by simp)];exact World.cell?_setCell_same' _ _ _ (by rw [h.c2];rfl)
 ·rw [World.frozen?_setCell,World.frozen?_setCell];exact h.f2
 ·exact World.cell?_setCell_same' _ _ _ (by rw [World.cell?_setCell_far _ _ _ _ (by simp)];rw [h.c3];rfl)
 ·rw [World.frozen?_setCell,World.frozen?_setCell];exact h.f3
 ·rw [World.cell?_setCell_far _ _ _ _ (by simp;omega),World.cell?_setCell_far _ _ _ _ (by simp;omega)];exact h.n
 ·rw [World.frozen?_setCell,World.frozen?_setCell];exact h.fn
theorem AZ {k:Nat} (h:k≤18446744073709551615):IntKind.u64.wrap (k:Int)=k:=by simp [IntKind.wrap,IntKind.bits,IntKind.signed];omega
theorem VG {z:Int} (h0:0≤z) (h1:z≤18446744073709551615):IntKind.u64.wrap z=z:=by simp [IntKind.wrap,IntKind.bits,IntKind.signed];omega
theorem a6g {k:Nat} (h:k≤9223372036854775807):IntKind.i64.wrap (k:Int)=k:=by simp [IntKind.wrap,IntKind.bits,IntKind.signed];omega
theorem a3c {A:Nat} (h0:0 < A) (h1:A≤9223372036854775808):IntKind.i64.wrap (IntKind.u64.wrap (-(A:Int)))=-(A:Int):=by simp [IntKind.wrap,IntKind.bits,IntKind.signed];omega
theorem a0e {l:List Nat} (hl:Low l) {pre:List (Fin l.length)} (h:iJ l.length pre) (hle:pre.length≤l.length):hval l pre≤val l:=by
 rw [TM h hle]
 have e:=val_append (l.take (l.length - pre.length)) (l.drop (l.length - pre.length))
 rw [List.take_append_drop] at e
 have h1:1≤BB ^ (l.take (l.length - pre.length)).length:=Nat.pow_pos iI
 have h2:val (l.drop (l.length - pre.length))≤BB ^ (l.take (l.length - pre.length)).length * val (l.drop (l.length - pre.length)):=Nat.le_mul_of_pos_left _ h1
 omega
theorem a8K (x:Int) (b:Bool) (p:Option Addr) (n c:Nat) (w:World) (hv:Raw w (.agg #[.bool b,.slice p n c]) x) (hlen:(dig x.natAbs).length≤3) (hbx:x ≠ 0→b=decide (x < 0)) :
  CallsIn Fence.wide 3 Tryz.prog 135 #[.agg #[.bool b,.slice p n c]] w fun e W'=>e=.returned (.tuple #[.int .i64 (aG x),.bool (aJ x)])∧Below w.heap.size w W':=by
 have hro:Fence.wide.round=none:=rfl
 refine callsIn_of_wp_marks Tryz.func135 rfl trivial ?_ hro
 simp only [Tryz.ntmps135,List.size_toArray,List.length_cons,List.length_nil,Nat.reduceAdd,Nat.reduceSub,Array.replicate_succ,Array.replicate_zero,List.push_toArray,List.append_toArray,List.nil_append,List.cons_append]
 have hd3:decide ((3:Int) < (dig x.natAbs).length)=false:=by simp;omega
 have hv1:=((hv.alloc (.cells #[.bool b,.slice p n c] 28)).alloc (.cells #[.int .i64 0] 3)).alloc (.cells #[.bool false] 4)
 have q0:Bx (((w.alloc (.cells #[.bool b,.slice p n c] 28)).alloc (.cells #[.int .i64 0] 3)).alloc (.cells #[.bool false] 4)) w.heap.size [.bool b,.slice p n c]:=((Bx.new w [.bool b,.slice p n c] 28).alloc _).alloc _
 have q1:Bx (((w.alloc (.cells #[.bool b,.slice p n c] 28)).alloc (.cells #[.int .i64 0] 3)).alloc (.cells #[.bool false] 4)) (w.heap.size+1) [.int .i64 0]:=by simpa using (Bx.new (w.alloc (.cells #[.bool b,.slice p n c] 28)) [.int .i64 0] 3).alloc (.cells #[.bool false] 4)
 have q2:Bx (((w.alloc (.cells #[.bool b,.slice p n c] 28)).alloc (.cells #[.int .i64 0] 3)).alloc (.cells #[.bool false] 4)) (w.heap.size+1+1) [.bool false]:=by simpa using Bx.new ((w.alloc (.cells #[.bool b,.slice p n c] 28)).alloc (.cells #[.int .i64 0] 3)) [.bool false] 4
 have hB0:Below w.heap.size w (((w.alloc (.cells #[.bool b,.slice p n c] 28)).alloc (.cells #[.int .i64 0] 3)).alloc (.cells #[.bool false] 4)):=(((Below.refl _ _).alloc (Nat.le_refl _) _).alloc (by simp) _).alloc (by simp;omega) _
 gi_wp2_with (refine ⟨trivial,?_⟩;gi_at_call 119;refine (callsIn_wide.2 (dM _ x _ hv1)).mono ?_;rintro e w1 ⟨s1,rfl,hs1,hb1⟩;obtain ⟨p1,c1,rfl,hl1,hm1⟩:=hs1.form)
 gi_wp2_with (refine ⟨trivial,?_⟩;gi_at_call 164;refine (sV Fence.wide 2 trivial hro _ _ _ _).mono ?_;rintro e w' ⟨rfl,rfl⟩)
 have hlow:=bK x.natAbs
 have HX:=Lib.hid (aI x.natAbs)
 have HC:=Lib.hid (bH x.natAbs)
 have k0:=q0.to hb1
 have k1:=q1.to hb1
 have k2:=q2.to hb1
 have hBw1:=hB0.trans (hb1.mono (by simp;omega))
 have hz1:=k2.1
 clear hv hv1 q0 q1 q2 hB0 hb1
 generalize hll:dig x.natAbs=l at *
 have bN:=Bx.new w1 [.int .u64 0] 109
 have bS:=Boxed.new (w1.alloc (.cells #[.int .u64 0] 109)) 26 (.slice p1 l.length c1)
 rw [World.size_alloc] at bS
 have hA:Below w1.heap.size w1 ((w1.alloc (.cells #[.int .u64 0] 109)).alloc (.cells #[.slice p1 l.length c1] 26)):=((Below.refl _ w1).alloc (Nat.le_refl _) _).alloc (by simp) _
 refine wpIn_rangeFunc_ownG (n:=3) (α:=Fin l.length) hro (by omega) (gf:=178) (lb:=#[.pointer (some ⟨w1.heap.size+1,0,none⟩)]) rfl trivial (enters_of Tryz.func178 (by kernel_rfl) rfl)
  (vS Fence.wide 2 trivial hro (by omega) (w1.heap.size+1) w1.heap.size _ l _ (by simp) (by simp;omega) bS.cell (hs1.b.below hA)) (fun h k=>KB.trans h k) (KB.b (by simp;omega) (by simp)) (Below.refl _ _) (fun _=>rfl)
  (fun (pre:List (Fin l.length)) W=>(SBx w.heap.size w1.heap.size b (hval l pre:Nat) 0 false W∧hval l pre≤UY)∧Below w.heap.size w W)
  (fun cd (pre:List (Fin l.length)) W=>(cd=.ret∧(∃ v,SBx w.heap.size w1.heap.size b v 0 false W)∧UY < hval l pre)∧Below w.heap.size w W)
  (OwnFrom.and (Own.from (fun s A B row hs hg hr=>⟨hs.1.kept hg hr,hs.2⟩) _) (ownFrom_below (Nat.le_refl _) (by simp;omega)))
  (fun c=>OwnFrom.and (Own.from (fun s A B row hs hg hr=>by obtain ⟨hc,⟨v,h1⟩,h2⟩:=hs;exact ⟨hc,⟨v,h1.kept hg hr⟩,h2⟩) _) (ownFrom_below (Nat.le_refl _) (by simp;omega)))
  ⟨⟨by
    have kk0:=k0.to hA
    have kk1:=k1.to hA
    have kk2:=k2.to hA
    have nn:=bN.alloc (.cells #[.slice p1 l.length c1] 26)
    exact ⟨kk0.c0,kk1.c0,kk1.f0,kk2.c0,kk2.f0,nn.c0,nn.f0⟩,by simp [hval,UY]⟩,hBw1.trans (hA.mono (by omega))⟩
  (fun (x:Fin l.length)=>{ tmps:=#[.agg #[.bool b,.slice p n c],.pointer (some ⟨w.heap.size,0,none⟩),.pointer (some ⟨w.heap.size+1,0,none⟩),.pointer (some ⟨w.heap.size+1+1,0,none⟩),.slice p1 l.length c1,.pointer (some ⟨w1.heap.size,0,none⟩),undef,.int .u32 (gr l x.1:Nat),.agg #[.bool b,.slice p n c],.slice p1 l.length c1,.slice p1 l.length c1,.int .i64 (l.length:Nat),.bool false,.slice p1 l.length c1,.func (.func 178) #[] #[.pointer (some ⟨w1.heap.size+1,0,none⟩)],.int .i64 (x.1:Nat),.int .u32 (gr l x.1:Nat),undef,undef,undef,undef,undef,undef,undef,undef,undef,undef,undef,undef,undef,undef,undef,undef,undef,undef,undef,undef,undef,undef,undef,undef,undef,undef,undef],defers:=[] }) ?assign ?body ?done ?stop
 case assign =>
  intro l x W K hK
  gi_wp2
  exact hK
 case body =>
  rintro lo pre y W ⟨⟨hS,hT⟩,hB⟩ hpl
  have hg:=gB hlow y.1
  have HS:=Lib.hid (AB l pre y)
  obtain ⟨hv,hhv⟩:∃ hv,hval l pre=hv:=⟨_,rfl⟩
  rw [hhv] at hS hT HS
  obtain ⟨g,hgg⟩:∃ g,gr l y.1=g:=⟨_,rfl⟩
  rw [hgg] at hg HS ⊢
  have c1':=hS.n
  have f1':=hS.fn
  have c2':=hS.c2
  have f2':=hS.f2
  have c3':=hS.c3
  have f3':=hS.f3
  obtain ⟨m,hm⟩:∃ m:Nat,(9223372036854775808:Int) - g=m:=⟨9223372036854775808 - g,by omega⟩
  obtain ⟨t,ht⟩:∃ t:Nat,(m:Int) / 1000000000=t:=⟨m / 1000000000,by simp⟩
  have hmn:m+g=9223372036854775808:=by omega
  have htn:m / 1000000000=t:=by omega
  have ht9:t≤9223372036:=by omega
  by_cases hle:hv≤t
  ·have hv9:hv≤9223372036:=by omega
   have hs9:hv * 1000000000+g≤9223372036854775808:=by omega
   have d1:decide ((t:Int) < hv)=false:=by simp;omega
   have d2:decide (t < hv)=false:=by simp;omega
   have HT:=Lib.hid (show hv * BB+g≤UY by rw [bG,QJ];exact hs9)
   have e1:IntKind.u64.wrap ((hv:Int) * 1000000000)=(hv:Int) * 1000000000:=VG (by omega) (by omega)
   have e2:IntKind.u64.wrap ((hv:Int) * 1000000000+g)=(hv:Int) * 1000000000+g:=VG (by omega) (by omega)
   have e3:IntKind.u64.wrap (m:Int)=m:=AZ (by omega)
   have e4:IntKind.u64.wrap (t:Int)=t:=AZ (by omega)
   clear hmn htn hs9 hT
   gi_wp2
   exact ⟨(KeepsOthers.setCell _ _ _).from _,KB.setCell (p:=⟨w1.heap.size,0,none⟩) (Nat.le_refl _) (by simp) _,⟨by rw [HS.out,bG];simpa using hS.b8w hz1 ((hv:Int) * 1000000000+g),by rw [HS.out];exact HT.out⟩,hB.setCell (p:=⟨w1.heap.size,0,none⟩) (by simp;omega) _⟩
  ·have d1:decide ((t:Int) < hv)=true:=by simp;omega
   have d2:decide (t < hv)=true:=by simp;omega
   have e3:IntKind.u64.wrap (m:Int)=m:=AZ (by omega)
   have e4:IntKind.u64.wrap (t:Int)=t:=AZ (by omega)
   have HT:=Lib.hid (show UY < hv * BB+g by rw [bG,QJ];omega)
   clear hmn htn hT hle
   gi_wp2
   exact ⟨((KeepsOthers.setCell _ _ _).trans (KeepsOthers.setCell _ _ _)).from _,⟨rfl,⟨_,hS.a8B hz1 0 false⟩,by rw [HS.out];exact HT.out⟩,(hB.setCell (p:=⟨w.heap.size+1,0,none⟩) (by simp) _).setCell (p:=⟨w.heap.size+1+1,0,none⟩) (by simp;omega) _⟩
 case done =>
  rintro D ys W hD ⟨hbk,hyl⟩ ⟨⟨hS,hT⟩,hB⟩ hK
  rw [a0d hbk hyl] at hS hT
  obtain ⟨A,hA'⟩:∃ A,val l=A:=⟨_,rfl⟩
  rw [hA'] at hS hT HX
  have hxA:=HX.out
  have q1':=hS.q
  have c1':=hS.n
  have f1':=hS.fn
  have c2':=hS.c2
  have f2':=hS.f2
  have c3':=hS.c3
  have f3':=hS.f3
  have hA0:l=[] ↔ A=0:=by
   rw [← hll,iU];omega
  have a7i:A≤9223372036854775808:=hT
  have hlz:l.length=0 ↔ A=0:=by rw [← hA0];exact List.length_eq_zero_iff
  by_cases hneg:x < 0
  ·have hb:b=true:=by rw [hbx (by omega)];simpa using hneg
   subst hb
   have hl0:decide ((0:Int) < l.length)=true:=by simp;omega
   have hl0':decide (0 < l.length)=true:=by simp;omega
   have hw:=a3c (A:=A) (by omega) a7i
   have HF:Hid (aG x=-(A:Int)∧aJ x=true):=by
    unfold Hid aG aJ
    rw [if_pos (by omega)]
    exact ⟨by omega,by simp;omega⟩
   have hpos:0 < l.length:=by simpa using hl0'
   clear hT a7i hlz hA0 hxA hneg
   gi_wp2
   have hS2:=hS.a8B hz1 (-(A:Int)) true
   have hK':=((KeepsOthers.setCell W ⟨w.heap.size+1,0,none⟩ (.int .i64 (-(A:Int)))).trans (KeepsOthers.setCell _ ⟨w.heap.size+1+1,0,none⟩ (.bool true))).same D _ hK rfl
   refine ⟨by simp,.inl ⟨_,_,rfl,run_takeDeferred hK',?_⟩⟩
   have hS':=hS2.kept (grownBy_putObj' _ D (.deferred none)) (fun r e=>by cases e;exact ⟨_,hK',rfl⟩)
   refine ⟨.tuple #[.int .i64 (-(A:Int)),.bool true],?_,by rw [HF.out.1,HF.out.2],((hB.setCell (p:=⟨w.heap.size+1,0,none⟩) (by simp) _).setCell (p:=⟨w.heap.size+1+1,0,none⟩) (by simp;omega) _).trans (belowK_b (w:=w) (Nat.le_refl _) _ D _ _ (by simp at hD;omega) hK' rfl rfl)⟩
   simp [results,Tryz.results135,go_sem,hS'.c2,hS'.c3]
  ·have hxe:x=(A:Int):=by omega
   by_cases ht:A=9223372036854775808
   ·have hb:b=false:=by rw [hbx (by omega)];simpa using hneg
    subst hb
    have hl0:decide ((0:Int) < l.length)=true:=by simp;omega
    have hl0':decide (0 < l.length)=true:=by simp;omega
    have hpos:0 < l.length:=by simpa using hl0'
    have hq:((A:Int) == 9223372036854775808)=true:=by simp;omega
    have HF:Hid (aG x=0∧aJ x=false):=by
     unfold Hid aG aJ
     rw [if_neg (by omega)]
     exact ⟨rfl,by simp;omega⟩
    have HT:=Lib.hid ht
    clear hT a7i hlz hA0 hxA hneg hxe ht
    gi_wp2
    have hS2:=hS.a8B hz1 (0) false
    have hK':=((KeepsOthers.setCell W ⟨w.heap.size+1,0,none⟩ (.int .i64 (0))).trans (KeepsOthers.setCell _ ⟨w.heap.size+1+1,0,none⟩ (.bool false))).same D _ hK rfl
    refine ⟨by simp,.inl ⟨_,_,rfl,run_takeDeferred hK',?_⟩⟩
    have hS':=hS2.kept (grownBy_putObj' _ D (.deferred none)) (fun r e=>by cases e;exact ⟨_,hK',rfl⟩)
    refine ⟨.tuple #[.int .i64 (0),.bool false],?_,by rw [HF.out.1,HF.out.2],((hB.setCell (p:=⟨w.heap.size+1,0,none⟩) (by simp) _).setCell (p:=⟨w.heap.size+1+1,0,none⟩) (by simp;omega) _).trans (belowK_b (w:=w) (Nat.le_refl _) _ D _ _ (by simp at hD;omega) hK' rfl rfl)⟩
    simp [results,Tryz.results135,go_sem,hS'.c2,hS'.c3]
   ·have hq:((A:Int) == 9223372036854775808)=false:=by simp;omega
    have hw:IntKind.i64.wrap (A:Int)=A:=a6g (by omega)
    have hA9:A≤9223372036854775807:=by omega
    have HF:Hid (aG x=(A:Int)∧aJ x=true):=by
     unfold Hid aG aJ
     rw [if_pos (by omega)]
     exact ⟨hxe,by simp;omega⟩
    by_cases hl:l=[]
    ·have hl0:decide ((0:Int) < l.length)=false:=by rw [hl];rfl
     have hl0':decide (0 < l.length)=false:=by rw [hl];rfl
     have hl9:¬ 0 < l.length:=by simpa using hl0'
     have HT:=Lib.hid ht
     have HL:=Lib.hid hl
     clear hT a7i hlz hA0 hxA hneg hxe ht hl
     gi_wp2
     have hS2:=hS.a8B hz1 (A:Int) true
     have hK':=((KeepsOthers.setCell W ⟨w.heap.size+1,0,none⟩ (.int .i64 (A:Int))).trans (KeepsOthers.setCell _ ⟨w.heap.size+1+1,0,none⟩ (.bool true))).same D _ hK rfl
     refine ⟨by simp,.inl ⟨_,_,rfl,run_takeDeferred hK',?_⟩⟩
     have hS':=hS2.kept (grownBy_putObj' _ D (.deferred none)) (fun r e=>by cases e;exact ⟨_,hK',rfl⟩)
     refine ⟨.tuple #[.int .i64 (A:Int),.bool true],?_,by rw [HF.out.1,HF.out.2],((hB.setCell (p:=⟨w.heap.size+1,0,none⟩) (by simp) _).setCell (p:=⟨w.heap.size+1+1,0,none⟩) (by simp;omega) _).trans (belowK_b (w:=w) (Nat.le_refl _) _ D _ _ (by simp at hD;omega) hK' rfl rfl)⟩
     simp [results,Tryz.results135,go_sem,hS'.c2,hS'.c3]
    ·have hl8:0 < l.length:=List.length_pos_iff.2 hl
     have hb:b=false:=by rw [hbx (by omega)];simpa using hneg
     subst hb
     have hl0:decide ((0:Int) < l.length)=true:=by simp;omega
     have hl0':decide (0 < l.length)=true:=by simp;omega
     have HT:=Lib.hid ht
     have HL:=Lib.hid hl
     clear hT a7i hlz hA0 hxA hneg hxe ht hl
     gi_wp2
     have hS2:=hS.a8B hz1 (A:Int) true
     have hK':=((KeepsOthers.setCell W ⟨w.heap.size+1,0,none⟩ (.int .i64 (A:Int))).trans (KeepsOthers.setCell _ ⟨w.heap.size+1+1,0,none⟩ (.bool true))).same D _ hK rfl
     refine ⟨by simp,.inl ⟨_,_,rfl,run_takeDeferred hK',?_⟩⟩
     have hS':=hS2.kept (grownBy_putObj' _ D (.deferred none)) (fun r e=>by cases e;exact ⟨_,hK',rfl⟩)
     refine ⟨.tuple #[.int .i64 (A:Int),.bool true],?_,by rw [HF.out.1,HF.out.2],((hB.setCell (p:=⟨w.heap.size+1,0,none⟩) (by simp) _).setCell (p:=⟨w.heap.size+1+1,0,none⟩) (by simp;omega) _).trans (belowK_b (w:=w) (Nat.le_refl _) _ D _ _ (by simp at hD;omega) hK' rfl rfl)⟩
     simp [results,Tryz.results135,go_sem,hS'.c2,hS'.c3]
 case stop =>
  rintro D cd pre W hD ⟨hbk,hpl⟩ ⟨⟨rfl,⟨v,hS⟩,hgt⟩,hB⟩ hK
  have hle:=a0e hlow hbk hpl
  have HF:Hid (aG x=0∧aJ x=false):=by
   have h1:=HX.out
   rw [QJ] at hgt
   unfold Hid aG aJ
   rw [if_neg (by omega)]
   exact ⟨rfl,by simp;omega⟩
  clear hle hgt
  gi_wp2
  refine ⟨by simp,.inl ⟨_,_,rfl,run_takeDeferred hK,?_⟩⟩
  have hS':=hS.kept (grownBy_putObj' _ D (.deferred none)) (fun r e=>by cases e;exact ⟨_,hK,rfl⟩)
  refine ⟨.tuple #[.int .i64 0,.bool false],?_,by rw [HF.out.1,HF.out.2],hB.trans (belowK_b (w:=w) (Nat.le_refl _) W D _ _ (by simp at hD;omega) hK rfl rfl)⟩
  simp [results,Tryz.results135,go_sem,hS'.c2,hS'.c3]
theorem a2N (x:Int) (b:Bool) (p:Option Addr) (n c:Nat) (w:World) (hv:Raw w (.agg #[.bool b,.slice p n c]) x) (hlen:3 < (dig x.natAbs).length) :
  Calls Tryz.prog 135 #[.agg #[.bool b,.slice p n c]] w fun e W'=>e=.returned (.tuple #[.int .i64 (aG x),.bool (aJ x)])∧Below w.heap.size w W':=by
 have hd3:decide ((3:Int) < (dig x.natAbs).length)=true:=by simp;omega
 have hv1:=((hv.alloc (.cells #[.bool b,.slice p n c] 28)).alloc (.cells #[.int .i64 0] 3)).alloc (.cells #[.bool false] 4)
 have q1:Bx (((w.alloc (.cells #[.bool b,.slice p n c] 28)).alloc (.cells #[.int .i64 0] 3)).alloc (.cells #[.bool false] 4)) (w.heap.size+1) [.int .i64 0]:=by simpa using (Bx.new (w.alloc (.cells #[.bool b,.slice p n c] 28)) [.int .i64 0] 3).alloc (.cells #[.bool false] 4)
 have q2:Bx (((w.alloc (.cells #[.bool b,.slice p n c] 28)).alloc (.cells #[.int .i64 0] 3)).alloc (.cells #[.bool false] 4)) (w.heap.size+1+1) [.bool false]:=by simpa using Bx.new ((w.alloc (.cells #[.bool b,.slice p n c] 28)).alloc (.cells #[.int .i64 0] 3)) [.bool false] 4
 have hB0:Below w.heap.size w (((w.alloc (.cells #[.bool b,.slice p n c] 28)).alloc (.cells #[.int .i64 0] 3)).alloc (.cells #[.bool false] 4)):=(((Below.refl _ _).alloc (Nat.le_refl _) _).alloc (by simp) _).alloc (by simp;omega) _
 have HF:Hid (aG x=0∧aJ x=false):=by
  have h1:=oO hlen
  rw [bG] at h1
  unfold Hid aG aJ
  rw [if_neg (by omega)]
  exact ⟨rfl,by simp;omega⟩
 go_enter Tryz.func135,Tryz.ntmps135
 go_wp2_with fail
 refine (dM _ x _ hv1).mono ?_
 rintro e w1 ⟨s1,rfl,hs1,hb1⟩
 obtain ⟨p1,c1,rfl,hl1,hm1⟩:=hs1.form
 have k1:=q1.to hb1
 have k2:=q2.to hb1
 have r0:=k1.c0
 have f0:=k1.f0
 have r1:=k2.c0
 have f1:=k2.f0
 have hBw1:=Below.tr hB0 hb1
 go_wp2_with fail
 exact bodyPost_ret (v:=.tuple #[.int .i64 0,.bool false]) (by simp [results,Tryz.results135,go_sem,r0,r1]) rfl ⟨by rw [HF.out.1,HF.out.2],(hBw1.setCell (p:=⟨w.heap.size+1,0,none⟩) (by simp) _).setCell (p:=⟨w.heap.size+1+1,0,none⟩) (by simp;omega) _⟩
theorem a5T (v:Value) (x:Int) (w:World) (hv:Raw w v x) :
  Calls Tryz.prog 135 #[v] w fun e W'=>e=.returned (.tuple #[.int .i64 (aG x),.bool (aJ x)])∧Below w.heap.size w W':=by
 obtain ⟨b,p,n,c,rfl⟩:=hv.form
 by_cases h:(dig x.natAbs).length≤3
 ·exact callsIn_wide.1 (a8K x b p n c w hv h (fun h=>hv.sign h))
 ·exact a2N x b p n c w hv (by omega)
end Go.Proofs.YtidfgdchcpmnfaaGreat
namespace Go.Proofs.YtidfgdchcpmnfaaGreat
open Go Go.RowKit
set_option linter.unusedSimpArgs false
set_option linter.unusedVariables false
set_option maxRecDepth 20000
theorem a6f {P:Program} {md:Region.Mode} {ops:Array Oper} {Q:Exit→Act→World→Prop} (I:Array Bool→Act→World→Prop) (hd:kY md ops=true)
  (hend:∀ L a w,I L a w→(∀ i,i < ops.size→L.getD i true=true)→Q .normal a w)
  (hstep:∀ L a w i o,I L a w→ops[i]?=some o→L.getD i true=false→(∀ e ∈ o.after,Region.binds md e=true→L.getD e.on false=true)→wpOp P ops Q i (I (L.setIfInBounds i true)) a w) :
  ∀ fuel L a w,zH L≤fuel→I L a w→wpAny P md ops Q fuel L a w:=by
 intro fuel
 induction fuel with
 | zero =>
  intro L a w hu hI
  have hn:Region.ready md ops L=[]:=by
   cases hr:Region.ready md ops L with
   | nil=>rfl
   | cons i r =>
    exfalso
    obtain ⟨o,_,h2,_⟩:=rC (by rw [hr];exact List.mem_cons_self)
    have:=oV h2
    omega
  exact ⟨hn,hend L a w hI (jI hd hn)⟩
 | succ fuel ih =>
  intro L a w hu hI
  refine ⟨fun hn=>hend L a w hI (jI hd hn),fun i hi=>?_⟩
  obtain ⟨o,h1,h2,h3⟩:=rC hi
  refine wpOp_mono (fun a' w' h'=>ih _ _ _ ?_ h') (hstep L a w i o hI h1 h2 h3)
  have:=oV h2
  omega
inductive FK where
 | any
 | eq (v:Value)
 | raw (x:Int)
 | b0m (x:Int)
 | rq (q:Rat)
 | div (x y:Int)
 | qc (q:Rat) (c:Int)
 | xP
 | VT
 | a4E (x:Int)
 | a4F (q:Rat)
 | st (p:Value→World→Prop) (h:∀ v w w',p v w→Below w.heap.size w w'→p v w')
def FK.holds (R:World):FK→Value→World→Prop
 | .any,_,_=>True
 | .eq u,v,_=>v=u
 | .raw x,v,w=>Raw w v x
 | .b0m x,v,w=>bU w v x
 | .rq q,v,w=>RQ w v q
 | .div x y,v,w=>∃ u u',v=.tuple #[u,u',.int .i64 0]∧bU w u x∧bU w u' y
 | .qc q c,v,w=>∃ u,v=.tuple #[u,.int .i64 c]∧RQ w u q
 | .xP,v,w=>∃ B u0 u1,v=.pointer (some ⟨B,0,none⟩)∧R.heap.size≤B∧aP u0=true∧aP u1=true∧Bx w B [u0,u1]
 | .VT,v,w=>∃ B u0 u1 u2 u3,v=.pointer (some ⟨B,0,none⟩)∧R.heap.size≤B∧aP u0=true∧aP u1=true∧aP u2=true∧aP u3=true∧Bx w B [u0,u1,u2,u3]
 | .a4E x,v,w=>∃ B g p n c,v=.pointer (some ⟨B,0,none⟩)∧R.heap.size≤B∧Bx w B [.bool g,.slice p n c]∧bU w (.agg #[.bool g,.slice p n c]) x
 | .a4F q,v,w=>∃ B g p n c h o m e,v=.pointer (some ⟨B,0,none⟩)∧R.heap.size≤B∧Bx w B [.bool g,.slice p n c,.bool h,.slice o m e]∧RQ w (.agg #[.bool g,.slice p n c,.bool h,.slice o m e]) q
 | .st p _,v,w=>p v w
def FK.a7I:FK→Bool
 | .st _ _=>true
 | _=>false
def FK.fO:FK→Bool
 | .xP=>true
 | .VT=>true
 | _=>false
def FK.isFull:FK→Bool
 | .a4E _=>true
 | .a4F _=>true
 | _=>false
theorem FK.below {R w w':World} (hb:Below w.heap.size w w') {k:FK} {v:Value} (h:k.holds R v w):k.holds R v w':=by
 cases k with
 | any=>trivial
 | eq u=>exact h
 | raw x=>exact Raw.below h hb
 | b0m x=>exact bU.below h hb
 | rq q=>exact RQ.below h hb
 | div x y=>obtain ⟨u,u',h1,h2,h3⟩:=h;exact ⟨u,u',h1,h2.below hb,h3.below hb⟩
 | qc q c=>obtain ⟨u,h1,h2⟩:=h;exact ⟨u,h1,h2.below hb⟩
 | xP=>obtain ⟨B,u0,u1,h1,h2,h3,h4,h5⟩:=h;exact ⟨B,u0,u1,h1,h2,h3,h4,h5.to hb⟩
 | VT=>obtain ⟨B,u0,u1,u2,u3,h1,h2,h3,h4,h5,h6,h7⟩:=h;exact ⟨B,u0,u1,u2,u3,h1,h2,h3,h4,h5,h6,h7.to hb⟩
 | a4E x=>obtain ⟨B,g,p,n,c,h1,h2,h3,h4⟩:=h;exact ⟨B,g,p,n,c,h1,h2,h3.to hb,h4.below hb⟩
 | a4F q=>obtain ⟨B,g,p,n,c,h',o,m,e,h1,h2,h3,h4⟩:=h;exact ⟨B,g,p,n,c,h',o,m,e,h1,h2,h3.to hb,h4.below hb⟩
 | st p hp=>exact hp v w w' h hb
def set2 (w:World) (B:Nat) (x0 x1:Value):World:=(w.setCell ⟨B,0,none⟩ x0).setCell ⟨B,1,none⟩ x1
def QG (w:World) (B:Nat) (x0 x1 x2 x3:Value):World:=(((w.setCell ⟨B,0,none⟩ x0).setCell ⟨B,1,none⟩ x1).setCell ⟨B,2,none⟩ x2).setCell ⟨B,3,none⟩ x3
theorem YS {w:World} {B:Nat} {v0 v1 v2 v3:Value} (h':Bx w B [v0,v1,v2,v3]) (x0 x1:Value):Bx (set2 w B x0 x1) B [x0,x1,v2,v3]:=(h'.setAt 0 x0).setAt 1 x1
theorem YT {w:World} {B:Nat} {u0 u1 v0 v1 v2 v3:Value} (h:Bx w B [u0,u1]) (h':Bx w B [v0,v1,v2,v3]) (x0 x1 x2 x3:Value):Bx (QG w B x0 x1 x2 x3) B [x0,x1]:=by
 have:=h'.jM x0 x1 x2 x3
 exact ⟨this.1,fun i u hu=>this.2 i u (by
  match i,hu with
  | 0,hu=>exact hu
  | 1,hu=>exact hu
  | (n+2),hu=>simp at hu)⟩
theorem FK.set2 {R w:World} {B:Nat} {u0 u1 x0 x1:Value} (q:Bx w B [u0,u1]) (n0:aP u0=true) (n1:aP u1=true) (m0:aP x0=true) (m1:aP x1=true) {k:FK} {v:Value} (hns:k.a7I=false) (hne:k.isFull=true→v ≠ .pointer (some ⟨B,0,none⟩)) (h:k.holds R v w):k.holds R v (Go.Proofs.YtidfgdchcpmnfaaGreat.set2 w B x0 x1):=by
 cases k with
 | any=>trivial
 | eq u=>exact h
 | raw x=>exact Raw.aC h q n0 n1 _ _
 | b0m x=>exact bU.aC h q n0 n1 _ _
 | rq q'=>exact RQ.aC h q n0 n1 _ _
 | div x y=>obtain ⟨u,u',h1,h2,h3⟩:=h;exact ⟨u,u',h1,h2.aC q n0 n1 _ _,h3.aC q n0 n1 _ _⟩
 | qc q' c=>obtain ⟨u,h1,h2⟩:=h;exact ⟨u,h1,h2.aC q n0 n1 _ _⟩
 | xP =>
  obtain ⟨B',v0,v1,h1,h2,h3,h4,h5⟩:=h
  by_cases e:B'=B
  ·subst e;exact ⟨B',x0,x1,h1,h2,m0,m1,q.store2 _ _⟩
  ·exact ⟨B',v0,v1,h1,h2,h3,h4,h5.aH e _ _⟩
 | VT =>
  obtain ⟨B',v0,v1,v2,v3,h1,h2,h3,h4,h5,h6,h7⟩:=h
  by_cases e:B'=B
  ·subst e;exact ⟨B',x0,x1,v2,v3,h1,h2,m0,m1,h5,h6,YS h7 _ _⟩
  ·exact ⟨B',v0,v1,v2,v3,h1,h2,h3,h4,h5,h6,h7.aH e _ _⟩
 | a4E x =>
  obtain ⟨B',g,p,n,c,h1,h2,h3,h4⟩:=h
  have e:B' ≠ B:=fun e=>hne rfl (by rw [h1,e])
  exact ⟨B',g,p,n,c,h1,h2,h3.aH e _ _,h4.aC q n0 n1 _ _⟩
 | a4F q' =>
  obtain ⟨B',g,p,n,c,h',o,m,e',h1,h2,h3,h4⟩:=h
  have e:B' ≠ B:=fun e=>hne rfl (by rw [h1,e])
  exact ⟨B',g,p,n,c,h',o,m,e',h1,h2,h3.aH e _ _,h4.aC q n0 n1 _ _⟩
 | st p hp=>cases hns
theorem FK.QG {R w:World} {B:Nat} {u0 u1 u2 u3 x0 x1 x2 x3:Value} (q:Bx w B [u0,u1,u2,u3]) (n0:aP u0=true) (n1:aP u1=true) (n2:aP u2=true) (n3:aP u3=true) (m0:aP x0=true) (m1:aP x1=true) (m2:aP x2=true) (m3:aP x3=true) {k:FK} {v:Value} (hns:k.a7I=false) (hne:k.isFull=true→v ≠ .pointer (some ⟨B,0,none⟩)) (h:k.holds R v w):k.holds R v (Go.Proofs.YtidfgdchcpmnfaaGreat.QG w B x0 x1 x2 x3):=by
 cases k with
 | any=>trivial
 | eq u=>exact h
 | raw x=>exact Raw.aQ h q n0 n1 n2 n3 _ _ _ _
 | b0m x=>exact bU.aQ h q n0 n1 n2 n3 _ _ _ _
 | rq q'=>exact RQ.aQ h q n0 n1 n2 n3 _ _ _ _
 | div x y=>obtain ⟨u,u',h1,h2,h3⟩:=h;exact ⟨u,u',h1,h2.aQ q n0 n1 n2 n3 _ _ _ _,h3.aQ q n0 n1 n2 n3 _ _ _ _⟩
 | qc q' c=>obtain ⟨u,h1,h2⟩:=h;exact ⟨u,h1,h2.aQ q n0 n1 n2 n3 _ _ _ _⟩
 | xP =>
  obtain ⟨B',v0,v1,h1,h2,h3,h4,h5⟩:=h
  by_cases e:B'=B
  ·subst e;exact ⟨B',x0,x1,h1,h2,m0,m1,YT h5 q _ _ _ _⟩
  ·exact ⟨B',v0,v1,h1,h2,h3,h4,h5.dG e _ _ _ _⟩
 | VT =>
  obtain ⟨B',v0,v1,v2,v3,h1,h2,h3,h4,h5,h6,h7⟩:=h
  by_cases e:B'=B
  ·subst e;exact ⟨B',x0,x1,x2,x3,h1,h2,m0,m1,m2,m3,q.jM _ _ _ _⟩
  ·exact ⟨B',v0,v1,v2,v3,h1,h2,h3,h4,h5,h6,h7.dG e _ _ _ _⟩
 | a4E x =>
  obtain ⟨B',g,p,n,c,h1,h2,h3,h4⟩:=h
  have e:B' ≠ B:=fun e=>hne rfl (by rw [h1,e])
  exact ⟨B',g,p,n,c,h1,h2,h3.dG e _ _ _ _,h4.aQ q n0 n1 n2 n3 _ _ _ _⟩
 | a4F q' =>
  obtain ⟨B',g,p,n,c,h',o,m,e',h1,h2,h3,h4⟩:=h
  have e:B' ≠ B:=fun e=>hne rfl (by rw [h1,e])
  exact ⟨B',g,p,n,c,h',o,m,e',h1,h2,h3.dG e _ _ _ _,h4.aQ q n0 n1 n2 n3 _ _ _ _⟩
 | st p hp=>cases hns
def fQ (sl:Nat→Option Nat) (t:Nat→Value) (a:Act):Nat→Act
 | 0=>a
 | n+1=>(fQ sl t a n).put (sl n) (t n)
def upv (t:Nat→Value) (i:Nat) (v:Value):Nat→Value:=fun j=>if j=i then v else t j
theorem JV (sl:Nat→Option Nat) (t:Nat→Value) (a:Act):∀ n,(fQ sl t a n).tmps.size=a.tmps.size
 | 0=>rfl
 | n+1=>by
  show ((fQ sl t a n).put (sl n) (t n)).tmps.size=_
  cases h:sl n <;> simp [Act.put,JV sl t a n]
theorem PS (sl:Nat→Option Nat) {t t':Nat→Value} (a:Act):∀ n,(∀ i,i < n→t i=t' i)→fQ sl t a n=fQ sl t' a n
 | 0,_=>rfl
 | n+1,h=>by
  show (fQ sl t a n).put (sl n) (t n)=(fQ sl t' a n).put (sl n) (t' n)
  rw [PS sl a n (fun i hi=>h i (by omega)),h n (by omega)]
theorem b0e (a:Act) (s:Option Nat) (v v':Value):(a.put s v').put s v=a.put s v:=by
 cases s with
 | none=>rfl
 | some s=>simp [Act.put]
theorem put_comm (a:Act) {s s':Nat} (h:s ≠ s') (v v':Value):(a.put (some s') v').put (some s) v=(a.put (some s) v).put (some s') v':=by
 simp only [Act.put,Act.mk.injEq,and_true]
 apply Array.ext_getElem?
 intro j
 simp only [Array.getElem?_setIfInBounds,Array.size_setIfInBounds]
 by_cases h1:s=j
 ·by_cases h2:s'=j
  ·exact absurd (h1.trans h2.symm) h
  ·simp [h1,h2]
 ·by_cases h2:s'=j
  ·simp [h1,h2]
  ·simp [h1,h2]
theorem PU (sl:Nat→Option Nat) (t:Nat→Value) (a:Act) (v:Value) {i s:Nat} (hs:sl i=some s):∀ n,i < n→(∀ j,j < n→j ≠ i→sl j ≠ some s)→(fQ sl t a n).put (some s) v=fQ sl (upv t i v) a n
 | 0,h,_=>by omega
 | n+1,h,hd=>by
  show ((fQ sl t a n).put (sl n) (t n)).put (some s) v=(fQ sl (upv t i v) a n).put (sl n) (upv t i v n)
  by_cases e:i=n
  ·subst e
   rw [hs,b0e,PS sl (t':=upv t i v) a i (fun j hj=>(if_neg (show ¬ j=i by omega)).symm),show upv t i v i=v from if_pos rfl]
  ·have hv:upv t i v n=t n:=if_neg (fun e'=>e e'.symm)
   rw [hv,← PU sl t a v hs n (by omega) (fun j hj=>hd j (by omega))]
   cases hn:sl n with
   | none=>rfl
   | some s'=>exact put_comm _ (fun e'=>hd n (by omega) (fun e2=>e e2.symm) (by rw [hn,e'])) _ _
theorem eval_put_same (a:Act) (s:Nat) (v:Value) (h:s < a.tmps.size):(a.put (some s) v).eval (.tmp s)=v:=by
 simp [Act.put,Act.eval,Array.getD_eq_getD_getElem?,h]
theorem yB (a:Act) (s:Nat) (s':Option Nat) (v:Value) (h:s' ≠ some s):(a.put s' v).eval (.tmp s)=a.eval (.tmp s):=by
 cases s' with
 | none=>rfl
 | some s' =>
  have:s' ≠ s:=fun e=>h (by rw [e])
  simp [Act.put,Act.eval,Array.getD_eq_getD_getElem?,Array.getElem?_setIfInBounds,this]
theorem ZI (sl:Nat→Option Nat) (t:Nat→Value) (a:Act) {s:Nat}:∀ n,(∀ j,j < n→sl j ≠ some s)→(fQ sl t a n).eval (.tmp s)=a.eval (.tmp s)
 | 0,_=>rfl
 | n+1,h=>by
  show ((fQ sl t a n).put (sl n) (t n)).eval (.tmp s)=_
  rw [yB _ _ _ _ (h n (by omega))]
  exact ZI sl t a n (fun j hj=>h j (by omega))
theorem a3B (sl:Nat→Option Nat) (t:Nat→Value) (a:Act) {i s:Nat} (hs:sl i=some s) (hlt:s < a.tmps.size):∀ n,i < n→(∀ j,j < n→j ≠ i→sl j ≠ some s)→(fQ sl t a n).eval (.tmp s)=t i
 | 0,h,_=>by omega
 | n+1,h,hd=>by
  show ((fQ sl t a n).put (sl n) (t n)).eval (.tmp s)=_
  by_cases e:i=n
  ·subst e
   rw [hs,eval_put_same _ _ _ (by rw [JV];exact hlt)]
  ·rw [yB _ _ _ _ (hd n (by omega) (fun e'=>e e'.symm))]
   exact a3B sl t a hs hlt n (by omega) (fun j hj=>hd j (by omega))
theorem evq {A:Act} {s:Nat} {v:Value} (h:A.eval (.tmp s)=v):A.tmps[s]?.getD undef=v:=by rw [← Array.getD_eq_getD_getElem?];exact h
def FH (sl:Nat→Option Nat) (n size:Nat):Bool:=(List.range n).all fun i=>match sl i with
 | none=>true
 | some s=>decide (s < size) && (List.range n).all fun j=>decide (j=i) || !decide (sl j=some s)
theorem qV {sl:Nat→Option Nat} {n size:Nat} (h:FH sl n size=true) {i s:Nat} (hi:i < n) (hs:sl i=some s):s < size∧∀ j,j < n→j ≠ i→sl j ≠ some s:=by
 unfold FH at h
 rw [List.all_eq_true] at h
 have h1:=h i (List.mem_range.2 hi)
 rw [hs] at h1
 simp only [Bool.and_eq_true,decide_eq_true_eq,List.all_eq_true] at h1
 refine ⟨h1.1,fun j hj hne=>?_⟩
 have h2:=h1.2 j (List.mem_range.2 hj)
 simpa [hne] using h2
theorem JU (sl:Nat→Option Nat) (a:Act):∀ n,(∀ i s,i < n→sl i=some s→s < a.tmps.size)→fQ sl (fun i=>a.tmps.getD ((sl i).getD 0) undef) a n=a
 | 0,_=>rfl
 | n+1,h=>by
  show (fQ sl _ a n).put (sl n) _=a
  rw [JU sl a n (fun i s hi=>h i s (by omega))]
  cases hs:sl n with
  | none=>rfl
  | some s =>
   have:=h n s (by omega) hs
   cases a with
   | mk tmps defers =>
    simp only [Act.put,Option.getD_some,Act.mk.injEq,and_true]
    apply Array.ext_getElem?
    intro j
    rw [Array.getElem?_setIfInBounds]
    by_cases e:s=j
    ·subst e
     have h2:s < tmps.size:=this
     rw [if_pos rfl,if_pos h2,hs,Option.getD_some,Array.getD_eq_getD_getElem?,Array.getElem?_eq_getElem h2];rfl
    ·rw [if_neg e]
inductive a6m (P:Program) (R:World) (ops:Array Oper) (fk:Nat→FK) (al:Nat→Nat) (t:Nat→Value) (L:Array Bool) (i:Nat) (o:Oper) (a:Act) (w:World):Prop
 | val (v:Value) (hr:(execOp a.eval o).run P w=.ok (.value v) w) (hf:(fk i).holds R v w) (hw:Region.wanted o (yielded ops a.tmps)=true:=by rfl) (ha:al i=i:=by rfl) (hb:(fk i).fO=false:=by rfl)
 | call (f:FuncId) (args:Array Value) (hr:(execOp a.eval o).run P w=.ok (.enter f args) w) (hc:Calls P f args w fun e w'=>∃ v,e=.returned v∧(fk i).holds R v w'∧Below w.heap.size w w') (hw:Region.wanted o (yielded ops a.tmps)=true:=by rfl) (ha:al i=i:=by rfl) (hb:(fk i).fO=false:=by rfl)
 | alloc2 (u0 u1:Value) (T:TypeId) (hr:(execOp a.eval o).run P w=.ok (.value (.pointer (some ⟨w.heap.size,0,none⟩))) (w.alloc (.cells #[u0,u1] T))) (h0:aP u0=true:=by rfl) (h1:aP u1=true:=by rfl) (hw:Region.wanted o (yielded ops a.tmps)=true:=by rfl) (ha:al i=i:=by rfl) (hk:fk i=.xP:=by rfl)
 | b1f (u0 u1 u2 u3:Value) (T:TypeId) (hr:(execOp a.eval o).run P w=.ok (.value (.pointer (some ⟨w.heap.size,0,none⟩))) (w.alloc (.cells #[u0,u1,u2,u3] T))) (h0:aP u0=true:=by rfl) (h1:aP u1=true:=by rfl) (h2:aP u2=true:=by rfl) (h3:aP u3=true:=by rfl) (hw:Region.wanted o (yielded ops a.tmps)=true:=by rfl) (ha:al i=i:=by rfl) (hk:fk i=.VT:=by rfl)
 | store2 (x:Int) (hd:L.getD (al i) false=true)
  (hr:∀ B u0 u1,t (al i)=.pointer (some ⟨B,0,none⟩)→Bx w B [u0,u1]→∃ g p n c,(execOp a.eval o).run P w=.ok .skip (set2 w B (.bool g) (.slice p n c))∧bU w (.agg #[.bool g,.slice p n c]) x) (hw:Region.wanted o (yielded ops a.tmps)=true:=by rfl) (ho:o.dst=none:=by rfl) (hal:fk (al i)=.xP:=by rfl) (hk:fk i=.a4E x:=by rfl) (hne:al i ≠ i:=by decide)
 | jM (x:Rat) (hd:L.getD (al i) false=true)
  (hr:∀ B u0 u1 u2 u3,t (al i)=.pointer (some ⟨B,0,none⟩)→Bx w B [u0,u1,u2,u3]→∃ g p n c h q m e,(execOp a.eval o).run P w=.ok .skip (QG w B (.bool g) (.slice p n c) (.bool h) (.slice q m e))∧RQ w (.agg #[.bool g,.slice p n c,.bool h,.slice q m e]) x) (hw:Region.wanted o (yielded ops a.tmps)=true:=by rfl) (ho:o.dst=none:=by rfl) (hal:fk (al i)=.VT:=by rfl) (hk:fk i=.a4F x:=by rfl) (hne:al i ≠ i:=by decide)
 | make (v:Value) (ob:Obj) (hr:(execOp a.eval o).run P w=.ok (.value v) (w.alloc ob)) (hf:(fk i).holds R v (w.alloc ob)) (hw:Region.wanted o (yielded ops a.tmps)=true:=by rfl) (ha:al i=i:=by rfl) (hb:(fk i).fO=false:=by rfl)
 | no (hw:Region.wanted o (yielded ops a.tmps)=false) (hf:(fk i).holds R undef w) (ha:al i=i:=by rfl) (hb:(fk i).fO=false:=by rfl)
def DJ (R:World) (N:Nat) (sl:Nat→Option Nat) (fk:Nat→FK) (al:Nat→Nat) (a0:Act) (L:Array Bool) (a:Act) (w:World):Prop :=
 L.size=N∧∃ t:Nat→Value,a=fQ sl t a0 N∧Below R.heap.size R w∧(∀ j,j < N→L.getD j false=true→(fk j).holds R (t (al j)) w)∧(∀ j,j < N→L.getD j false=true→L.getD (al j) false=true) ∧
  (∀ j k,j < N→k < N→j ≠ k→(fk j).fO=true→(fk k).fO=true→L.getD j false=true→L.getD k false=true→t j ≠ t k)
theorem a5i {R w:World} {k:FK} {v:Value} (hk:k.fO=true) (h:k.holds R v w):∃ B,v=.pointer (some ⟨B,0,none⟩)∧B < w.heap.size:=by
 cases k <;> simp [FK.fO] at hk
 ·obtain ⟨B,_,_,h1,_,_,_,h5⟩:=h;exact ⟨B,h1,h5.1⟩
 ·obtain ⟨B,_,_,_,_,h1,_,_,_,_,_,h5⟩:=h;exact ⟨B,h1,h5.1⟩
theorem kW {L:Array Bool} {i j:Nat} (h:(L.setIfInBounds i true).getD j false=true) (hne:j ≠ i):L.getD j false=true:=by rwa [gQ (fun e=>hne e.symm)] at h
theorem rO {L:Array Bool} {i j:Nat} (hl:L.getD i true=false) (h:L.getD j false=true):(L.setIfInBounds i true).getD j false=true:=by
 by_cases e:i=j
 ·subst e;exact jD hl
 ·rw [gQ e];exact h
theorem a0t {L:Array Bool} {i:Nat} (hl:L.getD i true=false) (h:L.getD i false=true):False:=by rw [uI hl] at h;cases h
def wW (fk:Nat→FK) (al:Nat→Nat) (n:Nat):Bool:=(List.range n).all fun j=>(!(fk j).fO || decide (al j=j)) && (!(fk j).isFull || ((fk (al j)).fO && decide (al j < n))) && (List.range n).all fun k=>(decide (k=j) || !(fk j).isFull || !(fk k).isFull || !decide (al j=al k)) && (!(fk j).isFull || !(fk k).a7I)
theorem FX {fk:Nat→FK} {al:Nat→Nat} {n:Nat} (h:wW fk al n=true) {j:Nat} (hj:j < n) (hb:(fk j).fO=true):al j=j:=by
 unfold wW at h
 have h1:=(List.all_eq_true.1 h) j (List.mem_range.2 hj)
 simp only [Bool.and_eq_true] at h1
 have h2:=h1.1.1
 simpa [hb] using h2
theorem vO {fk:Nat→FK} {al:Nat→Nat} {n:Nat} (h:wW fk al n=true) {j:Nat} (hj:j < n) (hb:(fk j).isFull=true):(fk (al j)).fO=true∧al j < n:=by
 unfold wW at h
 have h1:=(List.all_eq_true.1 h) j (List.mem_range.2 hj)
 simp only [Bool.and_eq_true] at h1
 have h2:=h1.1.2
 simpa [hb] using h2
theorem a4A {fk:Nat→FK} {al:Nat→Nat} {n:Nat} (h:wW fk al n=true) {j k:Nat} (hj:j < n) (hk:k < n) (hne:k ≠ j) (hb:(fk j).isFull=true) (hb':(fk k).isFull=true):al j ≠ al k:=by
 unfold wW at h
 have h1:=(List.all_eq_true.1 h) j (List.mem_range.2 hj)
 simp only [Bool.and_eq_true] at h1
 have h2:=(List.all_eq_true.1 h1.2) k (List.mem_range.2 hk)
 rw [Bool.and_eq_true] at h2
 have h3:=h2.1
 simpa [hb,hb',hne] using h3
theorem a6t {fk:Nat→FK} {al:Nat→Nat} {n:Nat} (h:wW fk al n=true) {j k:Nat} (hj:j < n) (hk:k < n) (hb:(fk j).isFull=true):(fk k).a7I=false:=by
 unfold wW at h
 have h1:=(List.all_eq_true.1 h) j (List.mem_range.2 hj)
 simp only [Bool.and_eq_true] at h1
 have h2:=(List.all_eq_true.1 h1.2) k (List.mem_range.2 hk)
 rw [Bool.and_eq_true] at h2
 have h3:=h2.2
 simpa [hb] using h3
section
variable {P:Program} {R:World} {N:Nat} {sl:Nat→Option Nat} {fk:Nat→FK} {al:Nat→Nat} {a0:Act} {L:Array Bool} {w:World} {t:Nat→Value}
theorem DJ.value {i:Nat} {s:Option Nat} (hN:i < N) (hsl:FH sl N a0.tmps.size=true) (hao:wW fk al N=true) (hs:sl i=s) (hl:L.getD i true=false) (hL:L.size=N) (hB:Below R.heap.size R w) (hf:∀ j,j < N→L.getD j false=true→(fk j).holds R (t (al j)) w) (ha:∀ j,j < N→L.getD j false=true→L.getD (al j) false=true)
  (hx:∀ j k,j < N→k < N→j ≠ k→(fk j).fO=true→(fk k).fO=true→L.getD j false=true→L.getD k false=true→t j ≠ t k)
  {v:Value} {w':World} (hb:Below w.heap.size w w') (hv:(fk i).holds R v w') (hai:al i=i) (hbox:(fk i).fO=true→∀ B,B < w.heap.size→v ≠ .pointer (some ⟨B,0,none⟩)) :
  DJ R N sl fk al a0 (L.setIfInBounds i true) ((fQ sl t a0 N).put s v) w':=by
 have hal:∀ j,j < N→L.getD j false=true→al j ≠ i:=fun j hj h e=>a0t hl (e ▸ ha j hj h)
 have hput:(fQ sl t a0 N).put s v=fQ sl (upv t i v) a0 N:=by
  cases hsi:s with
  | none =>
   show fQ sl t a0 N=_
   rw [hsi] at hs
   clear hsl hao hf ha hx hal hv hN hL hbox
   have:∀ n,fQ sl t a0 n=fQ sl (upv t i v) a0 n:=by
    intro n
    induction n with
    | zero=>rfl
    | succ n ih =>
     show (fQ sl t a0 n).put (sl n) (t n)=(fQ sl (upv t i v) a0 n).put (sl n) (upv t i v n)
     rw [ih]
     by_cases e:n=i
     ·subst e;rw [hs];rfl
     ·rw [show upv t i v n=t n from if_neg e]
   exact this N
  | some s' =>
   rw [hsi] at hs
   exact PU sl t a0 v hs N hN (qV hsl hN hs).2
 have hnew:∀ k,k < N→k ≠ i→(fk i).fO=true→(fk k).fO=true→L.getD k false=true→v ≠ t k:=fun k hk e b1 b2 h2=>by
  have hk':=hf k hk h2
  rw [FX hao hk b2] at hk'
  obtain ⟨B,e1,e2⟩:=a5i b2 hk'
  rw [e1];exact hbox b1 B e2
 refine ⟨by simpa using hL,upv t i v,hput,Below.tr hB hb,fun j hj h=>?_,fun j hj h=>?_,fun j k hj hk hne b1 b2 h1 h2=>?_⟩
 ·by_cases e:j=i
  ·subst e;rw [hai,show upv t j v j=v from if_pos rfl];exact hv
  ·have h':=kW h e
   rw [show upv t i v (al j)=t (al j) from if_neg (hal j hj h')]
   exact FK.below hb (hf j hj h')
 ·by_cases e:j=i
  ·subst e;rw [hai];exact jD hl
  ·exact rO hl (ha j hj (kW h e))
 ·by_cases e1:j=i
  ·subst e1
   have e2:k ≠ j:=fun e=>hne e.symm
   rw [show upv t j v j=v from if_pos rfl,show upv t j v k=t k from if_neg e2]
   exact hnew k hk e2 b1 b2 (kW h2 e2)
  ·by_cases e2:k=i
   ·subst e2
    rw [show upv t k v k=v from if_pos rfl,show upv t k v j=t j from if_neg e1]
    exact fun e=>hnew j hj e1 b2 b1 (kW h1 e1) e.symm
   ·rw [show upv t i v j=t j from if_neg e1,show upv t i v k=t k from if_neg e2]
    exact hx j k hj hk hne b1 b2 (kW h1 e1) (kW h2 e2)
theorem DJ.stored {i:Nat} (hN:i < N) (hao:wW fk al N=true) (hl:L.getD i true=false) (hL:L.size=N) (hf:∀ j,j < N→L.getD j false=true→(fk j).holds R (t (al j)) w) (ha:∀ j,j < N→L.getD j false=true→L.getD (al j) false=true)
  (hx:∀ j k,j < N→k < N→j ≠ k→(fk j).fO=true→(fk k).fO=true→L.getD j false=true→L.getD k false=true→t j ≠ t k)
  {w':World} (hd:L.getD (al i) false=true) (hfu:(fk i).isFull=true) (hB:Below R.heap.size R w') (hv:(fk i).holds R (t (al i)) w')
  (hst:∀ k v,k.a7I=false→(k.isFull=true→v ≠ t (al i))→FK.holds R k v w→FK.holds R k v w') :
  DJ R N sl fk al a0 (L.setIfInBounds i true) (fQ sl t a0 N) w':=by
 refine ⟨by simpa using hL,t,rfl,hB,fun j hj h=>?_,fun j hj h=>?_,fun j k hj hk hne b1 b2 h1 h2=>?_⟩
 ·by_cases e:j=i
  ·subst e;exact hv
  ·have h':=kW h e
   refine hst _ _ (a6t hao hN hj hfu) (fun hfj=>?_) (hf j hj h')
   have f1:=vO hao hj hfj
   have f2:=vO hao hN hfu
   exact hx _ _ f1.2 f2.2 (a4A hao hj hN (fun e'=>e e'.symm) hfj hfu) f1.1 f2.1 (ha j hj h') hd
 ·by_cases e:j=i
  ·subst e;exact rO hl hd
  ·exact rO hl (ha j hj (kW h e))
 ·have e1:j ≠ i:=fun e=>by subst e;cases hk1:fk j <;> simp [hk1,FK.fO,FK.isFull] at b1 hfu
  have e2:k ≠ i:=fun e=>by subst e;cases hk1:fk k <;> simp [hk1,FK.fO,FK.isFull] at b2 hfu
  exact hx j k hj hk hne b1 b2 (kW h1 e1) (kW h2 e2)
end
theorem b1o {ops:Array Oper} {N:Nat} {sl:Nat→Option Nat} (h:ops.toList.map (·.dst)=(List.range N).map sl) {i:Nat} {o:Oper} (hi:i < N) (ho:ops[i]?=some o):o.dst=sl i:=by
 have h1:=congrArg (·[i]?) h
 simp only [List.getElem?_map,Array.getElem?_toList,ho,Option.map_some] at h1
 rw [List.getElem?_range hi] at h1
 simpa using h1
section
variable {R:World} {ops:Array Oper} {fk:Nat→FK} {al:Nat→Nat} {t:Nat→Value} {L:Array Bool} {i:Nat} {o:Oper} {a:Act} {w:World}
end
theorem getD_eq {α:Type} {l:List α} {i:Nat} {k d:α} (h:l[i]?=some k):i < l.length∧l.getD i d=k:=by
 obtain ⟨h1,h2⟩:=List.getElem?_eq_some_iff.1 h
 exact ⟨h1,by rw [List.getD_eq_getElem?_getD,h];rfl⟩
end Go.Proofs.YtidfgdchcpmnfaaGreat
