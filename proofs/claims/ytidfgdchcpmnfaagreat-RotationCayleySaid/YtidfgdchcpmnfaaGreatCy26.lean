/-
  Lemmas for the theorem vcayley_holds, part 26 of 33.
-/
import Derived.Test.YtidfgdchcpmnfaaGreatCy06
import Derived.Test.YtidfgdchcpmnfaaGreatCy25
namespace Go.Proofs.YtidfgdchcpmnfaaGreat
open Go.RowKit
set_option maxRecDepth 100000
set_option maxHeartbeats 4000000
set_option linter.unusedSimpArgs false
set_option linter.unusedVariables false
theorem wrap_i64 {k:Nat} (h:k≤9223372036854775807):IntKind.i64.wrap (k:Int)=k:=by simp [IntKind.wrap,IntKind.bits,IntKind.signed];omega
theorem a8q {g1 g2:Bool} {x y:Int} (h1:g1=decide (x < 0)) (h2:g2=decide (y < 0)) {o:List Nat} (ho:val o=val (dig x.natAbs) * val (dig y.natAbs)):sg (g1 != g2) (val o)=x * y:=by
 rw [ho,aI,aI]
 have e1:=qU x
 have e2:=qU y
 rw [← h1] at e1
 rw [← h2] at e2
 generalize x.natAbs=k at *
 generalize y.natAbs=l at *
 subst e1
 subst e2
 cases g1 <;> cases g2 <;> simp [sg,Int.neg_mul,Int.mul_neg]
theorem a5J {g1 g2:Bool} {x y:Int} (h1:g1=decide (x < 0)) (h2:g2=decide (y < 0)) {o:List Nat} (ho:val o=val (dig x.natAbs) * val (dig y.natAbs)):sg (!g1 == g2) (val o)=x * y:=by
 exact a8q h1 h2 ho
theorem nP (v u:Value) (x y:Int) (w:World) (hv:Raw w v x) (hu:Raw w u y) (hl:isz x≤1000000000) (hl2:isz y≤1000000000) :
  Calls Tryz.prog 88 #[v,u] w (kK (x * y) w):=by
 obtain ⟨i0,hi,hz0,hz1,hz2⟩:=info_parts iF
 obtain ⟨b,p,n,c,rfl⟩:=hv.form
 obtain ⟨d,o,m,e,rfl⟩:=hu.form
 have hlx:(dig x.natAbs).length≤1000000000:=hl
 have hly:(dig y.natAbs).length≤1000000000:=hl2
 have aX:Below w.heap.size w w:=Below.refl _ _
 go_enter Tryz.func88,Tryz.ntmps88
 go_wp2_with fail
 obtain ⟨hA1,a0,b0,g0⟩:=bx3 w rfl [.bool b,.slice p n c] 28 [.bool d,.slice o m e] 28 [.bool false,.slice none 0 0] 28
 obtain ⟨l0,t0,p0,w0⟩:=a0.drew.cf2
 obtain ⟨a1,l1,i1,q1⟩:=b0.drew.cf2
 have tk1:True:=trivial
 have tk2:True:=trivial
 go_region_with
  (first
   | (((have:=tk1);clear tk1;have h0:=(hv.below hA1).drew;go_at_call 120;(with_reducible refine (eX _ (x) _ h0 (by omega)).mono ?_);rintro e w1 ⟨v1,rfl,hi1,hb1⟩;obtain ⟨g1,p1,n1,c1,rfl⟩:=hi1.form;obtain rfl:n1=(dig x.natAbs).length:=hi1.len;have hf1:=Lib.hid (bU.flag hi1);have dD:=(b0.drew.to hb1);obtain ⟨d1,m1,j1,s1⟩:=dD.cf2;have bF:=(a0.drew.to hb1);obtain ⟨m0,u0,q0,y0⟩:=bF.cf2))
   | (((have:=tk2);clear tk2;have iM:=((hu.below hA1).drew.below hb1);have j0:=iM;go_at_call 120;(with_reducible refine (eX _ (y) _ j0 (by omega)).mono ?_);rintro e w2 ⟨v2,rfl,hi2,hb2⟩;obtain ⟨g2,p2,n2,c2,rfl⟩:=hi2.form;obtain rfl:n2=(dig y.natAbs).length:=hi2.len;have hf2:=Lib.hid (bU.flag hi2);have bV:=(bF.to hb2);obtain ⟨n0,v0,s0,z0⟩:=bV.cf2;have bJ:=(dD.to hb2);obtain ⟨e1,o1,k1,t1⟩:=bJ.cf2)))
 all_goals
  have k0:=(hi1.below hb2)
  have kS:=((g0.drew.to hb1).to hb2)
  have d0:=(Below.tr (Below.tr (Below.tr aX hA1).drew hb1) hb2)
  have hx:=(((k0.aC bV rfl rfl (.bool g1) (.slice p1 (dig x.natAbs).length c1)).aC (bJ.aH (b:=w.heap.size) (by omega) (.bool g1) (.slice p1 (dig x.natAbs).length c1)) rfl rfl (.bool g2) (.slice p2 (dig y.natAbs).length c2))).rd
  have hy:=(((hi2.aC bV rfl rfl (.bool g1) (.slice p1 (dig x.natAbs).length c1)).aC (bJ.aH (b:=w.heap.size) (by omega) (.bool g1) (.slice p1 (dig x.natAbs).length c1)) rfl rfl (.bool g2) (.slice p2 (dig y.natAbs).length c2))).rd
  have qx:=((bV.store2 (.bool g1) (.slice p1 (dig x.natAbs).length c1)).aH (b:=w.heap.size+1) (by omega) (.bool g2) (.slice p2 (dig y.natAbs).length c2))
  have qy:=((bJ.aH (b:=w.heap.size) (by omega) (.bool g1) (.slice p1 (dig x.natAbs).length c1)).store2 (.bool g2) (.slice p2 (dig y.natAbs).length c2))
  have qr:=((kS.aH (b:=w.heap.size) (by omega) (.bool g1) (.slice p1 (dig x.natAbs).length c1)).aH (b:=w.heap.size+1) (by omega) (.bool g2) (.slice p2 (dig y.natAbs).length c2))
  have hBB:=(Below.aC (Below.aC d0 (b:=w.heap.size) (by omega) (.bool g1) (.slice p1 (dig x.natAbs).length c1)) (b:=w.heap.size+1) (by omega) (.bool g2) (.slice p2 (dig y.natAbs).length c2))
  generalize ((((w2.setCell ⟨w.heap.size,0,none⟩ (.bool g1)).setCell ⟨w.heap.size,1,none⟩ (.slice p1 (dig x.natAbs).length c1)).setCell ⟨w.heap.size+1,0,none⟩ (.bool g2)).setCell ⟨w.heap.size+1,1,none⟩ (.slice p2 (dig y.natAbs).length c2))=W at *
  have hlow1:=bK x.natAbs
  have hlow2:=bK y.natAbs
  have b6Q:=Lib.hid (fun (o:List Nat) (h:val o=val (dig x.natAbs) * val (dig y.natAbs))=>a5J hf1.out hf2.out h)
  generalize dig x.natAbs=a at *
  generalize dig y.natAbs=bb at *
  have HA:=Lib.hid hlow1
  have HB:=Lib.hid hlow2
  clear hlow1 hlow2
  obtain ⟨N,hN⟩:∃ N:Nat,(a.length:Int)+bb.length=N:=⟨a.length+bb.length,by omega⟩
  have hN':N=a.length+bb.length:=by omega
  have HN:=Lib.hid hN'
  have nn1:N≤2000000000:=by omega
  have nn2:a.length+bb.length≤N:=by omega
  clear hN'
  have qx1:=qx.c1
  have qy1:=qy.c1
  go_wp2_with (at_make;refine wpList_make_full _ rfl _ _ 26 rfl W.heap.size 118 i0 (.int .u32 0) 1 Tryz.underlying26 hi hz0 hz1 _ _ _ _ N rfl rfl (by omega) (by omega) (by rw [hz2];omega) (by unfold maxLen;omega) (Nat.le_refl _) ?_)
  intro w3 hown hgrow
  rw [jB] at hown
  have hB3:Below W.heap.size W w3:=(Below.refl _ _).grown hgrow (Nat.le_refl _) (fun k e=>by cases e)
  clear hgrow hN qx1 qy1
  go_wp2_with fail
  go_loopw [6,7,8,9,22,23,24,25,26,27,28,29,30,31,32,33,34,35,36,37,38,39,40,41,42,43,44,45,46,47,48,49,50,51,52,53,54,55,56,57,58,59,60,61,62,63,64,65,66,67,68,69,70,71,72,73,74,75,76,77] (fun i _ _ _ _ _ _ _ _ _ _ _ _ _ _ _ _ _ _ _ _ _ _ _ _ _ _ _ _ _ _ _ _ _ _ _ _ _ _ _ _ _ _ _ _ _ _ _ _ _ _ _ _ _ _ _ _ _ _ _ wr=>∃ (k:Nat) (o:List Nat),k≤a.length∧i=.int .i64 (k:Nat)∧lS a bb o N k∧wr.ownsRow W.heap.size 118 1 (.slice (some ⟨W.heap.size,0,none⟩) N N) N (cells32 o)∧Below W.heap.size W wr) (fun i _ _ _ _ _ _ _ _ _ _ _ _ _ _ _ _ _ _ _ _ _ _ _ _ _ _ _ _ _ _ _ _ _ _ _ _ _ _ _ _ _ _ _ _ _ _ _ _ _ _ _ _ _ _ _ _ _ _ _ _=>a.length - (intOf i).toNat)
  case atStart=>exact ⟨0,_,by omega,rfl,lS.start _ _ _,hown,hB3⟩
  case round =>
   obtain ⟨k,o0,hk,rfl,hI,hO,hB⟩:=hrel
   have qx':=qx.to hB
   have qx1:=qx'.c1
   by_cases hlt:k < a.length
   ·have ga:gr a k≤999999999:=gB HA.out k
    go_wp2_with fail
    obtain ⟨wo,rfl⟩:∃ wo:World,wo=wr:=⟨_,rfl⟩
    go_loopw [7,8,9,29,30,31,32,33,34,35,36,37,38,39,40,41,42,43,44,45,46,47,48,49,50,51,52,53,54,55,56,57,58,59,60,61,62,63,64,65,66,67,68] (fun cc i _ _ _ _ _ _ _ _ _ _ _ _ _ _ _ _ _ _ _ _ _ _ _ _ _ _ _ _ _ _ _ _ _ _ _ _ _ _ _ _ _ wr=>∃ (j e:Nat) (o:List Nat),j≤bb.length∧i=.int .i64 (j:Nat)∧cc=.int .u64 (e:Nat)∧kX o0 bb o N k (gr a k) j e∧wr.ownsRow W.heap.size 118 1 (.slice (some ⟨W.heap.size,0,none⟩) N N) N (cells32 o)∧Below W.heap.size W wr) (fun _ i _ _ _ _ _ _ _ _ _ _ _ _ _ _ _ _ _ _ _ _ _ _ _ _ _ _ _ _ _ _ _ _ _ _ _ _ _ _ _ _ _ _=>bb.length - (intOf i).toNat)
    case atStart=>exact ⟨0,0,o0,by omega,rfl,rfl,kX.start hI.len hI.low,hO,hB⟩
    case round =>
     obtain ⟨j,e,o,hj,rfl,rfl,hI2,hO2,hB2⟩:=hrel
     clear qx' qx1
     have qx':=qx.to hB2
     have qy':=qy.to hB2
     have qx1:=qx'.c1
     have qy1:=qy'.c1
     have ge:e≤999999999:=by have:=hI2.car;omega
     by_cases a7s:j < bb.length
     ·have gb:gr bb j≤999999999:=gB HB.out j
      have go:gr o (k+j)≤999999999:=gB hI2.low (k+j)
      have hN:=hI2.step (by omega) (by omega) (by omega)
      obtain ⟨ba,oa,rfl,hba,hca⟩:=hx.at (by intro e;subst e;simp at hlt)
      have hcell:wr.cell? ⟨ba,oa+k,none⟩=some (.int .u32 (gr a k:Nat)):=(hB2.cell (p:=⟨ba,oa+k,none⟩) hba).trans (hca k hlt)
      obtain ⟨bc,ob,rfl,hbb,hcb⟩:=hy.at (by intro e;subst e;simp at a7s)
      have e0:wr.cell? ⟨bc,ob+j,none⟩=some (.int .u32 (gr bb j:Nat)):=(hB2.cell (p:=⟨bc,ob+j,none⟩) hbb).trans (hcb j a7s)
      have hcl:wr.cell? ⟨W.heap.size,k+j,none⟩=some (.int .u32 (gr o (k+j):Nat)):=by
       rw [hO2.cellAt (k+j) (by omega)];exact dZ (by rw [hI2.len];omega)
      have hfr:=hO2.frozenAt (k+j)
      have hst:=fun v:Nat=>(fJ o (k+j) v) ▸ hO2.stored (k+j) (.int .u32 (v:Nat))
      obtain ⟨t,ht⟩:∃ t,k+j=t:=⟨_,rfl⟩
      rw [ht] at hcl hfr hst hN go
      obtain ⟨x0,hx0⟩:∃ x0,gr o t=x0:=⟨_,rfl⟩
      obtain ⟨pa,hpa⟩:∃ pa,gr a k=pa:=⟨_,rfl⟩
      obtain ⟨pb,hpb⟩:∃ pb,gr bb j=pb:=⟨_,rfl⟩
      rw [hx0] at hcl hN go
      rw [hpa] at hcell ga
      rw [hpb] at e0 hN gb
      obtain ⟨m,hm⟩:∃ m:Nat,(pa:Int) * pb=m:=⟨pa * pb,by simp⟩
      have hm2:m≤999999998000000001:=by
       have h1:pa * pb≤999999999 * 999999999:=Nat.mul_le_mul ga gb
       have h2:((pa * pb:Nat):Int)=m:=by rw [← hm];simp
       omega
      have hm3:pa * pb=m:=by
       have h2:((pa * pb:Nat):Int)=m:=by rw [← hm];simp
       omega
      rw [hpa,hm3] at hN
      obtain ⟨s2,hs2⟩:∃ s2:Nat,(x0:Int)+m+e=s2:=⟨x0+m+e,by simp⟩
      have b6k:x0+m+e=s2:=by omega
      rw [b6k] at hN
      obtain ⟨r,hr⟩:∃ r,s2 % 1000000000=r:=⟨_,rfl⟩
      obtain ⟨v,hv'⟩:∃ v,s2 / 1000000000=v:=⟨_,rfl⟩
      rw [hr,hv'] at hN
      have hr2:(s2:Int) % 1000000000=r:=by omega
      have hv2:(s2:Int) / 1000000000=v:=by omega
      have hr3:r≤999999999:=by omega
      have hst:=hst r
      have hti:(k:Int)+j=t:=by omega
      have wt:IntKind.i64.wrap ((k:Int)+j)=t:=by rw [hti];exact wrap_i64 (by omega)
      have w1:IntKind.u64.wrap ((pa:Int) * pb)=m:=by rw [hm];exact wrap_u64 (by omega)
      have w2:IntKind.u64.wrap ((x0:Int)+m)=(x0:Int)+m:=by
       have:(x0:Int)+m=((x0+m:Nat):Int):=by simp
       rw [this];exact wrap_u64 (by omega)
      have w4:IntKind.u64.wrap ((x0:Int)+m+e)=s2:=by rw [hs2];exact wrap_u64 (by omega)
      have b1:(0:Int)≤t:=by omega
      have b2:(t:Int) < N:=by omega
      have b3:(k:Int) < a.length:=by omega
      have b4:(j:Int) < bb.length:=by omega
      have b5:(0:Int)≤k:=by omega
      have b6:(0:Int)≤j:=by omega
      have b7:t < N:=by omega
      have HN2:=Lib.hid hN
      have HST:=Lib.hid hst
      have HPA:=Lib.hid hpa
      clear hca hcb hN hst hx0 hpa hpb hm3 b6k hr hv' ht
      go_wp2_with fail
      go_quiet (fail)
      go_wp2_with fail
      go_roundw
      case rel=>exact ⟨j+1,v,_,by omega,by go_num,rfl,by rw [HPA.out];exact HN2.out,by first | exact jH HST.out.1 (Below.nY (Below.refl _ _) _) | (rw [← fJ];exact ((jH hO2 (Below.nY (Below.refl _ _) _)).stored t (.int .u32 (r:Nat))).1),by first | exact (Below.nY hB2 _).setCell (p:=⟨W.heap.size,t,none⟩) (Nat.le_refl _) _ | exact Below.nY (hB2.setCell (p:=⟨W.heap.size,t,none⟩) (Nat.le_refl _) _) _⟩
      case measure=>simp [intOf];omega
     ·obtain rfl:j=bb.length:=by omega
      have hN:=kX.done hI hI2 (by omega)
      have hcl:wr.cell? ⟨W.heap.size,k+bb.length,none⟩=some (.int .u32 (gr o (k+bb.length):Nat)):=by
       rw [hO2.cellAt (k+bb.length) (by omega)];exact dZ (by rw [hI2.len];omega)
      have hfr:=hO2.frozenAt (k+bb.length)
      go_wp2_with fail
      have hst:=hO2.stored (k+bb.length) (.int .u32 (e:Nat))
      rw [fJ] at hst
      go_roundw
      case rel=>exact ⟨k+1,_,by omega,by go_num,hN,hst.1,hB2.setCell (p:=⟨W.heap.size,k+bb.length,none⟩) (Nat.le_refl _) _⟩
      case measure=>simp [intOf];omega
   ·obtain rfl:k=a.length:=by omega
    have hvv:=hI.done HN.out
    have HXX:=Lib.hid (b6Q.out o0 hvv)
    have hlow:=hI.low
    have hlen:=hI.len
    have hR:=Rd.bY (l:=o0) (by rw [hlen];exact hO)
    have HLN:=Lib.hid hlen
    have qy':=qy.to hB
    have qr':=qr.to hB
    have qx0:=qx'.c0
    have qy0:=qy'.c0
    clear hvv hlen
    go_wp2_with fail
    refine (gW _ _ o0 _ hR hlow (by rw [HLN.out];omega)).mono ?_
    rintro e2 w4 ⟨v2,rfl,hi4,hb4⟩
    obtain ⟨g4,p4,n4,c4,rfl⟩:=hi4.form
    have q4:=qr'.to hb4
    have r0:=q4.c0
    have r1:=q4.c1
    have f0:=q4.f0
    have f1:=q4.f1
    have hB4:=Below.tr (Below.tr hBB hB) hb4
    go_wp2_with fail
    exact bodyPost_ret (v:=.agg #[.bool g4,.slice p4 n4 c4]) (by simp [results,Tryz.results88,go_sem,r0,r1]) rfl ⟨_,rfl,bU.aC (dH hi4 HXX.out) q4 rfl rfl _ _,Below.aC hB4 (by omega) _ _⟩
end Go.Proofs.YtidfgdchcpmnfaaGreat
namespace Go.Proofs.YtidfgdchcpmnfaaGreat
open Go.RowKit
set_option maxRecDepth 100000
set_option maxHeartbeats 4000000
set_option linter.unusedSimpArgs false
set_option linter.unusedVariables false
theorem a4Q (a b:Bool) (x y:Int) (ha:a=decide (x < 0)) (hb:b=decide (y < 0)) (h:decide (x < 0)=decide (y < 0)):(a == b)=true:=by subst ha;subst hb;simpa using h
theorem MR (a b:Bool) (x y:Int) (ha:a=decide (x < 0)) (hb:b=decide (y < 0)) (h:decide (x < 0) ≠ decide (y < 0)):(a == b)=false:=by subst ha;subst hb;simpa using h
theorem a2u (v u:Value) (x y:Int) (w:World) (hv:Raw w v x) (hu:Raw w u y) (hl:isz x≤1000000000) (hl2:isz y≤1000000000) (h:decide (x < 0)=decide (y < 0)) :
  Calls Tryz.prog 87 #[v,u] w (kK (x+y) w):=by
 obtain ⟨b,p,n,c,rfl⟩:=hv.form
 obtain ⟨d,o,m,e,rfl⟩:=hu.form
 have HX:=Lib.hid h
 have hlx:(dig x.natAbs).length≤1000000000:=hl
 have hly:(dig y.natAbs).length≤1000000000:=hl2
 have a9B:(dig x.natAbs).length≤2000000000:=by omega
 have hlp:(dig (val (dig x.natAbs)+val (dig y.natAbs))).length≤2000000001:=by
  have:=a4d x.natAbs y.natAbs
  rw [aI,aI]
  unfold nsz at this
  omega
 clear h
 have aX:Below w.heap.size w w:=Below.refl _ _
 go_enter Tryz.func87,Tryz.ntmps87
 go_wp2_with fail
 obtain ⟨hA1,m0,n0,q0⟩:=bx3 w rfl [.bool b,.slice p n c] 28 [.bool d,.slice o m e] 28 [.bool false,.slice none 0 0] 28
 obtain ⟨x0,e1,a1,h1⟩:=m0.drew.cf2
 obtain ⟨j1,r1,m1,t1⟩:=n0.drew.cf2
 have tk1:True:=trivial
 have tk2:True:=trivial
 go_region_with
  (first
   | (((have:=tk1);clear tk1;have r0:=(hv.below hA1).drew;go_at_call 120;(with_reducible refine (eX _ (x) _ r0 (by omega)).mono ?_);rintro e w1 ⟨v1,rfl,hi1,hb1⟩;obtain ⟨g1,p1,n1,c1,rfl⟩:=hi1.form;have hf1:=Lib.hid (bU.flag hi1);have dD:=(n0.drew.to hb1);obtain ⟨k1,s1,o1,u1⟩:=dD.cf2;have bF:=(m0.drew.to hb1);obtain ⟨y0,f1,b1,i1⟩:=bF.cf2))
   | (((have:=tk2);clear tk2;have iM:=((hu.below hA1).drew.below hb1);have s0:=iM;go_at_call 120;(with_reducible refine (eX _ (y) _ s0 (by omega)).mono ?_);rintro e w2 ⟨v2,rfl,hi2,hb2⟩;obtain ⟨g2,p2,n2,c2,rfl⟩:=hi2.form;have hf2:=Lib.hid (bU.flag hi2);have hgg:=a4Q g1 g2 x y hf1.out hf2.out HX.out;have bV:=(bF.to hb2);obtain ⟨a0,c0,b0,d0⟩:=bV.cf2;have bJ:=(dD.to hb2);obtain ⟨e0,g0,f0,h0⟩:=bJ.cf2)))
 all_goals
  obtain ⟨z0,d1⟩:=((bV.store2 (.bool g1) (.slice p1 n1 c1)).aH (b:=w.heap.size+1) (by omega) (.bool g2) (.slice p2 n2 c2)).cs2
  obtain ⟨l1,q1⟩:=((bJ.aH (b:=w.heap.size) (by omega) (.bool g1) (.slice p1 n1 c1)).store2 (.bool g2) (.slice p2 n2 c2)).cs2
  go_wp2_with fail
  have kS:=((q0.drew.to hb1).to hb2)
  have a6l:=(aN.mk (((bV.store2 (.bool g1) (.slice p1 n1 c1)).aH (b:=w.heap.size+1) (by omega) (.bool g2) (.slice p2 n2 c2)).drew).bs2 (aN.mk (((bJ.aH (b:=w.heap.size) (by omega) (.bool g1) (.slice p1 n1 c1)).store2 (.bool g2) (.slice p2 n2 c2)).drew).bs2 (BN.of (((kS.aH (b:=w.heap.size) (by omega) (.bool g1) (.slice p1 n1 c1)).aH (b:=w.heap.size+1) (by omega) (.bool g2) (.slice p2 n2 c2)).drew))))
  have o0:dB (w.heap.size+1+1) (aN (BS2 w.heap.size (.bool g1) (.slice p1 n1 c1)) (aN (BS2 (w.heap.size+1) (.bool g2) (.slice p2 n2 c2)) (BN (w.heap.size+1+1)))):=(aN.hc (BS2.hc (by omega)) (aN.hc (BS2.hc (by omega)) BN.hc))
  have tk3:True:=trivial
  have tk4:True:=trivial
  go_region_held3 (aN (BS2 w.heap.size (.bool g1) (.slice p1 n1 c1)) (aN (BS2 (w.heap.size+1) (.bool g2) (.slice p2 n2 c2)) (BN (w.heap.size+1+1)))) (first | with_reducible exact a6l | with_reducible exact fV.go (aN.hk BS2.hk (aN.hk BS2.hk BN.hk)) (by assumption) (by assumption) | with_reducible exact dB.go2 o0 (by assumption) | (simp;done))
   (first
    | (((have:=tk3);clear tk3;have w0:=(hi1.below hb2);have t0:=((w0.aC bV rfl rfl (.bool g1) (.slice p1 n1 c1)).aC (bJ.aH (b:=w.heap.size) (by omega) (.bool g1) (.slice p1 n1 c1)) rfl rfl (.bool g2) (.slice p2 n2 c2)).drew.rd;have u0:=((hi2.aC bV rfl rfl (.bool g1) (.slice p1 n1 c1)).aC (bJ.aH (b:=w.heap.size) (by omega) (.bool g1) (.slice p1 n1 c1)) rfl rfl (.bool g2) (.slice p2 n2 c2)).drew.rd;go_at_call 128;(with_reducible refine (a5M _ _ _ _ _ t0 u0 (bK _) (bK _) hlx hly).mono ?_);rintro e w3 ⟨s3,rfl,hs3,hfr3,hb3⟩;obtain ⟨p3,c3,rfl,RI,RJ⟩:=hs3.form))
    | (((have:=tk4);clear tk4;have v0:=hs3;go_at_call 127;(with_reducible refine (gW _ _ _ _ v0 (bK _) hlp).mono ?_);rintro e w4 ⟨v4,rfl,hi4,hb4⟩;obtain ⟨g4,p4,n4,c4,rfl⟩:=hi4.form;have lF:=((((kS.aH (b:=w.heap.size) (by omega) (.bool g1) (.slice p1 n1 c1)).aH (b:=w.heap.size+1) (by omega) (.bool g2) (.slice p2 n2 c2)).drew.to hb3).to hb4);obtain ⟨i0,k0,j0,l0⟩:=lF.cf2)))
  have p0:=(Below.tr (Below.tr (Below.aC (Below.aC (Below.tr (Below.tr (Below.tr aX hA1).drew hb1) hb2) (b:=w.heap.size) (by omega) (.bool g1) (.slice p1 n1 c1)) (b:=w.heap.size+1) (by omega) (.bool g2) (.slice p2 n2 c2)).drew hb3) hb4)
  go_wp2_with fail
  exact bodyPost_ret (v:=.agg #[.bool g4,.slice p4 n4 c4]) (by simp [results,Tryz.results87,go_sem,a0,c0,b0,d0,e0,g0,f0,h0,i0,k0,j0,l0]) rfl ⟨_,rfl,dH (hi4.aC lF rfl rfl (.bool g4) (.slice p4 n4 c4)) (a5C hf1.out hf2.out HX.out),(Below.aC p0 (b:=w.heap.size+1+1) (by omega) (.bool g4) (.slice p4 n4 c4))⟩
theorem a2s (v u:Value) (x y:Int) (w:World) (hv:Raw w v x) (hu:Raw w u y) (hl:isz x≤1000000000) (hl2:isz y≤1000000000) (h:decide (x < 0) ≠ decide (y < 0)) (h2:y.natAbs≤x.natAbs) :
  Calls Tryz.prog 87 #[v,u] w (kK (x+y) w):=by
 obtain ⟨b,p,n,c,rfl⟩:=hv.form
 obtain ⟨d,o,m,e,rfl⟩:=hu.form
 have HX:=Lib.hid h
 have hlx:(dig x.natAbs).length≤1000000000:=hl
 have hly:(dig y.natAbs).length≤1000000000:=hl2
 have a9B:(dig x.natAbs).length≤2000000000:=by omega
 have HL:=Lib.hid h2
 have hvv:val (dig y.natAbs)≤val (dig x.natAbs):=by rw [aI,aI];omega
 have hll:(dig y.natAbs).length≤(dig x.natAbs).length:=aO (by omega)
 have hld:(dig (val (dig x.natAbs) - val (dig y.natAbs))).length≤2000000001:=by
  have:=aO (show val (dig x.natAbs) - val (dig y.natAbs)≤x.natAbs by rw [aI,aI];omega)
  omega
 obtain ⟨cv,hcv⟩:∃ cv,dA (val (dig x.natAbs)) (val (dig y.natAbs))=cv:=⟨_,rfl⟩
 have HCV:=Lib.hid hcv
 rw [aI,aI] at hcv
 have hdc:decide (0≤cv)=true:=by
  have:0≤cv:=by
   rw [← hcv];unfold dA
   rw [if_neg (by omega)];split <;> omega
  simpa using this
 have b6f:(dig x.natAbs).length≤1000000002:=by omega
 have b6g:(dig y.natAbs).length≤1000000002:=by omega
 clear h2 hcv
 clear h
 have aX:Below w.heap.size w w:=Below.refl _ _
 go_enter Tryz.func87,Tryz.ntmps87
 go_wp2_with fail
 obtain ⟨hA1,m0,n0,r0⟩:=bx3 w rfl [.bool b,.slice p n c] 28 [.bool d,.slice o m e] 28 [.bool false,.slice none 0 0] 28
 obtain ⟨b1,j1,f1,l1⟩:=m0.drew.cf2
 obtain ⟨o1,x1,s1,z1⟩:=n0.drew.cf2
 have tk1:True:=trivial
 have tk2:True:=trivial
 go_region_with
  (first
   | (((have:=tk1);clear tk1;have s0:=(hv.below hA1).drew;go_at_call 120;(with_reducible refine (eX _ (x) _ s0 (by omega)).mono ?_);rintro e w1 ⟨v1,rfl,hi1,hb1⟩;obtain ⟨g1,p1,n1,c1,rfl⟩:=hi1.form;have hf1:=Lib.hid (bU.flag hi1);have dD:=(n0.drew.to hb1);obtain ⟨q1,y1,t1,a2⟩:=dD.cf2;have bF:=(m0.drew.to hb1);obtain ⟨d1,k1,h1,m1⟩:=bF.cf2))
   | (((have:=tk2);clear tk2;have iM:=((hu.below hA1).drew.below hb1);have t0:=iM;go_at_call 120;(with_reducible refine (eX _ (y) _ t0 (by omega)).mono ?_);rintro e w2 ⟨v2,rfl,hi2,hb2⟩;obtain ⟨g2,p2,n2,c2,rfl⟩:=hi2.form;have hf2:=Lib.hid (bU.flag hi2);have hgg:=MR g1 g2 x y hf1.out hf2.out HX.out;have bV:=(bF.to hb2);obtain ⟨a0,c0,b0,d0⟩:=bV.cf2;have bJ:=(dD.to hb2);obtain ⟨e0,g0,f0,h0⟩:=bJ.cf2)))
 all_goals
  obtain ⟨e1,i1⟩:=((bV.store2 (.bool g1) (.slice p1 n1 c1)).aH (b:=w.heap.size+1) (by omega) (.bool g2) (.slice p2 n2 c2)).cs2
  obtain ⟨r1,u1⟩:=((bJ.aH (b:=w.heap.size) (by omega) (.bool g1) (.slice p1 n1 c1)).store2 (.bool g2) (.slice p2 n2 c2)).cs2
  go_wp2_with fail
  have o0:=(hi1.below hb2)
  have u0:=((o0.aC bV rfl rfl (.bool g1) (.slice p1 n1 c1)).aC (bJ.aH (b:=w.heap.size) (by omega) (.bool g1) (.slice p1 n1 c1)) rfl rfl (.bool g2) (.slice p2 n2 c2)).rd
  have v0:=((hi2.aC bV rfl rfl (.bool g1) (.slice p1 n1 c1)).aC (bJ.aH (b:=w.heap.size) (by omega) (.bool g1) (.slice p1 n1 c1)) rfl rfl (.bool g2) (.slice p2 n2 c2)).rd
  (with_reducible refine (rD _ _ _ _ _ u0 v0 (bH _) (bH _) a9B).mono ?_)
  rw [HCV.out]
  rintro e w3 ⟨rfl,hb3⟩
  go_wp2_with fail
  have gJ:=(((bV.store2 (.bool g1) (.slice p1 n1 c1)).aH (b:=w.heap.size+1) (by omega) (.bool g2) (.slice p2 n2 c2)).to hb3)
  have lV:=(((bJ.aH (b:=w.heap.size) (by omega) (.bool g1) (.slice p1 n1 c1)).store2 (.bool g2) (.slice p2 n2 c2)).to hb3)
  have BH:=(((((r0.drew.to hb1).to hb2).aH (b:=w.heap.size) (by omega) (.bool g1) (.slice p1 n1 c1)).aH (b:=w.heap.size+1) (by omega) (.bool g2) (.slice p2 n2 c2)).to hb3)
  have b6W:=(aN.mk (gJ.drew).bs2 (aN.mk (lV.drew).bs2 (BN.of (BH.drew))))
  have p0:dB (w.heap.size+1+1) (aN (BS2 w.heap.size (.bool g1) (.slice p1 n1 c1)) (aN (BS2 (w.heap.size+1) (.bool g2) (.slice p2 n2 c2)) (BN (w.heap.size+1+1)))):=(aN.hc (BS2.hc (by omega)) (aN.hc (BS2.hc (by omega)) BN.hc))
  have tk3:True:=trivial
  have tk4:True:=trivial
  go_region_held3 (aN (BS2 w.heap.size (.bool g1) (.slice p1 n1 c1)) (aN (BS2 (w.heap.size+1) (.bool g2) (.slice p2 n2 c2)) (BN (w.heap.size+1+1)))) (first | with_reducible exact b6W | with_reducible exact fV.go (aN.hk BS2.hk (aN.hk BS2.hk BN.hk)) (by assumption) (by assumption) | with_reducible exact dB.go2 p0 (by assumption) | (simp;done))
   (first
    | (((have:=tk3);clear tk3;have z0:=(((o0.aC bV rfl rfl (.bool g1) (.slice p1 n1 c1)).aC (bJ.aH (b:=w.heap.size) (by omega) (.bool g1) (.slice p1 n1 c1)) rfl rfl (.bool g2) (.slice p2 n2 c2)).below hb3);have w0:=z0.drew.rd;have a1:=(((hi2.aC bV rfl rfl (.bool g1) (.slice p1 n1 c1)).aC (bJ.aH (b:=w.heap.size) (by omega) (.bool g1) (.slice p1 n1 c1)) rfl rfl (.bool g2) (.slice p2 n2 c2)).below hb3);have x0:=a1.drew.rd;go_at_call 130;(with_reducible refine (wG _ _ _ _ _ w0 x0 (bK _) (bK _) b6f hll hvv).mono ?_);rintro e w4 ⟨s4,rfl,hs4,b7m,hb4⟩;obtain ⟨p4,c4,rfl,a7r,a7u⟩:=hs4.form))
    | (((have:=tk4);clear tk4;have y0:=hs4;go_at_call 127;(with_reducible refine (gW _ _ _ _ y0 (bK _) hld).mono ?_);rintro e w5 ⟨v5,rfl,hi5,hb5⟩;obtain ⟨g5,p5,n5,c5,rfl⟩:=hi5.form;have yV:=((BH.drew.to hb4).to hb5);obtain ⟨i0,k0,j0,l0⟩:=yV.cf2)))
  have q0:=(Below.tr (Below.tr (Below.tr (Below.aC (Below.aC (Below.tr (Below.tr (Below.tr aX hA1).drew hb1) hb2) (b:=w.heap.size) (by omega) (.bool g1) (.slice p1 n1 c1)) (b:=w.heap.size+1) (by omega) (.bool g2) (.slice p2 n2 c2)) hb3).drew hb4) hb5)
  go_wp2_with fail
  exact bodyPost_ret (v:=.agg #[.bool g5,.slice p5 n5 c5]) (by simp [results,Tryz.results87,go_sem,a0,c0,b0,d0,e0,g0,f0,h0,i0,k0,j0,l0]) rfl ⟨_,rfl,dH (hi5.aC yV rfl rfl (.bool g5) (.slice p5 n5 c5)) (a5B hf1.out hf2.out HX.out HL.out),(Below.aC q0 (b:=w.heap.size+1+1) (by omega) (.bool g5) (.slice p5 n5 c5))⟩
theorem a0C (v u:Value) (x y:Int) (w:World) (hv:Raw w v x) (hu:Raw w u y) (hl:isz x≤1000000000) (hl2:isz y≤1000000000) (h:decide (x < 0) ≠ decide (y < 0)) (h2:x.natAbs < y.natAbs) :
  Calls Tryz.prog 87 #[v,u] w (kK (x+y) w):=by
 obtain ⟨b,p,n,c,rfl⟩:=hv.form
 obtain ⟨d,o,m,e,rfl⟩:=hu.form
 have HX:=Lib.hid h
 have hlx:(dig x.natAbs).length≤1000000000:=hl
 have hly:(dig y.natAbs).length≤1000000000:=hl2
 have a9B:(dig x.natAbs).length≤2000000000:=by omega
 have HL:=Lib.hid h2
 have hvv:val (dig x.natAbs)≤val (dig y.natAbs):=by rw [aI,aI];omega
 have hll:(dig x.natAbs).length≤(dig y.natAbs).length:=aO (by omega)
 have hld:(dig (val (dig y.natAbs) - val (dig x.natAbs))).length≤2000000001:=by
  have:=aO (show val (dig y.natAbs) - val (dig x.natAbs)≤y.natAbs by rw [aI,aI];omega)
  omega
 obtain ⟨cv,hcv⟩:∃ cv,dA (val (dig x.natAbs)) (val (dig y.natAbs))=cv:=⟨_,rfl⟩
 have HCV:=Lib.hid hcv
 rw [aI,aI] at hcv
 have hdc:decide (0≤cv)=false:=by
  have:¬ 0≤cv:=by
   rw [← hcv];unfold dA
   rw [if_pos (by omega)];omega
  simpa using this
 have b6f:(dig x.natAbs).length≤1000000002:=by omega
 have b6g:(dig y.natAbs).length≤1000000002:=by omega
 clear h2 hcv
 clear h
 have aX:Below w.heap.size w w:=Below.refl _ _
 go_enter Tryz.func87,Tryz.ntmps87
 go_wp2_with fail
 obtain ⟨hA1,m0,n0,r0⟩:=bx3 w rfl [.bool b,.slice p n c] 28 [.bool d,.slice o m e] 28 [.bool false,.slice none 0 0] 28
 obtain ⟨b1,j1,f1,l1⟩:=m0.drew.cf2
 obtain ⟨o1,x1,s1,z1⟩:=n0.drew.cf2
 have tk1:True:=trivial
 have tk2:True:=trivial
 go_region_with
  (first
   | (((have:=tk1);clear tk1;have s0:=(hv.below hA1).drew;go_at_call 120;(with_reducible refine (eX _ (x) _ s0 (by omega)).mono ?_);rintro e w1 ⟨v1,rfl,hi1,hb1⟩;obtain ⟨g1,p1,n1,c1,rfl⟩:=hi1.form;have hf1:=Lib.hid (bU.flag hi1);have dD:=(n0.drew.to hb1);obtain ⟨q1,y1,t1,a2⟩:=dD.cf2;have bF:=(m0.drew.to hb1);obtain ⟨d1,k1,h1,m1⟩:=bF.cf2))
   | (((have:=tk2);clear tk2;have iM:=((hu.below hA1).drew.below hb1);have t0:=iM;go_at_call 120;(with_reducible refine (eX _ (y) _ t0 (by omega)).mono ?_);rintro e w2 ⟨v2,rfl,hi2,hb2⟩;obtain ⟨g2,p2,n2,c2,rfl⟩:=hi2.form;have hf2:=Lib.hid (bU.flag hi2);have hgg:=MR g1 g2 x y hf1.out hf2.out HX.out;have bV:=(bF.to hb2);obtain ⟨a0,c0,b0,d0⟩:=bV.cf2;have bJ:=(dD.to hb2);obtain ⟨e0,g0,f0,h0⟩:=bJ.cf2)))
 all_goals
  obtain ⟨e1,i1⟩:=((bV.store2 (.bool g1) (.slice p1 n1 c1)).aH (b:=w.heap.size+1) (by omega) (.bool g2) (.slice p2 n2 c2)).cs2
  obtain ⟨r1,u1⟩:=((bJ.aH (b:=w.heap.size) (by omega) (.bool g1) (.slice p1 n1 c1)).store2 (.bool g2) (.slice p2 n2 c2)).cs2
  go_wp2_with fail
  have o0:=(hi1.below hb2)
  have u0:=((o0.aC bV rfl rfl (.bool g1) (.slice p1 n1 c1)).aC (bJ.aH (b:=w.heap.size) (by omega) (.bool g1) (.slice p1 n1 c1)) rfl rfl (.bool g2) (.slice p2 n2 c2)).rd
  have v0:=((hi2.aC bV rfl rfl (.bool g1) (.slice p1 n1 c1)).aC (bJ.aH (b:=w.heap.size) (by omega) (.bool g1) (.slice p1 n1 c1)) rfl rfl (.bool g2) (.slice p2 n2 c2)).rd
  (with_reducible refine (rD _ _ _ _ _ u0 v0 (bH _) (bH _) a9B).mono ?_)
  rw [HCV.out]
  rintro e w3 ⟨rfl,hb3⟩
  go_wp2_with fail
  have lV:=(((bJ.aH (b:=w.heap.size) (by omega) (.bool g1) (.slice p1 n1 c1)).store2 (.bool g2) (.slice p2 n2 c2)).to hb3)
  have gJ:=(((bV.store2 (.bool g1) (.slice p1 n1 c1)).aH (b:=w.heap.size+1) (by omega) (.bool g2) (.slice p2 n2 c2)).to hb3)
  have BH:=(((((r0.drew.to hb1).to hb2).aH (b:=w.heap.size) (by omega) (.bool g1) (.slice p1 n1 c1)).aH (b:=w.heap.size+1) (by omega) (.bool g2) (.slice p2 n2 c2)).to hb3)
  have b6X:=(aN.mk (lV.drew).bs2 (aN.mk (gJ.drew).bs2 (BN.of (BH.drew))))
  have p0:dB (w.heap.size+1+1) (aN (BS2 (w.heap.size+1) (.bool g2) (.slice p2 n2 c2)) (aN (BS2 w.heap.size (.bool g1) (.slice p1 n1 c1)) (BN (w.heap.size+1+1)))):=(aN.hc (BS2.hc (by omega)) (aN.hc (BS2.hc (by omega)) BN.hc))
  have tk3:True:=trivial
  have tk4:True:=trivial
  go_region_held3 (aN (BS2 (w.heap.size+1) (.bool g2) (.slice p2 n2 c2)) (aN (BS2 w.heap.size (.bool g1) (.slice p1 n1 c1)) (BN (w.heap.size+1+1)))) (first | with_reducible exact b6X | with_reducible exact fV.go (aN.hk BS2.hk (aN.hk BS2.hk BN.hk)) (by assumption) (by assumption) | with_reducible exact dB.go2 p0 (by assumption) | (simp;done))
   (first
    | (((have:=tk3);clear tk3;have a1:=(((hi2.aC bV rfl rfl (.bool g1) (.slice p1 n1 c1)).aC (bJ.aH (b:=w.heap.size) (by omega) (.bool g1) (.slice p1 n1 c1)) rfl rfl (.bool g2) (.slice p2 n2 c2)).below hb3);have w0:=a1.drew.rd;have z0:=(((o0.aC bV rfl rfl (.bool g1) (.slice p1 n1 c1)).aC (bJ.aH (b:=w.heap.size) (by omega) (.bool g1) (.slice p1 n1 c1)) rfl rfl (.bool g2) (.slice p2 n2 c2)).below hb3);have x0:=z0.drew.rd;go_at_call 130;(with_reducible refine (wG _ _ _ _ _ w0 x0 (bK _) (bK _) b6g hll hvv).mono ?_);rintro e w4 ⟨s4,rfl,hs4,b7m,hb4⟩;obtain ⟨p4,c4,rfl,a7r,a7u⟩:=hs4.form))
    | (((have:=tk4);clear tk4;have y0:=hs4;go_at_call 127;(with_reducible refine (gW _ _ _ _ y0 (bK _) hld).mono ?_);rintro e w5 ⟨v5,rfl,hi5,hb5⟩;obtain ⟨g5,p5,n5,c5,rfl⟩:=hi5.form;have yV:=((BH.drew.to hb4).to hb5);obtain ⟨i0,k0,j0,l0⟩:=yV.cf2)))
  have q0:=(Below.tr (Below.tr (Below.tr (Below.aC (Below.aC (Below.tr (Below.tr (Below.tr aX hA1).drew hb1) hb2) (b:=w.heap.size) (by omega) (.bool g1) (.slice p1 n1 c1)) (b:=w.heap.size+1) (by omega) (.bool g2) (.slice p2 n2 c2)) hb3).drew hb4) hb5)
  go_wp2_with fail
  exact bodyPost_ret (v:=.agg #[.bool g5,.slice p5 n5 c5]) (by simp [results,Tryz.results87,go_sem,a0,c0,b0,d0,e0,g0,f0,h0,i0,k0,j0,l0]) rfl ⟨_,rfl,dH (hi5.aC yV rfl rfl (.bool g5) (.slice p5 n5 c5)) (a2t hf1.out hf2.out HX.out HL.out),(Below.aC q0 (b:=w.heap.size+1+1) (by omega) (.bool g5) (.slice p5 n5 c5))⟩
theorem a0B (v u:Value) (x y:Int) (w:World) (hv:Raw w v x) (hu:Raw w u y) (hl:isz x≤1000000000) (hl2:isz y≤1000000000) :
  Calls Tryz.prog 87 #[v,u] w (kK (x+y) w):=by
 by_cases h:decide (x < 0)=decide (y < 0)
 ·exact a2u v u x y w hv hu hl hl2 h
 ·by_cases h2:y.natAbs≤x.natAbs
  ·exact a2s v u x y w hv hu hl hl2 h h2
  ·exact a0C v u x y w hv hu hl hl2 h (by omega)
theorem zD (v u:Value) (x y:Int) (w:World) (hv:Raw w v x) (hu:Raw w u y) (hl:isz x≤1000000000) (hl2:isz y≤1000000000) :
  Calls Tryz.prog 156 #[v,u] w (kK (x - y) w):=by
 obtain ⟨b,p,n,c,rfl⟩:=hv.form
 obtain ⟨d,o,m,e,rfl⟩:=hu.form
 have hn:isz (-y)≤1000000000:=by rw [lZ];omega
 have aX:Below w.heap.size w w:=Below.refl _ _
 go_enter Tryz.func156,Tryz.ntmps156
 go_wp2_with fail
 obtain ⟨hA1,h0,i0,e0⟩:=bx3 w rfl [.bool b,.slice p n c] 28 [.bool d,.slice o m e] 28 [.bool false,.slice none 0 0] 28
 have vM:=(aN.mk (h0.drew).bs2 (aN.mk (i0.drew).bs2 (BN.of (e0.drew))))
 have f0:dB (w.heap.size+1+1) (aN (BS2 w.heap.size (.bool b) (.slice p n c)) (aN (BS2 (w.heap.size+1) (.bool d) (.slice o m e)) (BN (w.heap.size+1+1)))):=(aN.hc (BS2.hc (by omega)) (aN.hc (BS2.hc (by omega)) BN.hc))
 have tk1:True:=trivial
 have tk2:True:=trivial
 go_region_held3 (aN (BS2 w.heap.size (.bool b) (.slice p n c)) (aN (BS2 (w.heap.size+1) (.bool d) (.slice o m e)) (BN (w.heap.size+1+1)))) (first | with_reducible exact vM | with_reducible exact fV.go (aN.hk BS2.hk (aN.hk BS2.hk BN.hk)) (by assumption) (by assumption) | with_reducible exact dB.go2 f0 (by assumption) | (simp;done))
  (first
   | (((have:=tk1);clear tk1;have j0:=(hu.below hA1).drew;go_at_call 126;(with_reducible refine (EZ _ (y) _ j0 (by omega)).mono ?_);rintro e w1 ⟨v1,rfl,hi1,hb1⟩;obtain ⟨g1,p1,n1,c1,rfl⟩:=hi1.form))
   | (((have:=tk2);clear tk2;have mY:=((hv.below hA1).drew.below hb1);have k0:=mY;have l0:=hi1.raw;go_at_call 87;(with_reducible refine (a0B _ _ (x) (-((y))) _ k0 l0 hl hn).mono ?_);rintro e w2 ⟨v2,rfl,hi2,hb2⟩;obtain ⟨g2,p2,n2,c2,rfl⟩:=hi2.form;have kS:=((e0.drew.to hb1).to hb2);obtain ⟨a0,c0,b0,d0⟩:=kS.cf2)))
 have g0:=(Below.tr (Below.tr (Below.tr aX hA1).drew hb1) hb2)
 go_wp2_with fail
 exact bodyPost_ret (v:=.agg #[.bool g2,.slice p2 n2 c2]) (by simp [results,Tryz.results156,go_sem,a0,c0,b0,d0]) rfl ⟨_,rfl,dH (hi2.aC kS rfl rfl (.bool g2) (.slice p2 n2 c2)) (Int.sub_eq_add_neg).symm,(Below.aC g0 (b:=w.heap.size+1+1) (by omega) (.bool g2) (.slice p2 n2 c2))⟩
theorem b0u (x y:Int):sgn (x - y)=dA x y:=by
 unfold dA
 rcases Int.lt_trichotomy x y with h | h | h
 ·rw [if_pos h,FC (by omega)]
 ·subst h;simp [sgn]
 ·rw [if_neg (by omega),if_pos h,wJ (by omega)]
theorem lG (v u:Value) (x y:Int) (w:World) (hv:Raw w v x) (hu:Raw w u y) (hl:isz x≤999999999) (hl2:isz y≤999999999) :
  Calls Tryz.prog 124 #[v,u] w fun e w'=>e=.returned (.int .i64 (dA x y))∧Below w.heap.size w w':=by
 obtain ⟨b,p,n,c,rfl⟩:=hv.form
 obtain ⟨d,o,m,e,rfl⟩:=hu.form
 have hl3:isz x≤1000000000:=by omega
 have hl4:isz y≤1000000000:=by omega
 have hsb:isz (x - y)≤1000000000:=by have:=a3O x y;omega
 have aX:Below w.heap.size w w:=Below.refl _ _
 go_enter Tryz.func124,Tryz.ntmps124
 go_wp2_with fail
 obtain ⟨hA1,e0,f0⟩:=bx2 w rfl [.bool b,.slice p n c] 28 [.bool d,.slice o m e] 28
 have b0:=(hv.below hA1)
 have c0:=(hu.below hA1)
 (with_reducible refine (zD _ _ (x) (y) _ b0 c0 hl3 hl4).mono ?_)
 rintro e w1 ⟨v1,rfl,hi1,hb1⟩
 obtain ⟨g1,p1,n1,c1,rfl⟩:=hi1.form
 go_wp2_with fail
 have d0:=hi1.raw
 (with_reducible refine (mP _ ((x) - (y)) _ d0 hsb).mono ?_)
 rintro e w2 ⟨rfl,hb2⟩
 have a0:=(Below.tr (Below.tr (Below.tr aX hA1) hb1) hb2)
 go_wp2_with fail
 go_ret
 exact ⟨fE (b0u x y),a0⟩
end Go.Proofs.YtidfgdchcpmnfaaGreat
namespace Go.Proofs.YtidfgdchcpmnfaaGreat
open Go.RowKit
set_option maxRecDepth 100000
set_option maxHeartbeats 8000000
set_option linter.unusedSimpArgs false
set_option linter.unusedVariables false
theorem WI (x y:Int) {q:Int} (h:q=x.fdiv y):q=x.fdiv y∧x - q * y=x.fmod y:=by
 refine ⟨h,?_⟩
 have:=Int.fmod_add_mul_fdiv x y
 rw [← h,Int.mul_comm] at this
 omega
theorem OH {x:Int} {b:Bool} {k:Nat} (h:isz x≤k) (m n:Nat) (hm:m=x.natAbs):isz (sg b (m / n))≤k:=by
 refine Nat.le_trans (EJ ?_) h
 rw [a2L,hm];exact Nat.div_le_self _ _
theorem MI {g1 g2:Bool} {x y:Int} {r:Bool} (h1:g1=decide (x < 0)) (h2:g2=decide (y < 0)) (h:(decide (x < 0) != decide (y < 0))=r):(g1 != g2)=r∧(!g1 == g2)=r:=by
 subst h1;subst h2
 refine ⟨h,?_⟩
 rw [← h];cases decide (x < 0) <;> cases decide (y < 0) <;> rfl
theorem XL (v u:Value) (x y:Int) (w:World) (hv:Raw w v x) (hu:Raw w u y) (hl:isz x≤400000000) (hl2:isz y≤400000000) (hy:y ≠ 0) (hfl:(decide (x < 0) != decide (y < 0))=false) :
  Calls Tryz.prog 113 #[v,u] w (LV (x.fdiv y) (x.fmod y) w):=by
 obtain ⟨b,p,n,c,rfl⟩:=hv.form
 obtain ⟨d,o,m,e,rfl⟩:=hu.form
 have hfi:=gX
 have hx1:=qU x
 have hy1:=qU y
 have hyp:0 < y.natAbs:=by omega
 obtain ⟨Q,hQ⟩:∃ Q,sg false (val (dig (val (dig x.natAbs) / val (dig y.natAbs))))=Q:=⟨_,rfl⟩
 have HQ:=Lib.hid hQ
 simp only [aI] at hQ
 have hqf:Q=x.fdiv y:=by
  have hfe:decide (x < 0)=decide (y < 0):=by simpa using hfl
  have e1:=GL (decide (x < 0)) x.natAbs y.natAbs hyp
  rw [hfe] at e1 hx1
  rw [hx1,hy1] at e1
  rw [e1.1,← hQ]
  simp [sg]
 have HX:=Lib.hid (WI x y hqf)
 have hq0:isz Q≤400000000:=by rw [← hQ];exact OH hl _ _ rfl
 have hone:isz 1≤1000000000:=Nat.le_trans (uM (k:=1) (by rw [bG];decide)) (by omega)
 have hq1:isz Q≤1000000000:=by omega
 have hq4:isz Q≤400000002:=by omega
 have hq2:isz Q≤1000000000:=by omega
 have hq3:isz (Q * y)≤1000000000:=by have:=dW Q y;omega
 have hl0:isz x≤1000000000:=by omega
 have ZV:isz y≤1000000000:=by omega
 have hlx:(dig x.natAbs).length≤1000000000:=hl0
 have hyn:=oL hy
 have hy0:0 < (dig y.natAbs).length:=List.length_pos_iff.2 hyn
 have hyz:(((dig y.natAbs).length:Int) == 0)=false:=by simp;omega
 have hlq:Hid ((dig (val (dig x.natAbs) / val (dig y.natAbs))).length≤2000000001):=by unfold Hid;simp only [aI];exact Nat.le_trans (aO (Nat.div_le_self _ _)) (by omega)
 skip
 skip
 skip
 skip
 skip
 have HFL:=Lib.hid hfl
 clear hQ hqf hx1 hy1 hyp hy hfl
 have aX:Below w.heap.size w w:=Below.refl _ _
 go_enter Tryz.func113,Tryz.ntmps113
 go_wp2_with fail
 obtain ⟨hA1,u0,v0,a1,b1⟩:=bx4 w rfl [.bool b,.slice p n c] 28 [.bool d,.slice o m e] 28 [.bool false,.slice none 0 0] 28 [.bool false,.slice none 0 0] 28
 obtain ⟨u1,i2,b2,k2⟩:=u0.drew.cf2
 obtain ⟨m2,a3,t2,e3⟩:=v0.drew.cf2
 have tk1:True:=trivial
 have tk2:True:=trivial
 go_region_with
  (first
   | (((have:=tk1);clear tk1;have f1:=(hv.below hA1).drew;go_at_call 120;(with_reducible refine (eX _ (x) _ f1 hl0).mono ?_);rintro e w1 ⟨v1,rfl,hi1,hb1⟩;obtain ⟨g1,p1,n1,c1,rfl⟩:=hi1.form;obtain rfl:n1=(dig x.natAbs).length:=hi1.len;have hf1:=Lib.hid (bU.flag hi1);have dD:=(v0.drew.to hb1);obtain ⟨o2,b3,u2,f3⟩:=dD.cf2;have bF:=(u0.drew.to hb1);obtain ⟨x1,j2,d2,l2⟩:=bF.cf2))
   | (((have:=tk2);clear tk2;have iM:=((hu.below hA1).drew.below hb1);have h1:=iM;go_at_call 120;(with_reducible refine (eX _ (y) _ h1 ZV).mono ?_);rintro e w2 ⟨v2,rfl,hi2,hb2⟩;obtain ⟨g2,p2,n2,c2,rfl⟩:=hi2.form;obtain rfl:n2=(dig y.natAbs).length:=hi2.len;have hf2:=Lib.hid (bU.flag hi2);obtain ⟨hbd,hbd2⟩:=MI hf1.out hf2.out HFL.out;have bV:=(bF.to hb2);obtain ⟨a0,c0,b0,d0⟩:=bV.cf2;have bJ:=(dD.to hb2);obtain ⟨e0,g0,f0,h0⟩:=bJ.cf2)))
 all_goals
  obtain ⟨q2,x2⟩:=((bJ.aH (b:=w.heap.size) (by omega) (.bool g1) (.slice p1 (dig x.natAbs).length c1)).store2 (.bool g2) (.slice p2 (dig y.natAbs).length c2)).cs2
  obtain ⟨y1,e2⟩:=((bV.store2 (.bool g1) (.slice p1 (dig x.natAbs).length c1)).aH (b:=w.heap.size+1) (by omega) (.bool g2) (.slice p2 (dig y.natAbs).length c2)).cs2
  go_wp2_with fail
  have w0:=(hi1.below hb2)
  have i1:=((w0.aC bV rfl rfl (.bool g1) (.slice p1 (dig x.natAbs).length c1)).aC (bJ.aH (b:=w.heap.size) (by omega) (.bool g1) (.slice p1 (dig x.natAbs).length c1)) rfl rfl (.bool g2) (.slice p2 (dig y.natAbs).length c2)).rd
  have j1:=((hi2.aC bV rfl rfl (.bool g1) (.slice p1 (dig x.natAbs).length c1)).aC (bJ.aH (b:=w.heap.size) (by omega) (.bool g1) (.slice p1 (dig x.natAbs).length c1)) rfl rfl (.bool g2) (.slice p2 (dig y.natAbs).length c2)).rd
  (with_reducible refine (sD _ _ _ _ _ i1 j1 (bH _) (bH _) hlx hyn).mono ?_)
  rintro e w3 ⟨s3,t3,rfl,hs3,ht3,hb3⟩
  obtain ⟨p3,c3,rfl,RI,RJ⟩:=hs3.form
  obtain ⟨o3,d3,rfl,hlo3,WS⟩:=ht3.form
  have gJ:=(((bV.store2 (.bool g1) (.slice p1 (dig x.natAbs).length c1)).aH (b:=w.heap.size+1) (by omega) (.bool g2) (.slice p2 (dig y.natAbs).length c2)).to hb3)
  obtain ⟨z1,f2⟩:=gJ.cs2
  have lV:=(((bJ.aH (b:=w.heap.size) (by omega) (.bool g1) (.slice p1 (dig x.natAbs).length c1)).store2 (.bool g2) (.slice p2 (dig y.natAbs).length c2)).to hb3)
  obtain ⟨r2,y2⟩:=lV.cs2
  go_wp2_with fail
  have k1:=hs3
  (with_reducible refine (gW _ _ _ _ k1 (bK _) hlq.out).mono ?_)
  rw [HQ.out]
  rintro e w4 ⟨v4,rfl,hi4,hb4⟩
  obtain ⟨g4,p4,n4,c4,rfl⟩:=hi4.form
  have jO:=(gJ.to hb4)
  obtain ⟨a2,h2⟩:=jO.cs2
  have jK:=(lV.to hb4)
  obtain ⟨s2,z2⟩:=jK.cs2
  have q0:=(jO).1
  have r0:=(jK).1
  have lF:=((((((a1.drew.to hb1).to hb2).aH (b:=w.heap.size) (by omega) (.bool g1) (.slice p1 (dig x.natAbs).length c1)).aH (b:=w.heap.size+1) (by omega) (.bool g2) (.slice p2 (dig y.natAbs).length c2)).to hb3).to hb4)
  have s0:=(lF).1
  have uZ:=((((((b1.drew.to hb1).to hb2).aH (b:=w.heap.size) (by omega) (.bool g1) (.slice p1 (dig x.natAbs).length c1)).aH (b:=w.heap.size+1) (by omega) (.bool g2) (.slice p2 (dig y.natAbs).length c2)).to hb3).to hb4)
  have t0:=(uZ).1
  go_wp2_with fail
  obtain ⟨hA2,d1⟩:=bx1 w4 rfl [.bool g4,.slice p4 n4 c4] 28
  have FV:=(aN.mk (d1.drew).bs2 (aN.mk ((jO.to hA2).drew).bs2 ((jK.to hA2).drew).bs2))
  have x0:dB (w.heap.size+1+1) (aN (BS2 w4.heap.size (.bool g4) (.slice p4 n4 c4)) (aN (BS2 w.heap.size (.bool g1) (.slice p1 (dig x.natAbs).length c1)) (BS2 (w.heap.size+1) (.bool g2) (.slice p2 (dig y.natAbs).length c2)))):=(aN.hc (BS2.hc (by omega)) (aN.hc (BS2.hc (by omega)) (BS2.hc (by omega))))
  have y0:dB (w.heap.size+1+1+1) (aN (BS2 w4.heap.size (.bool g4) (.slice p4 n4 c4)) (aN (BS2 w.heap.size (.bool g1) (.slice p1 (dig x.natAbs).length c1)) (BS2 (w.heap.size+1) (.bool g2) (.slice p2 (dig y.natAbs).length c2)))):=(aN.hc (BS2.hc (by omega)) (aN.hc (BS2.hc (by omega)) (BS2.hc (by omega))))
  have tk3:True:=trivial
  have tk4:True:=trivial
  go_region_held3 (aN (BS2 w4.heap.size (.bool g4) (.slice p4 n4 c4)) (aN (BS2 w.heap.size (.bool g1) (.slice p1 (dig x.natAbs).length c1)) (BS2 (w.heap.size+1) (.bool g2) (.slice p2 (dig y.natAbs).length c2)))) (first | with_reducible exact FV | with_reducible exact fV.go (aN.hk BS2.hk (aN.hk BS2.hk BS2.hk)) (by assumption) (by assumption) | with_reducible exact dB.go2 x0 (by assumption) | with_reducible exact dB.go2 y0 (by assumption) | (simp;done))
   (first
    | (((have:=tk3);clear tk3;have l1:=(hi4.below hA2).drew.raw;have s1:=((((hi2.aC bV rfl rfl (.bool g1) (.slice p1 (dig x.natAbs).length c1)).aC (bJ.aH (b:=w.heap.size) (by omega) (.bool g1) (.slice p1 (dig x.natAbs).length c1)) rfl rfl (.bool g2) (.slice p2 (dig y.natAbs).length c2)).below hb3).below hb4);have m1:=(s1.below hA2).drew.raw;go_at_call 88;(with_reducible refine (nP _ _ (Q) (y) _ l1 m1 hq2 ZV).mono ?_);rintro e w5 ⟨v5,rfl,hi5,hb5⟩;obtain ⟨g5,p5,n5,c5,rfl⟩:=hi5.form))
    | (((have:=tk4);clear tk4;have r1:=((((((w0.aC bV rfl rfl (.bool g1) (.slice p1 (dig x.natAbs).length c1)).aC (bJ.aH (b:=w.heap.size) (by omega) (.bool g1) (.slice p1 (dig x.natAbs).length c1)) rfl rfl (.bool g2) (.slice p2 (dig y.natAbs).length c2)).below hb3).below hb4).below hA2).drew.below hb5);have o1:=r1.raw;have q1:=hi5.raw;go_at_call 156;(with_reducible refine (zD _ _ (x) ((Q) * (y)) _ o1 q1 hl0 hq3).mono ?_);rintro e w6 ⟨v6,rfl,hi6,hb6⟩;obtain ⟨g6,p6,n6,c6,rfl⟩:=hi6.form;have pX:=(((lF.to hA2).drew.to hb5).to hb6);obtain ⟨i0,k0,j0,l0⟩:=pX.cf2;have sQ:=(((uZ.to hA2).drew.to hb5).to hb6);obtain ⟨m0,o0,n0,p0⟩:=sQ.cf2)))
  have t1:=(((hi4.below hA2).drew.below hb5).below hb6)
  have z0:=(Below.tr (Below.tr (Below.tr (Below.tr (Below.tr (Below.aC (Below.aC (Below.tr (Below.tr (Below.tr aX hA1).drew hb1) hb2) (b:=w.heap.size) (by omega) (.bool g1) (.slice p1 (dig x.natAbs).length c1)) (b:=w.heap.size+1) (by omega) (.bool g2) (.slice p2 (dig y.natAbs).length c2)) hb3) hb4) hA2).drew hb5) hb6)
  go_wp2_with fail
  exact bodyPost_ret (v:=.tuple #[.agg #[.bool g4,.slice p4 n4 c4],.agg #[.bool g6,.slice p6 n6 c6],.int .i64 0]) (by simp [results,Tryz.results113,go_sem,a0,c0,b0,d0,e0,g0,f0,h0,q0,r0,s0,t0,i0,k0,j0,l0,m0,o0,n0,p0]) rfl ⟨_,_,rfl,dH ((t1.aC pX rfl rfl (.bool g4) (.slice p4 n4 c4)).aC (sQ.aH (b:=w.heap.size+1+1) (by omega) (.bool g4) (.slice p4 n4 c4)) rfl rfl (.bool g6) (.slice p6 n6 c6)) HX.out.1,dH ((hi6.aC pX rfl rfl (.bool g4) (.slice p4 n4 c4)).aC (sQ.aH (b:=w.heap.size+1+1) (by omega) (.bool g4) (.slice p4 n4 c4)) rfl rfl (.bool g6) (.slice p6 n6 c6)) HX.out.2,(Below.aC (Below.aC z0 (b:=w.heap.size+1+1) (by omega) (.bool g4) (.slice p4 n4 c4)) (b:=w.heap.size+1+1+1) (by omega) (.bool g6) (.slice p6 n6 c6))⟩
theorem SA (v u:Value) (x y:Int) (w:World) (hv:Raw w v x) (hu:Raw w u y) (hl:isz x≤400000000) (hl2:isz y≤400000000) (hy:y ≠ 0) (hr:x.natAbs % y.natAbs=0) (hfl:(decide (x < 0) != decide (y < 0))=true) :
  Calls Tryz.prog 113 #[v,u] w (LV (x.fdiv y) (x.fmod y) w):=by
 obtain ⟨b,p,n,c,rfl⟩:=hv.form
 obtain ⟨d,o,m,e,rfl⟩:=hu.form
 have hfi:=gX
 have hx1:=qU x
 have hy1:=qU y
 have hyp:0 < y.natAbs:=by omega
 obtain ⟨Q,hQ⟩:∃ Q,sg true (val (dig (val (dig x.natAbs) / val (dig y.natAbs))))=Q:=⟨_,rfl⟩
 have HQ:=Lib.hid hQ
 simp only [aI] at hQ
 have hqf:Q=x.fdiv y:=by
  have e1:=NK (decide (x < 0)) (decide (y < 0)) _ _ hyp hfl hr
  skip
  skip
  rw [hx1,hy1] at e1
  rw [e1.1,← hQ]
  skip
 have HX:=Lib.hid (WI x y hqf)
 have hq0:isz Q≤400000000:=by rw [← hQ];exact OH hl _ _ rfl
 have hone:isz 1≤1000000000:=Nat.le_trans (uM (k:=1) (by rw [bG];decide)) (by omega)
 have hq1:isz Q≤1000000000:=by omega
 have hq4:isz Q≤400000002:=by omega
 have hq2:isz Q≤1000000000:=by omega
 have hq3:isz (Q * y)≤1000000000:=by have:=dW Q y;omega
 have hl0:isz x≤1000000000:=by omega
 have ZV:isz y≤1000000000:=by omega
 have hlx:(dig x.natAbs).length≤1000000000:=hl0
 have hyn:=oL hy
 have hy0:0 < (dig y.natAbs).length:=List.length_pos_iff.2 hyn
 have hyz:(((dig y.natAbs).length:Int) == 0)=false:=by simp;omega
 have hlq:Hid ((dig (val (dig x.natAbs) / val (dig y.natAbs))).length≤2000000001):=by unfold Hid;simp only [aI];exact Nat.le_trans (aO (Nat.div_le_self _ _)) (by omega)
 skip
 have OC:(dig (val (dig x.natAbs) % val (dig y.natAbs))).length=0:=by simp only [aI];rw [hr,dO];rfl
 have hr1:decide (0 < (dig (val (dig x.natAbs) % val (dig y.natAbs))).length)=false:=by simp only [OC];rfl
 have hr2:decide ((0:Int) < ((dig (val (dig x.natAbs) % val (dig y.natAbs))).length:Int))=false:=by simp only [OC];rfl
 clear OC
 have HFL:=Lib.hid hfl
 clear hQ hqf hx1 hy1 hyp hy hfl hr
 have aX:Below w.heap.size w w:=Below.refl _ _
 go_enter Tryz.func113,Tryz.ntmps113
 go_wp2_with fail
 obtain ⟨hA1,u0,v0,a1,b1⟩:=bx4 w rfl [.bool b,.slice p n c] 28 [.bool d,.slice o m e] 28 [.bool false,.slice none 0 0] 28 [.bool false,.slice none 0 0] 28
 obtain ⟨u1,i2,b2,k2⟩:=u0.drew.cf2
 obtain ⟨m2,a3,t2,e3⟩:=v0.drew.cf2
 have tk1:True:=trivial
 have tk2:True:=trivial
 go_region_with
  (first
   | (((have:=tk1);clear tk1;have f1:=(hv.below hA1).drew;go_at_call 120;(with_reducible refine (eX _ (x) _ f1 hl0).mono ?_);rintro e w1 ⟨v1,rfl,hi1,hb1⟩;obtain ⟨g1,p1,n1,c1,rfl⟩:=hi1.form;obtain rfl:n1=(dig x.natAbs).length:=hi1.len;have hf1:=Lib.hid (bU.flag hi1);have dD:=(v0.drew.to hb1);obtain ⟨o2,b3,u2,f3⟩:=dD.cf2;have bF:=(u0.drew.to hb1);obtain ⟨x1,j2,d2,l2⟩:=bF.cf2))
   | (((have:=tk2);clear tk2;have iM:=((hu.below hA1).drew.below hb1);have h1:=iM;go_at_call 120;(with_reducible refine (eX _ (y) _ h1 ZV).mono ?_);rintro e w2 ⟨v2,rfl,hi2,hb2⟩;obtain ⟨g2,p2,n2,c2,rfl⟩:=hi2.form;obtain rfl:n2=(dig y.natAbs).length:=hi2.len;have hf2:=Lib.hid (bU.flag hi2);obtain ⟨hbd,hbd2⟩:=MI hf1.out hf2.out HFL.out;have bV:=(bF.to hb2);obtain ⟨a0,c0,b0,d0⟩:=bV.cf2;have bJ:=(dD.to hb2);obtain ⟨e0,g0,f0,h0⟩:=bJ.cf2)))
 all_goals
  obtain ⟨q2,x2⟩:=((bJ.aH (b:=w.heap.size) (by omega) (.bool g1) (.slice p1 (dig x.natAbs).length c1)).store2 (.bool g2) (.slice p2 (dig y.natAbs).length c2)).cs2
  obtain ⟨y1,e2⟩:=((bV.store2 (.bool g1) (.slice p1 (dig x.natAbs).length c1)).aH (b:=w.heap.size+1) (by omega) (.bool g2) (.slice p2 (dig y.natAbs).length c2)).cs2
  go_wp2_with fail
  have w0:=(hi1.below hb2)
  have i1:=((w0.aC bV rfl rfl (.bool g1) (.slice p1 (dig x.natAbs).length c1)).aC (bJ.aH (b:=w.heap.size) (by omega) (.bool g1) (.slice p1 (dig x.natAbs).length c1)) rfl rfl (.bool g2) (.slice p2 (dig y.natAbs).length c2)).rd
  have j1:=((hi2.aC bV rfl rfl (.bool g1) (.slice p1 (dig x.natAbs).length c1)).aC (bJ.aH (b:=w.heap.size) (by omega) (.bool g1) (.slice p1 (dig x.natAbs).length c1)) rfl rfl (.bool g2) (.slice p2 (dig y.natAbs).length c2)).rd
  (with_reducible refine (sD _ _ _ _ _ i1 j1 (bH _) (bH _) hlx hyn).mono ?_)
  rintro e w3 ⟨s3,t3,rfl,hs3,ht3,hb3⟩
  obtain ⟨p3,c3,rfl,RI,RJ⟩:=hs3.form
  obtain ⟨o3,d3,rfl,hlo3,WS⟩:=ht3.form
  have gJ:=(((bV.store2 (.bool g1) (.slice p1 (dig x.natAbs).length c1)).aH (b:=w.heap.size+1) (by omega) (.bool g2) (.slice p2 (dig y.natAbs).length c2)).to hb3)
  obtain ⟨z1,f2⟩:=gJ.cs2
  have lV:=(((bJ.aH (b:=w.heap.size) (by omega) (.bool g1) (.slice p1 (dig x.natAbs).length c1)).store2 (.bool g2) (.slice p2 (dig y.natAbs).length c2)).to hb3)
  obtain ⟨r2,y2⟩:=lV.cs2
  go_wp2_with fail
  have k1:=hs3
  (with_reducible refine (gW _ _ _ _ k1 (bK _) hlq.out).mono ?_)
  rw [HQ.out]
  rintro e w4 ⟨v4,rfl,hi4,hb4⟩
  obtain ⟨g4,p4,n4,c4,rfl⟩:=hi4.form
  have jO:=(gJ.to hb4)
  obtain ⟨a2,h2⟩:=jO.cs2
  have jK:=(lV.to hb4)
  obtain ⟨s2,z2⟩:=jK.cs2
  have q0:=(jO).1
  have r0:=(jK).1
  have lF:=((((((a1.drew.to hb1).to hb2).aH (b:=w.heap.size) (by omega) (.bool g1) (.slice p1 (dig x.natAbs).length c1)).aH (b:=w.heap.size+1) (by omega) (.bool g2) (.slice p2 (dig y.natAbs).length c2)).to hb3).to hb4)
  have s0:=(lF).1
  have uZ:=((((((b1.drew.to hb1).to hb2).aH (b:=w.heap.size) (by omega) (.bool g1) (.slice p1 (dig x.natAbs).length c1)).aH (b:=w.heap.size+1) (by omega) (.bool g2) (.slice p2 (dig y.natAbs).length c2)).to hb3).to hb4)
  have t0:=(uZ).1
  go_wp2_with fail
  obtain ⟨hA2,d1⟩:=bx1 w4 rfl [.bool g4,.slice p4 n4 c4] 28
  have FV:=(aN.mk (d1.drew).bs2 (aN.mk ((jO.to hA2).drew).bs2 ((jK.to hA2).drew).bs2))
  have x0:dB (w.heap.size+1+1) (aN (BS2 w4.heap.size (.bool g4) (.slice p4 n4 c4)) (aN (BS2 w.heap.size (.bool g1) (.slice p1 (dig x.natAbs).length c1)) (BS2 (w.heap.size+1) (.bool g2) (.slice p2 (dig y.natAbs).length c2)))):=(aN.hc (BS2.hc (by omega)) (aN.hc (BS2.hc (by omega)) (BS2.hc (by omega))))
  have y0:dB (w.heap.size+1+1+1) (aN (BS2 w4.heap.size (.bool g4) (.slice p4 n4 c4)) (aN (BS2 w.heap.size (.bool g1) (.slice p1 (dig x.natAbs).length c1)) (BS2 (w.heap.size+1) (.bool g2) (.slice p2 (dig y.natAbs).length c2)))):=(aN.hc (BS2.hc (by omega)) (aN.hc (BS2.hc (by omega)) (BS2.hc (by omega))))
  have tk3:True:=trivial
  have tk4:True:=trivial
  go_region_held3 (aN (BS2 w4.heap.size (.bool g4) (.slice p4 n4 c4)) (aN (BS2 w.heap.size (.bool g1) (.slice p1 (dig x.natAbs).length c1)) (BS2 (w.heap.size+1) (.bool g2) (.slice p2 (dig y.natAbs).length c2)))) (first | with_reducible exact FV | with_reducible exact fV.go (aN.hk BS2.hk (aN.hk BS2.hk BS2.hk)) (by assumption) (by assumption) | with_reducible exact dB.go2 x0 (by assumption) | with_reducible exact dB.go2 y0 (by assumption) | (simp;done))
   (first
    | (((have:=tk3);clear tk3;have l1:=(hi4.below hA2).drew.raw;have s1:=((((hi2.aC bV rfl rfl (.bool g1) (.slice p1 (dig x.natAbs).length c1)).aC (bJ.aH (b:=w.heap.size) (by omega) (.bool g1) (.slice p1 (dig x.natAbs).length c1)) rfl rfl (.bool g2) (.slice p2 (dig y.natAbs).length c2)).below hb3).below hb4);have m1:=(s1.below hA2).drew.raw;go_at_call 88;(with_reducible refine (nP _ _ (Q) (y) _ l1 m1 hq2 ZV).mono ?_);rintro e w5 ⟨v5,rfl,hi5,hb5⟩;obtain ⟨g5,p5,n5,c5,rfl⟩:=hi5.form))
    | (((have:=tk4);clear tk4;have r1:=((((((w0.aC bV rfl rfl (.bool g1) (.slice p1 (dig x.natAbs).length c1)).aC (bJ.aH (b:=w.heap.size) (by omega) (.bool g1) (.slice p1 (dig x.natAbs).length c1)) rfl rfl (.bool g2) (.slice p2 (dig y.natAbs).length c2)).below hb3).below hb4).below hA2).drew.below hb5);have o1:=r1.raw;have q1:=hi5.raw;go_at_call 156;(with_reducible refine (zD _ _ (x) ((Q) * (y)) _ o1 q1 hl0 hq3).mono ?_);rintro e w6 ⟨v6,rfl,hi6,hb6⟩;obtain ⟨g6,p6,n6,c6,rfl⟩:=hi6.form;have pX:=(((lF.to hA2).drew.to hb5).to hb6);obtain ⟨i0,k0,j0,l0⟩:=pX.cf2;have sQ:=(((uZ.to hA2).drew.to hb5).to hb6);obtain ⟨m0,o0,n0,p0⟩:=sQ.cf2)))
  have t1:=(((hi4.below hA2).drew.below hb5).below hb6)
  have z0:=(Below.tr (Below.tr (Below.tr (Below.tr (Below.tr (Below.aC (Below.aC (Below.tr (Below.tr (Below.tr aX hA1).drew hb1) hb2) (b:=w.heap.size) (by omega) (.bool g1) (.slice p1 (dig x.natAbs).length c1)) (b:=w.heap.size+1) (by omega) (.bool g2) (.slice p2 (dig y.natAbs).length c2)) hb3) hb4) hA2).drew hb5) hb6)
  go_wp2_with fail
  exact bodyPost_ret (v:=.tuple #[.agg #[.bool g4,.slice p4 n4 c4],.agg #[.bool g6,.slice p6 n6 c6],.int .i64 0]) (by simp [results,Tryz.results113,go_sem,a0,c0,b0,d0,e0,g0,f0,h0,q0,r0,s0,t0,i0,k0,j0,l0,m0,o0,n0,p0]) rfl ⟨_,_,rfl,dH ((t1.aC pX rfl rfl (.bool g4) (.slice p4 n4 c4)).aC (sQ.aH (b:=w.heap.size+1+1) (by omega) (.bool g4) (.slice p4 n4 c4)) rfl rfl (.bool g6) (.slice p6 n6 c6)) HX.out.1,dH ((hi6.aC pX rfl rfl (.bool g4) (.slice p4 n4 c4)).aC (sQ.aH (b:=w.heap.size+1+1) (by omega) (.bool g4) (.slice p4 n4 c4)) rfl rfl (.bool g6) (.slice p6 n6 c6)) HX.out.2,(Below.aC (Below.aC z0 (b:=w.heap.size+1+1) (by omega) (.bool g4) (.slice p4 n4 c4)) (b:=w.heap.size+1+1+1) (by omega) (.bool g6) (.slice p6 n6 c6))⟩
end Go.Proofs.YtidfgdchcpmnfaaGreat
