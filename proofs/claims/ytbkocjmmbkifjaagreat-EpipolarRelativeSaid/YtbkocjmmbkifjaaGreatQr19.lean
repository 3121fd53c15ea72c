/-
  Lemmas for the theorem vrelative28_holds, part 19 of 35.
-/
import Derived.Deep.RegionLawGrows
import Derived.Test.YtbkocjmmbkifjaaGreatQr05
namespace Go.Proofs.YtbkocjmmbkifjaaGreat
open Go Go.RowKit
set_option maxRecDepth 100000
set_option maxHeartbeats 2000000
set_option linter.unusedSimpArgs false
set_option linter.unusedVariables false
theorem QF {P:Program} {ops:Array Oper} {o:Oper} {a:Act} {w:World} {K:Act->World->Prop} {Q:Exit->Act->World->Prop} {E:Prop}
  (hg:o.guard=none) (s x:Operand) (t:TypeId) (hop:o.op=Op.call { callee:=Callee.builtin Builtin.append,args:=#[s,x],argTypes:=#[t,t] })
  (base:Nat) (e:TypeId) (i:TypeInfo) (z:Value) (size bytes:Nat) (h1:P.underlying t=some (.slice e)) (h2:P.info? e=some i) (h3:i.zero=some z) (h4:i.size=size) (h5:i.bytes=bytes) (h6:z.cells.size=size) (h7:0<size)
  (v:Value) (n:Nat) (xs:List Value) (hs:a.eval s=v) (hown:w.ownsRow base e size v n xs)
  (ad:Addr) (m c:Nat) (news:List Value) (hx:a.eval x=.slice (some ad) m c) (hn:news.length=m*size) (hc:∀ j u,news[j]?=some u->w.cell? (ad.add j)=some u) (h1c:∀ u ∈ news,u.oneCell'=true)
  (b1:n+m<=maxLen) (b2:(n+m)*bytes<=140737488355328) (hbase:base<=w.heap.size)
  (hK:∀ v' w',w'.ownsRow base e size v' (n+m) (xs++news)->w.grownBy w' v.ownBlock->(v'=.slice none 0 0↔v=.slice none 0 0/\m=0)->K (a.put o.dst v') w') :
  if Region.wanted o (yielded ops a.tmps)=true then Oper.wp P o a w K Q else E:=by
 have hw:Region.wanted o (yielded ops a.tmps)=true:=by simp[Region.wanted,hg]
 rw[dn hw];exact wp_append_own w s x t hop base e i z size bytes h1 h2 h3 h4 h5 h6 h7 v n xs hs hown ad m c news hx hn hc h1c b1 b2 hbase hK
theorem LH {P:Program} {ops:Array Oper} {o:Oper} {a:Act} {w:World} {K:Act->World->Prop} {Q:Exit->Act->World->Prop} {E:Prop}
  (hg:o.guard=none) (s x:Operand) (t:TypeId) (hop:o.op=Op.call { callee:=Callee.builtin Builtin.append,args:=#[s,x],argTypes:=#[t,t] })
  (e:TypeId) (i:TypeInfo) (h1:P.underlying t=some (.slice e)) (h2:P.info? e=some i)
  (b:Addr) (hs:a.eval s=.slice (some b) 0 0) {q:Option Addr} (hx:a.eval x=.slice q 0 0)
  (hK:K (a.put o.dst (.slice (some b) 0 0)) w) :
  if Region.wanted o (yielded ops a.tmps)=true then Oper.wp P o a w K Q else E:=by
 have hw:Region.wanted o (yielded ops a.tmps)=true:=by simp[Region.wanted,hg]
 rw[dn hw];have hrun:(Builtin.append_ #[t,t] o.type #[.slice (some b) 0 0,.slice q 0 0]).run P w=.ok (.slice (some b) 0 0) w:=by cases q<;>simp[Builtin.append_,ku h1,sizeOf,typeInfo,h2,Builtin.lenOf,Builtin.firstCells,loadCells,loadCellsFrom,eu,storeCells]
 unfold Oper.wp;simp[execOp,hop,resolve,invoke,builtin,hs,hx,hrun,Result.andThen];exact hK
theorem a9B {neg:Bool} {l:List Nat} {k:Nat} (hk:k<l.length) (h:1000000000<=gr l k):LW neg l=false:=by
 cases hv:LW neg l with
 | false=>rfl
 | true =>
  have:=(LX.1 hv).1.1 _ (b1k hk);rw[bV] at this;omega
theorem a9A {neg:Bool} {l:List Nat} (hl:l≠[]) (h:∀ j,j<l.length->gr l j<1000000000):LW neg l=((gr l (l.length-1):Int) != 0):=by
 rw[a1Q hl];have:(l.any fun g=>decide (1000000000<=g))=false:=by rw[List.any_eq_false];intro g hg;obtain⟨i,hi,rfl⟩:=Dn hg;have:=h i hi;rw[qL hi] at this;simp;omega
 rw[this,Bool.eq_iff_iff];simp
theorem yX (v:Value) (ok:Bool) (x:Int) (w:World) (h:uV w v ok x) :
  Calls Tryz.prog 129 #[v] w fun e w'=>e=.returned (.bool ok)/\Below w.heap.size w w':=by
 obtain⟨neg,s,l,rfl,hs,hb,hx,hok⟩:=h;have HOK:=bf hok;clear hok hx hb;rcases hs with⟨p,rfl,rfl⟩|⟨b,o,c,rfl,h2,h3,h4,h5⟩
 ·go_enter Tryz.func129,Tryz.ntmps129
  go_wp2
  go_loop [4,8,9,10,11,12,13,14,15,16,17,18] (fun i _ _ _ _ _ _ _ _ _ _ _=>i=.int .i64 0) (fun _ _ _ _ _ _ _ _ _ _ _ _=>0)
  case atStart=>rfl
  case round =>
   subst hrel
   go_wp2
   go_ret
   exact⟨vP (by rw[HOK.out,a3U]),(gy _ _).alloc (aj _) _⟩
 ·have H5:=bf h5;have hl:l.length<=9223372036854775807:=by omega
  clear h5
  go_enter Tryz.func129,Tryz.ntmps129
  go_wp2
  go_loop [4,8,9,10,11,12,13,14,15,16,17,18] (fun i _ _ _ _ _ _ _ _ _ _ _=>∃ k:Nat,k<=l.length/\i=.int .i64 k/\Hid (∀ j,j<k->gr l j<1000000000)) (fun i _ _ _ _ _ _ _ _ _ _ _=>l.length-(intOf i).toNat)
  case atStart=>exact⟨0,by omega,rfl,fun j hj=>by omega⟩
  case round =>
   obtain⟨k,hk,rfl,hj⟩:=hrel;by_cases hlt:k<l.length
   ·have hc:=H5.out k hlt;by_cases hg:1000000000<=gr l k
    ·have HF:=bf (a9B (neg:=neg) hlt hg);have hg2:decide ((1000000000:Int)<=gr l k)=true:=by simp;omega
     go_wp2
     go_ret
     exact⟨vP (by rw[HOK.out,HF.out]),(gy _ _).alloc (aj _) _⟩
    ·have hg3:gr l k<1000000000:=by omega
     have hg2:decide ((1000000000:Int)<=gr l k)=false:=by simp;omega
     have HG:=bf hg3;clear hg
     go_wp2
     go_round
     case rel=>exact⟨k+1,by omega,by go_num,fun j h=>if e:j<k then hj.out j e else by rw[show j=k by omega];exact HG.out⟩
     case measure=>simp[intOf]<;>omega
   ·obtain rfl:k=l.length:=by omega
    by_cases hz:l=[]
    ·subst hz
     go_wp2
     go_ret
     exact⟨vP (by rw[HOK.out];rfl),(gy _ _).alloc (aj _) _⟩
    ·have hp:0<l.length:=yc.2 hz;have HD:=bf (a9A (neg:=neg) hz hj.out);have hc:=H5.out (l.length-1) (by omega);have hidx:((l.length:Int)-1).toNat=l.length-1:=by omega
     have hne:((l.length:Int)==0)=false:=by simp;omega
     go_wp2
     go_ret
     exact⟨vP (by rw[HOK.out,HD.out]),(gy _ _).alloc (aj _) _⟩
theorem eY.a1T {w:World} {b:Nat} (h:b<w.heap.size):eY w (.agg #[.bool false,.slice (some ⟨b,0,none⟩) 0 0]) 0:=by refine⟨.slice (some ⟨b,0,none⟩) 0 0,by simp,.inr ⟨b,0,0,by simp[dX],by simp[dX],by omega,h,fun i hi=>?_⟩⟩;simp[dX] at hi
theorem a9p (v:Value) (x:Int) (w:World) (h:uV w v false x) :
  Calls Tryz.prog 164 #[v] w (FI x w):=by
 obtain⟨b,p,n,c,rfl⟩:=h.raw.form;have HX:=bf h.zero;have QB:Below w.heap.size w w:=gy _ _
 go_enter Tryz.func164,Tryz.ntmps164
 go_wp2_with fail
 obtain⟨hA1,h0,f0⟩:=bx2 w rfl [.bool b,.slice p n c] 45 [.bool false,.slice none 0 0] 45;have g0:=(h.below hA1)
 (with_reducible refine(yX _ _ _ _ g0).mono ?_)
 rintro e w1 ⟨rfl,hb1⟩;have rD:=(f0.to hb1);obtain⟨a0,c0,b0,d0⟩:=rD.cf2;have e0:=(Below.tr (Below.tr QB hA1) hb1)
 go_wp2_with fail
 exact xk (v:=.agg #[.bool false,.slice none 0 0]) (by simp[results,Tryz.results164,go_sem,a0,c0,b0,d0]) rfl ⟨_,rfl,by rw[HX.out];exact eY.zero _,(Below.iM e0 (b:=w.heap.size+1) (by omega) (.bool false) (.slice none 0 0))⟩
theorem a9o (x:Int) (w:World) (b:Bool) (g o n c:Nat) (h:eY w (.agg #[.bool b,.slice (some ⟨g,o,none⟩) n c]) x) (hg:g<w.heap.size) (hc:∀ i,i<(dig x.natAbs).length->w.cell? ⟨g,o+i,none⟩=some (.int .u32 (gr (dig x.natAbs) i:Nat))) (hx:b=decide (x<0)) (hn:n=(dig x.natAbs).length) (hl:n<=1000000000) :
  Calls Tryz.prog 164 #[.agg #[.bool b,.slice (some ⟨g,o,none⟩) n c]] w (FI x w):=by
 obtain⟨i0,hi,hz0,hz1,hz2⟩:=Ag gX;have HC:=bf hc;have HX:=bf hx;have HN:=bf hn;clear hc hx hn;have QB:Below w.heap.size w w:=gy _ _
 go_enter Tryz.func164,Tryz.ntmps164
 go_wp2_with fail
 obtain⟨hA1,e0,g0⟩:=bx2 w rfl [.bool b,.slice (some ⟨g,o,none⟩) n c] 45 [.bool false,.slice none 0 0] 45;have j0:=(h.below hA1).a9d
 (with_reducible refine(yX _ _ _ _ j0).mono ?_)
 rintro e w1 ⟨rfl,hb1⟩;have yS:=(e0.to hb1);have rD:=(g0.to hb1);have b0:=(Below.tr (Below.tr QB hA1) hb1);have h_1:=((h.below hA1).below hb1);have q0d:=(yS).drew;have q1d:=(rD).drew;have hBd:=(b0).drew;have q1a:=((rD).alloc (.cells #[] 148)).drew;have a0:=q1a.c0;have a1:=q1a.c1;have a2:=q1a.f0;have a3:=q1a.f1;have d0:=(rD).c0;have d1:=(rD).c1;have d2:=(rD).f0;have d3:=(rD).f1;have d4:=(rD).1;have d5:=(yS).1;have hRd:=(h_1).drew;have S0:(fun w':World=>w'.cell? ⟨w.heap.size,0,none⟩=some (.bool b)/\w'.cell? ⟨w.heap.size,1,none⟩=some (.slice (some ⟨g,o,none⟩) n c)/\w.heap.size+1<w'.heap.size) w1.drew:=⟨q0d.c0,q0d.c1,q1d.1⟩;have S1:(fun w':World=>w'.cell? ⟨w.heap.size,0,none⟩=some (.bool b)/\w'.cell? ⟨w.heap.size,1,none⟩=some (.slice (some ⟨g,o,none⟩) n c)/\w.heap.size+1<w'.heap.size) (w1.alloc (.cells #[] 148)).drew:=⟨((yS).alloc (.cells #[] 148)).drew.c0,((yS).alloc (.cells #[] 148)).drew.c1,((rD).alloc (.cells #[] 148)).drew.1⟩;have S2:∀ x0 x1:Value,(fun w':World=>w'.cell? ⟨w.heap.size,0,none⟩=some (.bool b)/\w'.cell? ⟨w.heap.size,1,none⟩=some (.slice (some ⟨g,o,none⟩) n c)/\w.heap.size+1<w'.heap.size) (((w1.setCell ⟨w.heap.size+1,0,none⟩ x0).setCell ⟨w.heap.size+1,1,none⟩ x1).alloc (.cells #[] 148)).drew:=fun x0 x1=>⟨(((yS).xA (b:=w.heap.size+1) (by omega) x0 x1).alloc (.cells #[] 148)).drew.c0,(((yS).xA (b:=w.heap.size+1) (by omega) x0 x1).alloc (.cells #[] 148)).drew.c1,(((rD).store2 x0 x1).alloc (.cells #[] 148)).drew.1⟩;have K:∀ A B:World,(fun w':World=>w'.cell? ⟨w.heap.size,0,none⟩=some (.bool b)/\w'.cell? ⟨w.heap.size,1,none⟩=some (.slice (some ⟨g,o,none⟩) n c)/\w.heap.size+1<w'.heap.size) A->Below A.heap.size A B->(fun w':World=>w'.cell? ⟨w.heap.size,0,none⟩=some (.bool b)/\w'.cell? ⟨w.heap.size,1,none⟩=some (.slice (some ⟨g,o,none⟩) n c)/\w.heap.size+1<w'.heap.size) B:=by rintro A B ⟨h0,h1,h2⟩ hb;have hs:=hb.size;exact⟨by rw[(zI hb).1 _ _ (by omega)];exact h0,by rw[(zI hb).1 _ _ (by omega)];exact h1,by omega⟩
 have KS:∀ (A:World) (x0 x1:Value),(fun w':World=>w'.cell? ⟨w.heap.size,0,none⟩=some (.bool b)/\w'.cell? ⟨w.heap.size,1,none⟩=some (.slice (some ⟨g,o,none⟩) n c)/\w.heap.size+1<w'.heap.size) A->(fun w':World=>w'.cell? ⟨w.heap.size,0,none⟩=some (.bool b)/\w'.cell? ⟨w.heap.size,1,none⟩=some (.slice (some ⟨g,o,none⟩) n c)/\w.heap.size+1<w'.heap.size) ((A.setCell ⟨w.heap.size+1,0,none⟩ x0).setCell ⟨w.heap.size+1,1,none⟩ x1):=by rintro A x0 x1 ⟨h0,h1,h2⟩;simp[go_sem,h0,h1,h2]
 go_wp2_with fail
 have tk1:True:=trivial
 go_region_held3 (fun w':World=>w'.cell? ⟨w.heap.size,0,none⟩=some (.bool b)/\w'.cell? ⟨w.heap.size,1,none⟩=some (.slice (some ⟨g,o,none⟩) n c)/\w.heap.size+1<w'.heap.size) (first|with_reducible exact S0|with_reducible exact S1|with_reducible exact S2 _ _|with_reducible exact K _ _ S0 (by assumption)|with_reducible exact K _ _ (by assumption) ((gy _ _).alloc (aj _) _)|with_reducible exact KS _ _ _ (by assumption)|(simp;done))
  (first
   | ((have:=tk1);clear tk1;refine QF rfl _ _ 43 rfl w1.drew.heap.size 148 i0 (.int .u32 0) 1 4 ji hi hz0 hz1 hz2 rfl (by decide) _ _ _ rfl (World.ownsRow_made w1.drew #[] 0 (aj _) (by simp[maxLen]) (by simp)) ⟨g,o,none⟩ n c (cells32 (dig x.natAbs)) rfl (by rw[HN.out];exact iZ _) (oK fun i hi=>(zy _ _ ⟨g,o+i,none⟩ (qh hg hBd.size)).trans ((hBd.cell (p:=⟨g,o+i,none⟩) hg).trans (HC.out i hi))) (lN _) (by unfold maxLen;omega) (by omega) (by simp) ?_;intro v2 w2 hown hgrow _;have hbw:Below w1.drew.heap.size w1.drew w2:=((gy _ _).alloc (aj _) _).grown hgrow (by simp) (fun j e=>Nat.le_of_eq (Option.some.inj e));have hR2:=Rd.dN (l:=dig x.natAbs) (by rw[<-HN.out];simpa using hown);obtain⟨p2,c2,rfl,_,_⟩:=hR2.form;have q1w:=q1d.to hbw;have r0:=q1w.c0;have r1:=q1w.c1;have f0:=q1w.f0;have f1:=q1w.f1))
 go_wp2_with fail
 exact xk (v:=.agg #[.bool b,.slice p2 (dig x.natAbs).length c2]) (by simp[results,Tryz.results164,go_sem,r0,r1]) rfl ⟨_,rfl,eY.iM ⟨_,by rw[HX.out],hR2⟩ q1w rfl rfl _ _,Below.iM (Below.tr hBd hbw) (by omega) _ _⟩
theorem a5g (p:Option Addr) (w:World) (h:eY w (.agg #[.bool false,.slice p 0 0]) 0) :
  Calls Tryz.prog 164 #[.agg #[.bool false,.slice p 0 0]] w (FI 0 w):=by
 obtain⟨i0,hi,hz0,hz1,hz2⟩:=Ag gX;have QB:Below w.heap.size w w:=gy _ _
 go_enter Tryz.func164,Tryz.ntmps164
 go_wp2_with fail
 obtain⟨hA1,e0,g0⟩:=bx2 w rfl [.bool false,.slice p 0 0] 45 [.bool false,.slice none 0 0] 45;have j0:=(h.below hA1).a9d
 (with_reducible refine(yX _ _ (0:Int) _ j0).mono ?_)
 rintro e w1 ⟨rfl,hb1⟩;have yS:=(e0.to hb1);have rD:=(g0.to hb1);have b0:=(Below.tr (Below.tr QB hA1) hb1);have h_1:=((h.below hA1).below hb1);have q0d:=(yS).drew;have q1d:=(rD).drew;have hBd:=(b0).drew;have q1a:=((rD).alloc (.cells #[] 148)).drew;have a0:=q1a.c0;have a1:=q1a.c1;have a2:=q1a.f0;have a3:=q1a.f1;have d0:=(rD).c0;have d1:=(rD).c1;have d2:=(rD).f0;have d3:=(rD).f1;have d4:=(rD).1;have d5:=(yS).1;have hRd:=(h_1).drew;have S0:(fun w':World=>w'.cell? ⟨w.heap.size,0,none⟩=some (.bool false)/\w'.cell? ⟨w.heap.size,1,none⟩=some (.slice p 0 0)/\w.heap.size+1<w'.heap.size) w1.drew:=⟨q0d.c0,q0d.c1,q1d.1⟩;have S1:(fun w':World=>w'.cell? ⟨w.heap.size,0,none⟩=some (.bool false)/\w'.cell? ⟨w.heap.size,1,none⟩=some (.slice p 0 0)/\w.heap.size+1<w'.heap.size) (w1.alloc (.cells #[] 148)).drew:=⟨((yS).alloc (.cells #[] 148)).drew.c0,((yS).alloc (.cells #[] 148)).drew.c1,((rD).alloc (.cells #[] 148)).drew.1⟩;have S2:∀ x0 x1:Value,(fun w':World=>w'.cell? ⟨w.heap.size,0,none⟩=some (.bool false)/\w'.cell? ⟨w.heap.size,1,none⟩=some (.slice p 0 0)/\w.heap.size+1<w'.heap.size) (((w1.setCell ⟨w.heap.size+1,0,none⟩ x0).setCell ⟨w.heap.size+1,1,none⟩ x1).alloc (.cells #[] 148)).drew:=fun x0 x1=>⟨(((yS).xA (b:=w.heap.size+1) (by omega) x0 x1).alloc (.cells #[] 148)).drew.c0,(((yS).xA (b:=w.heap.size+1) (by omega) x0 x1).alloc (.cells #[] 148)).drew.c1,(((rD).store2 x0 x1).alloc (.cells #[] 148)).drew.1⟩;have K:∀ A B:World,(fun w':World=>w'.cell? ⟨w.heap.size,0,none⟩=some (.bool false)/\w'.cell? ⟨w.heap.size,1,none⟩=some (.slice p 0 0)/\w.heap.size+1<w'.heap.size) A->Below A.heap.size A B->(fun w':World=>w'.cell? ⟨w.heap.size,0,none⟩=some (.bool false)/\w'.cell? ⟨w.heap.size,1,none⟩=some (.slice p 0 0)/\w.heap.size+1<w'.heap.size) B:=by rintro A B ⟨h0,h1,h2⟩ hb;have hs:=hb.size;exact⟨by rw[(zI hb).1 _ _ (by omega)];exact h0,by rw[(zI hb).1 _ _ (by omega)];exact h1,by omega⟩
 have KS:∀ (A:World) (x0 x1:Value),(fun w':World=>w'.cell? ⟨w.heap.size,0,none⟩=some (.bool false)/\w'.cell? ⟨w.heap.size,1,none⟩=some (.slice p 0 0)/\w.heap.size+1<w'.heap.size) A->(fun w':World=>w'.cell? ⟨w.heap.size,0,none⟩=some (.bool false)/\w'.cell? ⟨w.heap.size,1,none⟩=some (.slice p 0 0)/\w.heap.size+1<w'.heap.size) ((A.setCell ⟨w.heap.size+1,0,none⟩ x0).setCell ⟨w.heap.size+1,1,none⟩ x1):=by rintro A x0 x1 ⟨h0,h1,h2⟩;simp[go_sem,h0,h1,h2]
 go_wp2_with fail
 go_region_held3 (fun w':World=>w'.cell? ⟨w.heap.size,0,none⟩=some (.bool false)/\w'.cell? ⟨w.heap.size,1,none⟩=some (.slice p 0 0)/\w.heap.size+1<w'.heap.size) (first|with_reducible exact S0|with_reducible exact S1|with_reducible exact S2 _ _|with_reducible exact K _ _ S0 (by assumption)|with_reducible exact K _ _ (by assumption) ((gy _ _).alloc (aj _) _)|with_reducible exact KS _ _ _ (by assumption)|(simp;done))
  (refine LH rfl _ _ 43 rfl 148 i0 ji hi _ rfl rfl ?_)
 go_wp2_with fail
 exact xk (v:=.agg #[.bool false,.slice (some ⟨w1.heap.size,0,none⟩) 0 0]) (by simp[results,Tryz.results164,go_sem,d0,d1,d2,d3,d4]) rfl ⟨_,rfl,eY.a1T (by simp[World.setCell]),(Below.al (Below.iM b0 (by omega) _ _) _).drew⟩
theorem VK (v:Value) (ok:Bool) (x:Int) (w:World) (h:uV w v ok x) (hl:isz x<=1000000000) :
  Calls Tryz.prog 164 #[v] w (FI x w):=by
 cases ok
 ·exact a9p v x w h
 ·have hi:=h.int;obtain⟨s,rfl,hs⟩:=hi;rcases hs with⟨p,rfl,h0⟩|⟨b,o,c,rfl,h2,h3,h4,h5⟩
  ·have hx:x=0:=by have:=jA.1 h0;omega
   subst hx;exact a5g p w (h.int)
  ·exact a9o x w _ b o _ c h.int h4 h5 rfl rfl hl
theorem a5f (v:Value) (x:Int) (w:World) (h:eY w v x) (hl:isz x<=1000000000) :
 Calls Tryz.prog 164 #[v] w (FI x w):=VK v true x w h.a9d hl
theorem Raw.toV {w:World} {v:Value} {x:Int} (h:Raw w v x):∃ ok,uV w v ok x:=by obtain⟨neg,s,l,h1,h2,h3,h4⟩:=h;exact⟨_,neg,s,l,h1,h2,h3,h4,rfl⟩
theorem LC (v:Value) (x:Int) (w:World) (h:Raw w v x) (hl:isz x<=1000000000) :
  Calls Tryz.prog 164 #[v] w (FI x w):=by
 obtain⟨ok,h⟩:=h.toV;exact VK v ok x w h hl
theorem tK {P:Program} {w:World} {ops:Array Oper} {rest:List Oper} {o:Oper} {a:Act} {Q:Exit->Act->World->Prop} (hgd:o.guard=none) (s x:Operand) (t:TypeId)
  (hop:o.op=Op.call { callee:=Callee.builtin Builtin.append,args:=#[s,x],argTypes:=#[t,t] })
  (e:TypeId) (i:TypeInfo) (h1:P.underlying t=some (.slice e)) (h2:P.info? e=some i)
  (b:Addr) (hs:a.eval s=.slice (some b) 0 0) {q:Option Addr} (hx:a.eval x=.slice q 0 0)
  (h:wpList P ops Q rest (a.put o.dst (.slice (some b) 0 0)) w):wpList P ops Q (o::rest) a w :=
 wpList_plain hgd fun _ hK=>by
  have hrun:(Builtin.append_ #[t,t] o.type #[.slice (some b) 0 0,.slice q 0 0]).run P w=.ok (.slice (some b) 0 0) w:=by cases q<;>simp[Builtin.append_,ku h1,sizeOf,typeInfo,h2,Builtin.lenOf,Builtin.firstCells,loadCells,loadCellsFrom,eu,storeCells]
  unfold Oper.wp;simp[execOp,hop,resolve,invoke,builtin,hs,hx,hrun,Result.andThen];exact hK _ _ h
theorem EI (W:World):(W.alloc (.cells #[] 148)).ownsRow W.heap.size 148 1 (.slice (some ⟨W.heap.size,0,none⟩) 0 0) 0 []:=World.ownsRow_made W #[] 0 (aj _) (by simp[maxLen]) (by simp)
theorem xK (w:World) (cs:List Value) (T:TypeId):((w.alloc (.cells cs.toArray T)).alloc (.cells #[] 148)).ownsRow (w.heap.size+1) 148 1 (.slice (some ⟨w.heap.size+1,0,none⟩) 0 0) 0 []:=by simpa using EI (w.alloc (.cells cs.toArray T))
theorem EU {w:World} {p:Option Addr} {c k:Nat} {l:List Nat} {flag neg:Bool} {L:List Nat} (hLq:l.take k=L) (hR:Rd w (.slice p L.length c) L) (hL:Low l) (hz:val (l.take k)=val l) (hf:(k=0/\flag=false)\/(0<k/\k<=l.length/\gr l (k-1)≠0/\flag=neg)) :
  eY w (.agg #[.bool flag,.slice p L.length c]) (sg neg (val l)):=by
 subst hLq;have ht:dig (val l)=l.take k:=by
  rcases hf with⟨rfl,_⟩|⟨h0,h1,h2,_⟩
  ·exact zC hL (ru _) hz (.inl rfl)
  ·exact zC hL h1 hz (.inr h2)
 refine⟨_,?_,by rw[a5j,ht];exact hR⟩;rcases hf with⟨rfl,rfl⟩|⟨h0,h1,h2,rfl⟩
 ·have:val l=0:=by rw[<-hz];simp[val]
  rw[this,a1E];simp
 ·have:val l≠0:=fun e=>by rw[e,dX] at ht;have:=qw List.length ht;rw[jk] at this;simp at this;omega
  rw[b3G this]
def a9H (x:Int) (w:World) (e:Ending) (w':World):Prop:=∃ g p n c,e=.returned (.agg #[.bool g,.slice p n c])/\eY w' (.agg #[.bool g,.slice p n c]) x/\(∀ k,(Value.slice p n c).ownBlock=some k->w.heap.size<=k)/\Below w.heap.size w w'
def a9I (l:List Nat) (w:World) (e:Ending) (w':World):Prop:=∃ s,e=.returned s/\Rd w' s l/\(∀ k,s.ownBlock=some k->w.heap.size<=k)/\Below w.heap.size w w'
theorem a4Y (s:Value) (l:List Nat) (w:World) (hs:Rd w s l) (hl:Low l) (hn:l.length<=2000000001) :
  Calls Tryz.prog 115 #[.bool true,s] w (a9H (sg true (val l)) w):=by
 obtain⟨i0,hi,hz0,hz1,hz2⟩:=Ag gX;have HL:=bf hl;clear hl;rcases hs with⟨p,rfl,rfl⟩|⟨b,o,c,rfl,h2,h3,h4,h5⟩
 ·go_enter Tryz.func115,Tryz.ntmps115
  go_wp2
  go_loop [5,8,9,10,11,12,13,14,15,16,17,18,19] (fun n _ _ _ _ _ _ _ _ _ _ _ _=>n=.int .i64 0) (fun n _ _ _ _ _ _ _ _ _ _ _ _=>0)
  case atStart=>rfl
  case round =>
   subst hrel
   go_wp2_with (at_builtin;refine tK rfl _ _ 43 rfl 148 i0 ji hi _ rfl rfl ?_)
   exact xk (v:=.agg #[.bool false,.slice (some ⟨w.heap.size+1,0,none⟩) 0 0]) (by simp[results,Tryz.results115,go_sem]) rfl ⟨_,_,_,_,rfl,by simpa [val,sg] using eY.a1T (by simp),fun k hk=>by simp[Value.ownBlock] at hk;omega,((gy _ _).alloc (aj _) _).alloc (by simp) _⟩
 ·have H5:=bf h5;clear h5
  go_enter Tryz.func115,Tryz.ntmps115
  go_wp2
  go_loop [5,8,9,10,11,12,13,14,15,16,17,18,19] (fun n _ _ _ _ _ _ _ _ _ _ _ _=>∃ k:Nat,k<=l.length/\n=.int .i64 (k:Nat)/\Hid (val (l.take k)=val l)) (fun n _ _ _ _ _ _ _ _ _ _ _ _=>(intOf n).toNat)
  case atStart=>exact⟨l.length,aj _,rfl,by simp[Hid]⟩
  case round =>
   obtain⟨k,hk,rfl,hz⟩:=hrel;cases k with
   | zero =>
    have HK:Hid ((l.take 0).length=0):=by unfold Hid;simp
    obtain⟨L,hL⟩:∃ L,l.take (0)=L:=⟨_,rfl⟩;have HLn:Hid (L.length=0):=by rw[<-hL];exact HK.out
    have HCL:Hid (∀ i,i<L.length->w.cell? ⟨b,o+i,none⟩=some (.int .u32 (gr L i:Nat))):=fun i hi=>by
     have hi2:i<0:=by have:=HLn.out;omega
     rw[<-hL,EJ hi2];exact H5.out i (by omega)
    have HLq:=bf hL;clear hL HK
    go_wp2_with (at_builtin;refine yh _ rfl _ _ 43 rfl (w.heap.size+1) 148 i0 (.int .u32 0) 1 4 ji hi hz0 hz1 hz2 rfl (by decide) _ _ _ rfl (xK w [.bool false,.slice none 0 0] 45) ⟨b,o,none⟩ (0) c (cells32 L) rfl (by rw[iZ,HLn.out]) (oK fun i hi=>(zy _ _ ⟨b,o+i,none⟩ (by simp;omega)).trans ((zy _ _ ⟨b,o+i,none⟩ h4).trans (HCL.out i hi))) (lN _) (by unfold maxLen;omega) (by omega) (by simp) ?_)
    intro v' w1 hown hgrow _;have hbw:Below (w.heap.size+1) (w.alloc (.cells #[.bool false,.slice none 0 0] 45)) w1:=((gy _ _).alloc (by simp) _).grown hgrow (by simp) (fun j e=>Nat.le_of_eq (Option.some.inj e));have hR:=Rd.dN (l:=L) (by rw[HLn.out];simpa using uK hown (ru _));obtain⟨p2,c2,rfl,_,_⟩:=hR.form;have q1:=(Bx.new w [.bool false,.slice none 0 0] 45).below hbw (by omega);have r0:=q1.c0;have r1:=q1.c1;have f0:=q1.f0;have f1:=q1.f1
    go_wp2
    exact xk (v:=.agg #[.bool false,.slice p2 L.length c2]) (by simp[results,Tryz.results115,go_sem,r0,r1]) rfl ⟨_,_,_,_,rfl,eY.iM (EU (neg:=true) (flag:=false) HLq.out hR HL.out hz.out (.inl ⟨rfl,rfl⟩)) q1 rfl rfl _ _,fun k hk=>Nat.le_of_succ_le (hown.lt k hk).1,Below.iM (((gy _ _).alloc (aj _) _).trans (hbw.mono (by simp))) (aj _) _ _⟩
   | succ k =>
    have hc:=H5.out k (by omega);by_cases hg:gr l k=0
    ·have HV:=bf (xE (by omega) hg);rw[hg] at hc;have HG:=bf hg;clear hg
     go_wp2
     go_round
     case rel=>exact⟨k,by omega,by go_num,by unfold Hid;rw[HV.out,hz.out]⟩
     case measure=>simp[intOf]
    ·have hg':((gr l k:Int)==0)=false:=by simp;omega
     have HG:=bf hg;clear hg;have HK:Hid ((l.take (k+1)).length=k+1):=by unfold Hid;rw[jk];omega
     obtain⟨L,hL⟩:∃ L,l.take (k+1)=L:=⟨_,rfl⟩;have HLn:Hid (L.length=k+1):=by rw[<-hL];exact HK.out
     have HCL:Hid (∀ i,i<L.length->w.cell? ⟨b,o+i,none⟩=some (.int .u32 (gr L i:Nat))):=fun i hi=>by
      have hi2:i<k+1:=by have:=HLn.out;omega
      rw[<-hL,EJ hi2];exact H5.out i (by omega)
     have HLq:=bf hL;clear hL HK
     go_wp2_with (at_builtin;refine yh _ rfl _ _ 43 rfl (w.heap.size+1) 148 i0 (.int .u32 0) 1 4 ji hi hz0 hz1 hz2 rfl (by decide) _ _ _ rfl (xK w [.bool false,.slice none 0 0] 45) ⟨b,o,none⟩ (k+1) c (cells32 L) rfl (by rw[iZ,HLn.out]) (oK fun i hi=>(zy _ _ ⟨b,o+i,none⟩ (by simp;omega)).trans ((zy _ _ ⟨b,o+i,none⟩ h4).trans (HCL.out i hi))) (lN _) (by unfold maxLen;omega) (by omega) (by simp) ?_)
     intro v' w1 hown hgrow _;have hbw:Below (w.heap.size+1) (w.alloc (.cells #[.bool false,.slice none 0 0] 45)) w1:=((gy _ _).alloc (by simp) _).grown hgrow (by simp) (fun j e=>Nat.le_of_eq (Option.some.inj e));have hR:=Rd.dN (l:=L) (by rw[HLn.out];simpa using uK hown (ru _));obtain⟨p2,c2,rfl,_,_⟩:=hR.form;have q1:=(Bx.new w [.bool false,.slice none 0 0] 45).below hbw (by omega);have r0:=q1.c0;have r1:=q1.c1;have f0:=q1.f0;have f1:=q1.f1
     go_wp2
     exact xk (v:=.agg #[.bool true,.slice p2 L.length c2]) (by simp[results,Tryz.results115,go_sem,r0,r1]) rfl ⟨_,_,_,_,rfl,eY.iM (EU (neg:=true) (flag:=true) HLq.out hR HL.out hz.out (.inr ⟨by omega,hk,HG.out,rfl⟩)) q1 rfl rfl _ _,fun k hk=>Nat.le_of_succ_le (hown.lt k hk).1,Below.iM (((gy _ _).alloc (aj _) _).trans (hbw.mono (by simp))) (aj _) _ _⟩
theorem a3A (s:Value) (l:List Nat) (w:World) (hs:Rd w s l) (hl:Low l) (hn:l.length<=2000000001) :
  Calls Tryz.prog 115 #[.bool false,s] w (a9H (sg false (val l)) w):=by
 obtain⟨i0,hi,hz0,hz1,hz2⟩:=Ag gX;have HL:=bf hl;clear hl;rcases hs with⟨p,rfl,rfl⟩|⟨b,o,c,rfl,h2,h3,h4,h5⟩
 ·go_enter Tryz.func115,Tryz.ntmps115
  go_wp2
  go_loop [5,8,9,10,11,12,13,14,15,16,17,18,19] (fun n _ _ _ _ _ _ _ _ _ _ _ _=>n=.int .i64 0) (fun n _ _ _ _ _ _ _ _ _ _ _ _=>0)
  case atStart=>rfl
  case round =>
   subst hrel
   go_wp2_with (at_builtin;refine tK rfl _ _ 43 rfl 148 i0 ji hi _ rfl rfl ?_)
   exact xk (v:=.agg #[.bool false,.slice (some ⟨w.heap.size+1,0,none⟩) 0 0]) (by simp[results,Tryz.results115,go_sem]) rfl ⟨_,_,_,_,rfl,by simpa [val,sg] using eY.a1T (by simp),fun k hk=>by simp[Value.ownBlock] at hk;omega,((gy _ _).alloc (aj _) _).alloc (by simp) _⟩
 ·have H5:=bf h5;clear h5
  go_enter Tryz.func115,Tryz.ntmps115
  go_wp2
  go_loop [5,8,9,10,11,12,13,14,15,16,17,18,19] (fun n _ _ _ _ _ _ _ _ _ _ _ _=>∃ k:Nat,k<=l.length/\n=.int .i64 (k:Nat)/\Hid (val (l.take k)=val l)) (fun n _ _ _ _ _ _ _ _ _ _ _ _=>(intOf n).toNat)
  case atStart=>exact⟨l.length,aj _,rfl,by simp[Hid]⟩
  case round =>
   obtain⟨k,hk,rfl,hz⟩:=hrel;cases k with
   | zero =>
    have HK:Hid ((l.take 0).length=0):=by unfold Hid;simp
    obtain⟨L,hL⟩:∃ L,l.take (0)=L:=⟨_,rfl⟩;have HLn:Hid (L.length=0):=by rw[<-hL];exact HK.out
    have HCL:Hid (∀ i,i<L.length->w.cell? ⟨b,o+i,none⟩=some (.int .u32 (gr L i:Nat))):=fun i hi=>by
     have hi2:i<0:=by have:=HLn.out;omega
     rw[<-hL,EJ hi2];exact H5.out i (by omega)
    have HLq:=bf hL;clear hL HK
    go_wp2_with (at_builtin;refine yh _ rfl _ _ 43 rfl (w.heap.size+1) 148 i0 (.int .u32 0) 1 4 ji hi hz0 hz1 hz2 rfl (by decide) _ _ _ rfl (xK w [.bool false,.slice none 0 0] 45) ⟨b,o,none⟩ (0) c (cells32 L) rfl (by rw[iZ,HLn.out]) (oK fun i hi=>(zy _ _ ⟨b,o+i,none⟩ (by simp;omega)).trans ((zy _ _ ⟨b,o+i,none⟩ h4).trans (HCL.out i hi))) (lN _) (by unfold maxLen;omega) (by omega) (by simp) ?_)
    intro v' w1 hown hgrow _;have hbw:Below (w.heap.size+1) (w.alloc (.cells #[.bool false,.slice none 0 0] 45)) w1:=((gy _ _).alloc (by simp) _).grown hgrow (by simp) (fun j e=>Nat.le_of_eq (Option.some.inj e));have hR:=Rd.dN (l:=L) (by rw[HLn.out];simpa using uK hown (ru _));obtain⟨p2,c2,rfl,_,_⟩:=hR.form;have q1:=(Bx.new w [.bool false,.slice none 0 0] 45).below hbw (by omega);have r0:=q1.c0;have r1:=q1.c1;have f0:=q1.f0;have f1:=q1.f1
    go_wp2
    exact xk (v:=.agg #[.bool false,.slice p2 L.length c2]) (by simp[results,Tryz.results115,go_sem,r0,r1]) rfl ⟨_,_,_,_,rfl,eY.iM (EU (neg:=false) (flag:=false) HLq.out hR HL.out hz.out (.inl ⟨rfl,rfl⟩)) q1 rfl rfl _ _,fun k hk=>Nat.le_of_succ_le (hown.lt k hk).1,Below.iM (((gy _ _).alloc (aj _) _).trans (hbw.mono (by simp))) (aj _) _ _⟩
   | succ k =>
    have hc:=H5.out k (by omega);by_cases hg:gr l k=0
    ·have HV:=bf (xE (by omega) hg);rw[hg] at hc;have HG:=bf hg;clear hg
     go_wp2
     go_round
     case rel=>exact⟨k,by omega,by go_num,by unfold Hid;rw[HV.out,hz.out]⟩
     case measure=>simp[intOf]
    ·have hg':((gr l k:Int)==0)=false:=by simp;omega
     have HG:=bf hg;clear hg;have HK:Hid ((l.take (k+1)).length=k+1):=by unfold Hid;rw[jk];omega
     obtain⟨L,hL⟩:∃ L,l.take (k+1)=L:=⟨_,rfl⟩;have HLn:Hid (L.length=k+1):=by rw[<-hL];exact HK.out
     have HCL:Hid (∀ i,i<L.length->w.cell? ⟨b,o+i,none⟩=some (.int .u32 (gr L i:Nat))):=fun i hi=>by
      have hi2:i<k+1:=by have:=HLn.out;omega
      rw[<-hL,EJ hi2];exact H5.out i (by omega)
     have HLq:=bf hL;clear hL HK
     go_wp2_with (at_builtin;refine yh _ rfl _ _ 43 rfl (w.heap.size+1) 148 i0 (.int .u32 0) 1 4 ji hi hz0 hz1 hz2 rfl (by decide) _ _ _ rfl (xK w [.bool false,.slice none 0 0] 45) ⟨b,o,none⟩ (k+1) c (cells32 L) rfl (by rw[iZ,HLn.out]) (oK fun i hi=>(zy _ _ ⟨b,o+i,none⟩ (by simp;omega)).trans ((zy _ _ ⟨b,o+i,none⟩ h4).trans (HCL.out i hi))) (lN _) (by unfold maxLen;omega) (by omega) (by simp) ?_)
     intro v' w1 hown hgrow _;have hbw:Below (w.heap.size+1) (w.alloc (.cells #[.bool false,.slice none 0 0] 45)) w1:=((gy _ _).alloc (by simp) _).grown hgrow (by simp) (fun j e=>Nat.le_of_eq (Option.some.inj e));have hR:=Rd.dN (l:=L) (by rw[HLn.out];simpa using uK hown (ru _));obtain⟨p2,c2,rfl,_,_⟩:=hR.form;have q1:=(Bx.new w [.bool false,.slice none 0 0] 45).below hbw (by omega);have r0:=q1.c0;have r1:=q1.c1;have f0:=q1.f0;have f1:=q1.f1
     go_wp2
     exact xk (v:=.agg #[.bool false,.slice p2 L.length c2]) (by simp[results,Tryz.results115,go_sem,r0,r1]) rfl ⟨_,_,_,_,rfl,eY.iM (EU (neg:=false) (flag:=false) HLq.out hR HL.out hz.out (.inr ⟨by omega,hk,HG.out,rfl⟩)) q1 rfl rfl _ _,fun k hk=>Nat.le_of_succ_le (hown.lt k hk).1,Below.iM (((gy _ _).alloc (aj _) _).trans (hbw.mono (by simp))) (aj _) _ _⟩
theorem rG (neg:Bool) (s:Value) (l:List Nat) (w:World) (hs:Rd w s l) (hl:Low l) (hn:l.length<=2000000001) :
  Calls Tryz.prog 115 #[.bool neg,s] w (a9H (sg neg (val l)) w):=by
 cases neg
 ·exact a3A s l w hs hl hn
 ·exact a4Y s l w hs hl hn
theorem lF (neg:Bool) (s:Value) (l:List Nat) (w:World) (hs:Rd w s l) (hl:Low l) (hn:l.length<=2000000001) :
  Calls Tryz.prog 115 #[.bool neg,s] w (FI (sg neg (val l)) w) :=
 (rG neg s l w hs hl hn).mono fun e w' ⟨g,p,n,c,h1,h2,_,h4⟩=>⟨_,h1,h2,h4⟩
theorem DI (o:List Nat) (r:Nat):val (o++[r])=val o+BB ^ o.length*r:=by rw[val_append];simp[dA,val]
theorem BM {o:List Nat} {r:Nat} (h:Low o) (hr:r<=999999999):Low (o++[r]):=Low.append.2 ⟨h,Low.cons.2 ⟨by rw[bV];omega,Low.nil⟩⟩
structure a0u (a b o:List Nat) (k c:Nat):Prop where
 len:o.length=k
 low:Low o
 vl:val o+BB ^ k*c=val (a.take k)+val (b.take k)
 car:c<=1
theorem a0u.zero (a b:List Nat):a0u a b [] 0 0:=⟨rfl,Low.nil,by simp[val],by omega⟩
theorem a0u.step {a b o:List Nat} {k c r q:Nat} (h:a0u a b o k c) (ha:gr a k<=999999999) (hb:gr b k<=999999999) (hs:gr a k+gr b k+c=r+1000000000*q) (hr:r<=999999999):a0u a b (o++[r]) (k+1) q:=by
 have hc:=h.car;refine⟨by simp[h.len],BM h.low hr,?_,by omega⟩;rw[DI,bG,bG,h.len,Nat.pow_succ];have:=h.vl;simp only[bV] at *
 have e:1000000000 ^ k*(gr a k+gr b k+c)=1000000000 ^ k*(r+1000000000*q):=by rw[hs]
 grind
theorem a0u.done {a b o:List Nat} {k c:Nat} (h:a0u a b o k c) (h1:a.length<=k) (h2:b.length<=k):Low (o++[c])/\val (o++[c])=val a+val b:=by have hc:=h.car;have hv:=h.vl;rw[dR h1,dR h2] at hv;exact⟨BM h.low (by omega),by rw[DI,h.len];exact hv⟩
structure a0w (a o:List Nat) (d k c:Nat):Prop where
 len:o.length=k
 low:Low o
 vl:val o+BB ^ k*c=val (a.take k)*d
 car:c<=999999999
theorem a0w.zero (a:List Nat) (d:Nat):a0w a [] d 0 0:=⟨rfl,Low.nil,by simp[val],by omega⟩
theorem a0w.step {a o:List Nat} {d k c r q:Nat} (h:a0w a o d k c) (hs:gr a k*d+c=r+1000000000*q) (hr:r<=999999999) (hq:q<=999999999):a0w a (o++[r]) d (k+1) q:=by
 refine⟨by simp[h.len],BM h.low hr,?_,hq⟩;rw[DI,bG,h.len,Nat.pow_succ];have:=h.vl;simp only[bV] at *
 have e:1000000000 ^ k*(gr a k*d+c)=1000000000 ^ k*(r+1000000000*q):=by rw[hs]
 grind
theorem a0w.done {a o:List Nat} {d k c:Nat} (h:a0w a o d k c) (h1:a.length<=k):Low (o++[c])/\val (o++[c])=val a*d:=by have hv:=h.vl;rw[dR h1] at hv;exact⟨BM h.low h.car,by rw[DI,h.len];exact hv⟩
structure MInv (a b o:List Nat) (k c:Nat):Prop where
 len:o.length=k
 low:Low o
 vl:val o+val (b.take k)=val (a.take k)+BB ^ k*c
 car:c<=1
theorem MInv.zero (a b:List Nat):MInv a b [] 0 0:=⟨rfl,Low.nil,by simp[val],by omega⟩
theorem MInv.step {a b o:List Nat} {k c r c':Nat} (h:MInv a b o k c) (hs:r+gr b k+c=gr a k+1000000000*c') (hr:r<=999999999) (hc:c'<=1):MInv a b (o++[r]) (k+1) c':=by
 refine⟨by simp[h.len],BM h.low hr,?_,hc⟩;rw[DI,bG,bG,h.len,Nat.pow_succ];have:=h.vl;simp only[bV] at *
 have e:1000000000 ^ k*(r+gr b k+c)=1000000000 ^ k*(gr a k+1000000000*c'):=by rw[hs]
 grind
theorem MInv.done {a b o:List Nat} {k c:Nat} (h:MInv a b o k c) (h1:a.length<=k) (h2:b.length<=k) (hle:val b<=val a):val o=val a-val b:=by
 have hv:=h.vl;rw[dR h1,dR h2] at hv;have hl:=mG h.low;rw[h.len] at hl;have hc:=h.car;rcases Ai c with h0|h0
 ·subst h0;simp at hv;omega
 ·have:c=1:=by omega
  subst this;simp at hv;omega
structure a0v (a o:List Nat) (d k r:Nat):Prop where
 len:o.length=a.length
 low:Low (o.drop k)
 vl:val (a.drop k)=val (o.drop k)*d+r
 rest:r<d
theorem xB {a:List Nat} {k:Nat} (hk:k<a.length):val (a.drop k)=gr a k+BB*val (a.drop (k+1)):=by rw[Bh hk,dA,qL hk]
theorem a0v.start (a:List Nat) {d:Nat} (hd:0<d):a0v a (List.replicate a.length 0) d a.length 0:=⟨by simp,by simp[Low.nil],by simp[val],hd⟩
theorem a0v.step {a o:List Nat} {d k r q r':Nat} (h:a0v a o d (k+1) r) (hk:k<a.length) (hn:r*1000000000+gr a k=q*d+r') (hr:r'<d) (ha:gr a k<=999999999):a0v a (o.set k q) d k r'/\q<=999999999:=by
 have hq:q<=999999999:=by
  rcases Ad 999999999 q with h1|h1
  ·exfalso;have e1:1000000000*d<=q*d:=jl _ h1;have e2:=h.rest;have e3:(r+1)*1000000000<=d*1000000000:=jl _ e2;rw[Aq] at e3;rw[vw d] at e3;omega
  ·exact h1
 have hl:k<o.length:=by rw[h.len];exact hk
 have hs:(o.set k q).drop k=q::o.drop (k+1):=by rw[Bh (by simpa using hl),List.drop_set_of_lt (by omega)];simp
 refine⟨⟨by simp[h.len],?_,?_,hr⟩,hq⟩
 ·rw[hs];exact Low.cons.2 ⟨by rw[bV];omega,h.low⟩
 ·rw[hs,xB hk,h.vl,dA,bV];grind
theorem a0v.done {a o:List Nat} {d r:Nat} (h:a0v a o d 0 r):Low o/\val o=val a / d/\r=val a%d:=by
 have h1:=h.vl;simp at h1;have hr:=h.rest;have hl:=h.low;simp at hl;refine⟨hl,?_,?_⟩
 ·rw[h1,vw,Nat.mul_add_div (by omega),Ez hr];simp
 ·rw[h1,vw,Nat.mul_add_mod,Ef hr]
theorem jO:∀ (a b:Value) (w:World),Sem.run Tryz.prog (Instr.field 45 (.agg #[a,b]) 1) w=.ok b w:=fun a b w=>by kernel_rfl
theorem eY.rd {w:World} {b s:Value} {x:Int} (h:eY w (.agg #[b,s]) x):Rd w s (dig x.natAbs):=by obtain⟨s',e,h⟩:=h;cases e;exact h
theorem group_any (s:Value) (l:List Nat) (i:Int) (w:World) (hs:Rd w s l) (hl:Low l) (h0:0<=i) :
  Calls Tryz.prog 269 #[s,.int .i64 i] w fun e w'=>e=.returned (.int .u64 (gr l i.toNat:Nat))/\w=w':=by
 obtain⟨n,rfl⟩:=uf h0;rw[Int.toNat_natCast];clear h0;have hg:=gJ hl n;rcases hs with⟨p,rfl,rfl⟩|⟨b,o,c,rfl,h2,h3,h4,h5⟩
 ·have h8:decide ((n:Int)<0)=false:=by simp
  go_enter Tryz.func269,Tryz.ntmps269
  go_wp2_with fail
  go_ret
  exact⟨by simp[gr],rfl⟩
 ·by_cases hn:n<l.length
  ·have h6:=h5 n hn;clear h5
   go_enter Tryz.func269,Tryz.ntmps269
   go_wp2
   go_ret
   exact⟨rfl,rfl⟩
  ·clear h5
   go_enter Tryz.func269,Tryz.ntmps269
   go_wp2
   go_ret
   exact⟨by rw[wY (by omega)];rfl,rfl⟩
theorem EK (s:Value) (l:List Nat) (k:Nat) (w:World) (hs:Rd w s l) (hl:Low l) :
  Calls Tryz.prog 269 #[s,.int .i64 (k:Nat)] w fun e w'=>e=.returned (.int .u64 (gr l k:Nat))/\w=w':=by
 have:=group_any s l k w hs hl (by omega);rwa [Int.toNat_natCast] at this
theorem nN (l:List Nat) (g:Nat):cells32 l++[.int .u32 (g:Nat)]=cells32 (l++[g]):=by simp[cells32]
theorem a9m (s t:Value) (a b:List Nat) (w:World) (hs:Rd w s a) (ht:Rd w t b) (ha:Low a) (hb:Low b) (la:a.length<=1000000000) (lb:b.length<=1000000000) :
  Calls Tryz.prog 239 #[s,t] w (a9I (dig (val a+val b)) w):=by
 obtain⟨i0,hi,hz0,hz1,hz2⟩:=Ag gX;obtain⟨p,c,rfl,_,_⟩:=hs.form;obtain⟨q,d,rfl,_,_⟩:=ht.form;have HA:=bf ha;have HB:=bf hb;clear ha hb;have hf1:=jO;have hO:=EI w;have hB0:Below w.heap.size w (w.alloc (.cells #[] 148)):=(gy _ _).alloc (aj _) _
 go_enter Tryz.func239,Tryz.ntmps239
 go_wp2_with fail
 go_loopw [5,6,7,8,10,11,12,13,14,15,16,17,18,19,20,21,22,23,24,25,26,27,28,29,30,31,32,33,34,35,36,37,38] (fun v cc i _ _ _ _ _ _ _ _ _ _ _ _ _ _ _ _ _ _ _ _ _ _ _ _ _ _ _ _ _ _ wr=>∃ (k e:Nat) (o:List Nat),k<=max a.length b.length/\i=.int .i64 (k:Nat)/\cc=.int .u64 (e:Nat)/\a0u a b o k e/\wr.ownsRow w.heap.size 148 1 v k (cells32 o)/\Below w.heap.size w wr) (fun _ _ i _ _ _ _ _ _ _ _ _ _ _ _ _ _ _ _ _ _ _ _ _ _ _ _ _ _ _ _ _ _ _=>max a.length b.length-(intOf i).toNat)
 case atStart=>exact⟨0,0,[],by omega,rfl,rfl,a0u.zero a b,hO,hB0⟩
 case round =>
  obtain⟨k,e,o,hk,rfl,rfl,hI,hown,hB⟩:=hrel;have ga:gr a k<=999999999:=gJ HA.out k;have gb:gr b k<=999999999:=gJ HB.out k;have ge:e<=1:=hI.car;have hsz:=hB.size;by_cases hlt:k<a.length\/k<b.length
  ·have hN:=fun r q=>hI.step (r:=r) (q:=q) ga gb;obtain⟨r,hr⟩:∃ r,(gr a k+gr b k+e)%1000000000=r:=⟨_,rfl⟩;obtain⟨m,hm⟩:∃ m,(gr a k+gr b k+e) / 1000000000=m:=⟨_,rfl⟩;have hN:=hI.step (r:=r) (q:=m) ga gb (by omega) (by omega);have hr2:((gr a k:Int)+gr b k+e)%1000000000=r:=by omega
   have hm2:((gr a k:Int)+gr b k+e) / 1000000000=m:=by omega
   have hr3:r<=999999999:=by omega
   have HN:=bf hN;clear hr hm hN;have hlt2:k+1<=max a.length b.length:=by omega
   have hd1:decide (k<a.length)=true\/(decide (k<a.length)=false/\decide (k<b.length)=true):=by
    by_cases h:k<a.length
    ·left;simpa using h
    ·right;exact⟨by simpa using h,by simp;omega⟩
   clear hlt;by_cases hka:k<a.length;all_goals
    (try have hkb:k<b.length:=by omega)
    clear hd1
    go_wp2_with fail
    refine(EK _ a k _ (hs.below hB) HA.out).mono ?_;rintro e' w' ⟨rfl,rfl⟩
    go_wp2_with fail
    refine(EK _ b k _ (ht.below hB) HB.out).mono ?_;rintro e' w' ⟨rfl,rfl⟩
    go_wp2_with (at_builtin;refine yh _ rfl _ _ 43 rfl w.heap.size 148 i0 (.int .u32 0) 1 4 ji hi hz0 hz1 hz2 rfl (by decide) _ _ _ rfl (hown.alloc _) ⟨wr.heap.size,0,none⟩ 1 1 [.int .u32 (r:Nat)] rfl rfl (cell_one_new _ _ _) (by simp[Value.oneCell']) (by unfold maxLen;omega) (by omega) (by simp;omega) ?_)
    intro v' w1 hown' hgrow _;rw[nN] at hown';have hB1:Below w.heap.size w w1:=(hB.alloc hsz _).grown hgrow (by simp;omega) (fun j e=>(hown.lt j e).1);clear hgrow
    go_wp2_with fail
    go_roundw
    case rel=>exact⟨k+1,m,o++[r],hlt2,by go_num,by rw[hm2],HN.out,hown',hB1⟩
    case measure=>simp[intOf];omega
  ·have hka:¬ k<a.length:=by omega
   have hkb:¬ k<b.length:=by omega
   have hD:=hI.done (by omega) (by omega);have HV:Hid (sg false (val (o++[e]))=((val a+val b:Nat):Int)):=by unfold Hid;rw[hD.2];rfl
   clear hlt
   go_wp2_with (at_builtin;refine yh _ rfl _ _ 43 rfl w.heap.size 148 i0 (.int .u32 0) 1 4 ji hi hz0 hz1 hz2 rfl (by decide) _ _ _ rfl (hown.alloc _) ⟨wr.heap.size,0,none⟩ 1 1 [.int .u32 (e:Nat)] rfl rfl (cell_one_new _ _ _) (by simp[Value.oneCell']) (by unfold maxLen;omega) (by omega) (by simp;omega) ?_)
   intro v' w1 hown' hgrow _;rw[nN] at hown';have hB1:Below w.heap.size w w1:=(hB.alloc hsz _).grown hgrow (by simp;omega) (fun j e=>(hown.lt j e).1);clear hgrow;have hR:=Rd.dN (l:=o++[e]) (by rw[dh,hI.len];exact hown')
   go_wp2_with fail
   refine(rG false _ _ _ hR hD.1 (by rw[dh,hI.len];simp;omega)).mono ?_;rw[HV.out];rintro e2 w2 ⟨g2,p2,n2,c2,rfl,hi2,hfr2,hb2⟩;have hR2:=hi2.rd
   go_wp2_with fail
   go_ret
   exact⟨_,rfl,hR2,fun k hk=>au hB1.size (hfr2 k hk),hB1.trans (hb2.mono hB1.size)⟩
theorem CY (s:Value) (a:List Nat) (d:Nat) (w:World) (hs:Rd w s a) (ha:Low a) (la:a.length<=1000000001) (hd:d<=999999999) :
  Calls Tryz.prog 267 #[s,.int .u64 (d:Nat)] w (a9I (dig (val a*d)) w):=by
 obtain⟨i0,hi,hz0,hz1,hz2⟩:=Ag gX;obtain⟨p,c,rfl,_,_⟩:=hs.form;have HA:=bf ha;clear ha;have hf1:=jO;have hO:=EI w;have hB0:Below w.heap.size w (w.alloc (.cells #[] 148)):=(gy _ _).alloc (aj _) _
 go_enter Tryz.func267,Tryz.ntmps267
 go_wp2_with fail
 go_loopw [5,6,7,8,10,11,12,13,14,15,16,17,18,19,20,21,22,23,24,25,26,27,28,29,30,31,32] (fun v cc i _ _ _ _ _ _ _ _ _ _ _ _ _ _ _ _ _ _ _ _ _ _ _ _ wr=>∃ (k e:Nat) (o:List Nat),k<=a.length/\i=.int .i64 (k:Nat)/\cc=.int .u64 (e:Nat)/\a0w a o d k e/\wr.ownsRow w.heap.size 148 1 v k (cells32 o)/\Below w.heap.size w wr) (fun _ _ i _ _ _ _ _ _ _ _ _ _ _ _ _ _ _ _ _ _ _ _ _ _ _ _ _=>a.length-(intOf i).toNat)
 case atStart=>exact⟨0,0,[],by omega,rfl,rfl,a0w.zero a d,hO,hB0⟩
 case round =>
  obtain⟨k,e,o,hk,rfl,rfl,hI,hown,hB⟩:=hrel;have ga:gr a k<=999999999:=gJ HA.out k;have ge:e<=999999999:=hI.car;have hsz:=hB.size;by_cases hlt:k<a.length
  ·obtain⟨ba,oa,rfl,hba,hca⟩:=hs.at (by intro e;subst e;simp at hlt);have hcell:wr.cell? ⟨ba,oa+k,none⟩=some (.int .u32 (gr a k:Nat)):=(hB.cell (p:=⟨ba,oa+k,none⟩) hba).trans (hca k hlt);clear hca;obtain⟨x,hx⟩:∃ x:Nat,(gr a k:Int)*d=x:=⟨gr a k*d,by simp⟩;have hx2:gr a k*d=x:=by
    have h2:((gr a k*d:Nat):Int)=x:=by rw[<-hx];simp
    omega
   have hx3:x<=999999998000000001:=by have h1:gr a k*d<=999999999*999999999:=uy ga hd;omega
   obtain⟨r,hr⟩:∃ r,(x+e)%1000000000=r:=⟨_,rfl⟩;obtain⟨m,hm⟩:∃ m,(x+e) / 1000000000=m:=⟨_,rfl⟩;have hN:=hI.step (r:=r) (q:=m) (by omega) (by omega) (by omega);have hr2:((x:Int)+e)%1000000000=r:=by omega
   have hm2:((x:Int)+e) / 1000000000=m:=by omega
   have hr3:r<=999999999:=by omega
   have HN:=bf hN;clear hr hm hN hx2;have hlt2:k+1<=a.length:=by omega
   go_wp2_with (at_builtin;refine yh _ rfl _ _ 43 rfl w.heap.size 148 i0 (.int .u32 0) 1 4 ji hi hz0 hz1 hz2 rfl (by decide) _ _ _ rfl (hown.alloc _) ⟨wr.heap.size,0,none⟩ 1 1 [.int .u32 (r:Nat)] rfl rfl (cell_one_new _ _ _) (by simp[Value.oneCell']) (by unfold maxLen;omega) (by omega) (by simp;omega) ?_)
   intro v' w1 hown' hgrow _;rw[nN] at hown';have hB1:Below w.heap.size w w1:=(hB.alloc hsz _).grown hgrow (by simp;omega) (fun j e=>(hown.lt j e).1);clear hgrow
   go_wp2_with fail
   go_roundw
   case rel=>exact⟨k+1,m,o++[r],hlt2,by go_num,by rw[hm2],HN.out,hown',hB1⟩
   case measure=>simp[intOf];omega
  ·obtain rfl:k=a.length:=by omega
   have hD:=hI.done (aj _);have HV:Hid (sg false (val (o++[e]))=((val a*d:Nat):Int)):=by unfold Hid;rw[hD.2];rfl
   clear hlt
   go_wp2_with (at_builtin;refine yh _ rfl _ _ 43 rfl w.heap.size 148 i0 (.int .u32 0) 1 4 ji hi hz0 hz1 hz2 rfl (by decide) _ _ _ rfl (hown.alloc _) ⟨wr.heap.size,0,none⟩ 1 1 [.int .u32 (e:Nat)] rfl rfl (cell_one_new _ _ _) (by simp[Value.oneCell']) (by unfold maxLen;omega) (by omega) (by simp;omega) ?_)
   intro v' w1 hown' hgrow _;rw[nN] at hown';have hB1:Below w.heap.size w w1:=(hB.alloc hsz _).grown hgrow (by simp;omega) (fun j e=>(hown.lt j e).1);clear hgrow;have hR:=Rd.dN (l:=o++[e]) (by rw[dh,hI.len];exact hown')
   go_wp2_with fail
   refine(rG false _ _ _ hR hD.1 (by rw[dh,hI.len];simp;omega)).mono ?_;rw[HV.out];rintro e2 w2 ⟨g2,p2,n2,c2,rfl,hi2,hfr2,hb2⟩;have hR2:=hi2.rd
   go_wp2_with fail
   go_ret
   exact⟨_,rfl,hR2,fun k hk=>au hB1.size (hfr2 k hk),hB1.trans (hb2.mono hB1.size)⟩
theorem II (s t:Value) (a b:List Nat) (w:World) (hs:Rd w s a) (ht:Rd w t b) (ha:Low a) (hb:Low b) (la:a.length<=1000000002) (lb:b.length<=a.length) (hle:val b<=val a) :
  Calls Tryz.prog 241 #[s,t] w (a9I (dig (val a-val b)) w):=by
 obtain⟨i0,hi,hz0,hz1,hz2⟩:=Ag gX;obtain⟨p,c,rfl,_,_⟩:=hs.form;obtain⟨q,d,rfl,_,_⟩:=ht.form;have HA:=bf ha;have HB:=bf hb;have HLE:=bf hle;clear ha hb hle;have hf1:=jO;have hO:=EI w;have hB0:Below w.heap.size w (w.alloc (.cells #[] 148)):=(gy _ _).alloc (aj _) _
 go_enter Tryz.func241,Tryz.ntmps241
 go_wp2_with fail
 go_loopw [5,6,7,8,10,11,12,13,14,15,16,17,18,19,20,21,22,23,24,25,26,27,28,29,30,31,32,33] (fun v cc i _ _ _ _ _ _ _ _ _ _ _ _ _ _ _ _ _ _ _ _ _ _ _ _ _ wr=>∃ (k e:Nat) (o:List Nat),k<=a.length/\i=.int .i64 (k:Nat)/\cc=.int .u64 (e:Nat)/\MInv a b o k e/\wr.ownsRow w.heap.size 148 1 v k (cells32 o)/\Below w.heap.size w wr) (fun _ _ i _ _ _ _ _ _ _ _ _ _ _ _ _ _ _ _ _ _ _ _ _ _ _ _ _ _=>a.length-(intOf i).toNat)
 case atStart=>exact⟨0,0,[],by omega,rfl,rfl,MInv.zero a b,hO,hB0⟩
 case round =>
  obtain⟨k,e,o,hk,rfl,rfl,hI,hown,hB⟩:=hrel;have ga:gr a k<=999999999:=gJ HA.out k;have gb:gr b k<=999999999:=gJ HB.out k;have ge:e<=1:=hI.car;have hsz:=hB.size;by_cases hlt:k<a.length
  ·obtain⟨x,hx⟩:∃ x:Nat,x+gr b k+e=1000000000+gr a k:=⟨1000000000+gr a k-gr b k-e,by omega⟩;obtain⟨r,hr⟩:∃ r,x%1000000000=r:=⟨_,rfl⟩;obtain⟨m,hm⟩:∃ m,x / 1000000000=m:=⟨_,rfl⟩;obtain⟨y,hy⟩:∃ y,y+m=1:=⟨1-m,by omega⟩;have hN:=hI.step (r:=r) (c':=y) (by omega) (by omega) (by omega);have hr2:((1000000000:Int)+gr a k-gr b k-e)%1000000000=r:=by omega
   have hm2:((1000000000:Int)+gr a k-gr b k-e) / 1000000000=m:=by omega
   have hy2:(1:Int)-m=y:=by omega
   have hr3:r<=999999999:=by omega
   have hm3:m<=1:=by omega
   have HN:=bf hN;have HY:=bf hy2;clear hr hm hN hx hy hy2;have hlt2:k+1<=a.length:=by omega
   go_wp2_with fail
   refine(EK _ a k _ (hs.below hB) HA.out).mono ?_;rintro e' w' ⟨rfl,rfl⟩
   go_wp2_with fail
   refine(EK _ b k _ (ht.below hB) HB.out).mono ?_;rintro e' w' ⟨rfl,rfl⟩
   go_wp2_with (at_builtin;refine yh _ rfl _ _ 43 rfl w.heap.size 148 i0 (.int .u32 0) 1 4 ji hi hz0 hz1 hz2 rfl (by decide) _ _ _ rfl (hown.alloc _) ⟨wr.heap.size,0,none⟩ 1 1 [.int .u32 (r:Nat)] rfl rfl (cell_one_new _ _ _) (by simp[Value.oneCell']) (by unfold maxLen;omega) (by omega) (by simp;omega) ?_)
   intro v' w1 hown' hgrow _;rw[nN] at hown';have hB1:Below w.heap.size w w1:=(hB.alloc hsz _).grown hgrow (by simp;omega) (fun j e=>(hown.lt j e).1);clear hgrow
   go_wp2_with fail
   go_roundw
   case rel=>exact⟨k+1,y,o++[r],hlt2,by go_num,by rw[<-HY.out],HN.out,hown',hB1⟩
   case measure=>simp[intOf];omega
  ·obtain rfl:k=a.length:=by omega
   have hD:=hI.done (aj _) lb HLE.out;have hlow:=hI.low;have hlen:=hI.len;have HV:Hid (sg false (val o)=((val a-val b:Nat):Int)):=by unfold Hid;rw[hD];rfl
   have hR:=Rd.dN (l:=o) (by rw[hlen];exact hown);clear hlt hD
   go_wp2_with fail
   refine(rG false _ _ _ hR hlow (by rw[hlen];omega)).mono ?_;rw[HV.out];rintro e2 w2 ⟨g2,p2,n2,c2,rfl,hi2,hfr2,hb2⟩;have hR2:=hi2.rd
   go_wp2_with fail
   go_ret
   exact⟨_,rfl,hR2,fun k hk=>au hB.size (hfr2 k hk),hB.trans (hb2.mono hB.size)⟩
end Go.Proofs.YtbkocjmmbkifjaaGreat
