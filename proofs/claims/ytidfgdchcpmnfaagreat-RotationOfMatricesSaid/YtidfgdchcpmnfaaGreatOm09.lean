/-
  Lemmas for the theorem vofmatrices_holds, part 9 of 32.
-/
import Derived.Deep.RegionWith
import Derived.Test.YtidfgdchcpmnfaaGreatOm06
import Derived.Test.YtidfgdchcpmnfaaGreatOm07
import Derived.Test.YtidfgdchcpmnfaaGreatOm08
namespace Go.Proofs.YtidfgdchcpmnfaaGreat
open Go.RowKit
set_option linter.unusedSimpArgs false
set_option linter.unusedVariables false
set_option maxRecDepth 20000
theorem jE.congr {w:World} {b n K:Nat} {ok ok':Nat->Bool} {e e':Nat->Rat} (h:jE w b n K ok e) (h1:∀ i,i<n->ok i=ok' i) (h2:∀ i,i<n->e i=e' i):jE w b n K ok' e':=by
 obtain⟨f,k1,k2⟩:=h
 exact⟨f,k1,fun j hj=>by rw[<-h1 j hj,<-h2 j hj];exact k2 j hj⟩
theorem nX.rsz {w:World} {s:Value} {n K:Nat} {ok:Nat->Bool} {e:Nat->Rat} (h:nX w s n K ok e) {i:Nat} (hi:i<n) (ho:ok i=true):rsz (e i)<=K:=by
 obtain⟨p,c,rfl,_,_⟩:=h.form
 obtain⟨b,o,g,q,m,d,g',q',m',d',_,_,_,_,_,_,hr,hn⟩:=h.at_ hi
 rw[ho] at hr
 exact hr.rq.iV hn
theorem KU.rsz {w:World} {s:Value} {n K:Nat} {e:Nat->Rat} (h:KU w s n K e) {i:Nat} (hi:i<n):Go.Proofs.YtidfgdchcpmnfaaGreat.rsz (e i)<=K:=nX.rsz h hi rfl
theorem KU.below {w w':World} {s:Value} {n K:Nat} {e:Nat->Rat} (h:KU w s n K e) (hb:Below w.heap.size w w'):KU w' s n K e:=nX.below h hb
theorem KU.at_ {w:World} {p:Option Addr} {n c K:Nat} {e:Nat->Rat} (h:KU w (.slice p n c) n K e) {k:Nat} (hk:k<n) :
 ∃ b o g q m d g' q' m' d',p=some ⟨b,o,none⟩/\b<w.heap.size/\w.cell? ⟨b,o+k*4,none⟩=some (.bool g)/\w.cell? ⟨b,o+k*4+1,none⟩=some (.slice q m d)/\w.cell? ⟨b,o+k*4+2,none⟩=some (.bool g')/\w.cell? ⟨b,o+k*4+3,none⟩=some (.slice q' m' d') /\
  fE w (.agg #[.bool g,.slice q m d,.bool g',.slice q' m' d']) true (e k)/\Qn (.agg #[.bool g,.slice q m d,.bool g',.slice q' m' d']) K:=nX.at_ h hk
theorem KU.form {w:World} {s:Value} {n K:Nat} {e:Nat->Rat} (h:KU w s n K e):∃ p c,s=.slice p n c/\n<=c/\c<=9223372036854775807:=nX.form h
theorem qN.below {w w':World} {v:Value} {R C K:Nat} {e:Nat->Nat->Rat} (h:qN w v R C K e) (hb:Below w.heap.size w w'):qN w' v R C K e:=rQ.below h hb
theorem qN.form {w:World} {v:Value} {R C K:Nat} {e:Nat->Nat->Rat} (h:qN w v R C K e):∃ p c,v=.slice p R c/\R<=c/\c<=9223372036854775807:=rQ.form h
theorem qN.at_ {w:World} {p:Option Addr} {R C c K:Nat} {e:Nat->Nat->Rat} (h:qN w (.slice p R c) R C K e) {k:Nat} (hk:k<R) :
 ∃ b o q d,p=some ⟨b,o,none⟩/\b<w.heap.size/\w.cell? ⟨b,o+k,none⟩=some (.slice q C d)/\KU w (.slice q C d) C K (e k):=rQ.at_ h hk
def Z4:Array Value:=#[.bool false,.slice none 0 0,.bool false,.slice none 0 0]
theorem jE.made (w:World) (C K:Nat):jE (w.alloc (.cells (madeCells Z4 (C*4)) 30)) w.heap.size C K (fun _=>false) (fun _=>0):=by
 have hs:(madeCells Z4 (C*4)).size=C*4:=size_madeCells _ _
 refine⟨fun i=>Z4[i%4]!,?_,fun j hj=>?_⟩
 ·have:=World.rowIs_alloc w (madeCells Z4 (C*4)) 30 (fun i=>Z4[i%4]!) (fun i hi=>by
   rw[hs] at hi
   simp[madeCells,hi,Z4])
  rw[hs] at this
  exact this
 ·have e0:j*4%4=0:=by omega
  have e1:(j*4+1)%4=1:=by omega
  have e2:(j*4+2)%4=2:=by omega
  have e3:(j*4+3)%4=3:=by omega
  simp only[e0,e1,e2,e3]
  exact QC.zero _ _
theorem jW.start (w:World) (R C K:Nat) (rb:Nat->Nat) (e:Nat->Nat->Rat) (base:Nat) (hb:base<=w.heap.size):jW (w.alloc (.cells (madeCells #[.slice none 0 0] R) 25)) base w.heap.size R C K 0 rb e :=
 ⟨(World.rowIs_made w (.slice none 0 0) R 25).congr (fun i _=>by rw[if_neg (by omega)]),hb,fun i hi=>by omega,fun i hi=>by omega,fun i j hi=>by omega⟩
structure xM (w:World) (base b R C K k j:Nat) (rb:Nat->Nat) (e:Nat->Nat->Rat):Prop where
 outer:w.rowIs b 25 R (fun i=>if i<k+1 then .slice (some ⟨rb i,0,none⟩) C C else .slice none 0 0)
 hb:base<=b
 rows:∀ i,i<k->jE w (rb i) C K (fun _=>true) (e i)
 row:jE w (rb k) C K (fun c=>decide (c<j)) (fun c=>if c<j then e k c else 0)
 hrb:∀ i,i<k+1->base<=rb i/\rb i≠b
 inj:∀ i j,i<k+1->j<k+1->rb i=rb j->i=j
theorem xM.below {w w':World} {base b R C K k j:Nat} {rb:Nat->Nat} {e:Nat->Nat->Rat} (h:xM w base b R C K k j rb e) (hb:Below w.heap.size w w'):xM w' base b R C K k j rb e :=
 ⟨h.outer.of_block (hb.block b h.outer.lt),h.hb,fun i hi=>(h.rows i hi).below (m:=0) hb,h.row.below (m:=0) hb,h.hrb,h.inj⟩
theorem xM.start {w:World} {base b R C K k:Nat} {rb:Nat->Nat} {e:Nat->Nat->Rat} (h:jW w base b R C K k rb e) (hk:k<R) (hbase:base<=w.heap.size) :
  xM ((w.alloc (.cells (madeCells Z4 (C*4)) 30)).setCell ⟨b,k,none⟩ (.slice (some ⟨w.heap.size,0,none⟩) C C)) base b R C K k 0 (fun i=>if i=k then w.heap.size else rb i) e:=by
 have hlt:=h.outer.lt
 have hne:w.heap.size≠b:=by omega
 have hc:(w.alloc (.cells (madeCells Z4 (C*4)) 30)).cell? ⟨b,k,none⟩=some (.slice none 0 0):=by
  have:=(h.outer.alloc (.cells (madeCells Z4 (C*4)) 30)).cell hk
  rw[if_neg (by omega)] at this
  exact this
 refine⟨((h.outer.alloc _).set k _).congr (fun i hi=>?_),h.hb,fun i hi=>?_,?_,fun i hi=>?_,fun i j hi hj=>?_⟩
 ·by_cases e1:i=k
  ·subst e1;simp
  ·simp only[if_neg e1]
   by_cases e2:i<k
   ·rw[if_pos e2,if_pos (by omega)]
   ·rw[if_neg e2,if_neg (by omega)]
 ·rw[if_neg (by omega)]
  exact((h.rows i hi).below (m:=0) ((Below.refl _ _).alloc (Nat.le_refl _) _)).other (h.hrb i hi).2 hc rfl _
 ·simp only[if_true]
  exact((jE.made w C K).other hne hc rfl _).congr (fun i _=>by simp) (fun i _=>by simp)
 ·by_cases e1:i=k
  ·rw[if_pos e1];exact⟨hbase,hne⟩
  ·rw[if_neg e1];exact h.hrb i (by omega)
 ·by_cases e1:i=k
  ·by_cases e2:j=k
   ·intro _;omega
   ·rw[if_pos e1,if_neg e2];intro e3;have:=(h.rows j (by omega)).lt;omega
  ·by_cases e2:j=k
   ·rw[if_neg e1,if_pos e2];intro e3;have:=(h.rows i (by omega)).lt;omega
   ·rw[if_neg e1,if_neg e2];exact h.inj i j (by omega) (by omega)
theorem xM.step {w:World} {base b R C K k j:Nat} {rb:Nat->Nat} {e:Nat->Nat->Rat} (h:xM w base b R C K k j rb e) (hj:j<C) {x0 x1 x2 x3:Value} (hq:QC w x0 x1 x2 x3 K true (e k j)) :
  xM (st4 w (rb k) (j*4) x0 x1 x2 x3) base b R C K k (j+1) rb e:=by
 have hne:b≠rb k:=fun e1=>(h.hrb k (by omega)).2 e1.symm
 refine⟨(((h.outer.setOther (by simpa using hne) x0).setOther (by simpa using hne) x1).setOther (by simpa using hne) x2).setOther (by simpa using hne) x3,h.hb,fun i hi=>?_,?_,h.hrb,h.inj⟩
 ·exact(h.rows i hi).dI h.row (fun e1=>by have:=h.inj i k (by omega) (by omega) e1;omega) hj x0 x1 x2 x3
 ·refine(h.row.QX hj hq).congr (fun c _=>?_) (fun c _=>?_)
  ·by_cases e1:c=j
   ·subst e1;simp
   ·rw[if_neg e1];simp;omega
  ·by_cases e1:c=j
   ·subst e1;simp
   ·rw[if_neg e1]
    by_cases e2:c<j
    ·rw[if_pos e2,if_pos (by omega)]
    ·rw[if_neg e2,if_neg (by omega)]
theorem xM.done {w:World} {base b R C K k:Nat} {rb:Nat->Nat} {e:Nat->Nat->Rat} (h:xM w base b R C K k C rb e):jW w base b R C K (k+1) rb e:=by
 refine⟨h.outer,h.hb,fun i hi=>?_,h.hrb,h.inj⟩
 by_cases e1:i=k
 ·subst e1
  exact h.row.congr (fun c hc=>by simp[hc]) (fun c hc=>by simp[hc])
 ·exact h.rows i (by omega)
theorem xM.facts {w:World} {base b R C K k j:Nat} {rb:Nat->Nat} {e:Nat->Nat->Rat} (h:xM w base b R C K k j rb e) (hk:k<R):w.cell? ⟨b,k,none⟩=some (.slice (some ⟨rb k,0,none⟩) C C)/\b<w.heap.size/\rb k<w.heap.size/\rb k≠b/\base<=rb k/\base<=b:=by
 refine⟨?_,h.outer.lt,h.row.lt,(h.hrb k (by omega)).2,(h.hrb k (by omega)).1,h.hb⟩
 have:=h.outer.cell hk
 rwa [if_pos (by omega)] at this
theorem xM.low {w:World} {base b R C K k j:Nat} {rb:Nat->Nat} {e:Nat->Nat->Rat} (h:xM w base b R C K k j rb e) {w0:World} (hb:Below base w0 w) (x0 x1 x2 x3:Value) (o:Nat):Below base w0 (st4 w (rb k) o x0 x1 x2 x3):=by
 have:=(h.hrb k (by omega)).1
 exact(((hb.setCell (p:=⟨rb k,o,none⟩) this x0).setCell (p:=⟨rb k,o+1,none⟩) this x1).setCell (p:=⟨rb k,o+2,none⟩) this x2).setCell (p:=⟨rb k,o+3,none⟩) this x3
def a3u (base R C K:Nat) (e:Nat->Nat->Rat) (w:World) (x:Ending) (w':World):Prop:=∃ b rb,x=.returned (.slice (some ⟨b,0,none⟩) R R)/\jW w' base b R C K R rb e/\Below base w w'
set_option maxRecDepth 100000
set_option maxHeartbeats 4000000
def allB (n:Nat) (ok:Nat->Bool):Bool:=(List.range n).all ok
theorem gJ {n:Nat} {ok:Nat->Bool}:allB n ok=true↔∀ i,i<n->ok i=true:=by
 unfold allB;rw[List.all_eq_true];simp
theorem vV {n:Nat} {ok:Nat->Bool} {k:Nat} (hk:k<n) (h:ok k=false):allB n ok=false:=by
 cases h2:allB n ok
 ·rfl
 ·have:=gJ.1 h2 k hk;rw[h] at this;cases this
def b5O (all:Bool) (w:World) (e:Ending) (w':World):Prop:=∃ x:Int,e=.returned (.int .i64 x)/\decide (0<=x)=!all/\Below w.heap.size w w'
def GB (b:Bool) (w:World) (e:Ending) (w':World):Prop:=e=.returned (.bool b)/\Below w.heap.size w w'
def GI (x:Int) (w:World) (e:Ending) (w':World):Prop:=e=.returned (.int .i64 x)/\Below w.heap.size w w'
theorem MZ (v:Value) (ok:Bool) (q:Rat) (w:World) (h:fE w v ok q) (hn:Qn v 1000000000) :
  Calls Tryz.prog 139 #[v] w (GB (!ok) w):=by
 obtain⟨b,p,n,c,d,o,m,e,rfl⟩:=h.form
 have aY:Below w.heap.size w w:=Below.refl _ _
 go_enter Tryz.func139,Tryz.ntmps139
 go_wp2_with fail
 obtain⟨hA1,c0⟩:=bx1 w rfl [.bool b,.slice p n c,.bool d,.slice o m e] 30
 have b0:=(h.below hA1)
 (with_reducible refine(wW _ _ _ _ b0 hn).mono ?_)
 rintro e w1 ⟨rfl,hb1⟩
 have a0:=(Below.tr (Below.tr aY hA1) hb1)
 go_wp2_with fail
 go_ret
 exact⟨rfl,a0⟩
theorem Qn.mono {v:Value} {K K':Nat} (h:Qn v K) (hK:K<=K'):Qn v K':=by
 obtain⟨b,p,n,c,b',p',n',c',e,l1,l2⟩:=h
 exact⟨b,p,n,c,b',p',n',c',e,by omega,by omega⟩
theorem a7T (s:Value) (n K:Nat) (ok:Nat->Bool) (e:Nat->Rat) (w:World) (h:nX w s n K ok e) (hK:K<=1000000000) :
  Calls Tryz.prog 165 #[s,.func (.func 139) #[] #[]] w (b5O (allB n ok) w):=by
 obtain⟨p,c,rfl,h1,h2⟩:=h.form
 have hB0:Below w.heap.size w w:=Below.refl _ _
 go_enter Tryz.func165,Tryz.ntmps165
 go_wp2_with fail
 go_loopw [8,5,10,11,12,13,14,15,16,18] (fun i _ _ _ _ _ _ _ _ _ wr=>∃ k:Nat,k<=n/\i=.int .i64 (k:Nat)/\Hid (∀ j,j<k->ok j=true)/\Below w.heap.size w wr) (fun i _ _ _ _ _ _ _ _ _ _=>n-(intOf i).toNat)
 case atStart=>exact⟨0,by omega,rfl,Lib.hid (fun j hj=>by omega),hB0⟩
 case round =>
  obtain⟨k,hk,rfl,HJ,hB⟩:=hrel
  by_cases hlt:k<n
  ·obtain⟨b,o,g,q,m,d,g',q',m',d',rfl,hlb,c0,c1,c2,c3,hq,hqn⟩:=(h.below hB).at_ hlt
   have hqn:=hqn.mono hK
   have hkd:decide (k<n)=true:=by simpa using hlt
   cases hok:ok k
   ·have HA:=Lib.hid (vV hlt hok)
    rw[hok] at hq
    have HOK:=Lib.hid hok
    clear hok
    go_wp2_with fail
    refine(MZ _ _ _ _ hq hqn).mono ?_
    rintro e w1 ⟨rfl,hb1⟩
    go_wp2_with fail
    go_ret
    exact⟨_,rfl,by rw[HA.out];simp,Below.tr hB hb1⟩
   ·rw[hok] at hq
    have HOK:=Lib.hid hok
    clear hok
    go_wp2_with fail
    refine(MZ _ _ _ _ hq hqn).mono ?_
    rintro e w1 ⟨rfl,hb1⟩
    go_wp2_with fail
    go_roundw
    case rel=>exact⟨k+1,by omega,by go_num,Lib.hid (fun j hj=>if e:j<k then HJ.out j e else by rw[show j=k by omega];exact HOK.out),Below.tr hB hb1⟩
    case measure=>simp[intOf];omega
  ·obtain rfl:k=n:=by omega
   have HA:Hid (allB k ok=true):=Lib.hid (gJ.2 HJ.out)
   have hkd:decide (k<k)=false:=by simp
   go_wp2_with fail
   go_ret
   exact⟨_,rfl,by rw[HA.out];simp,hB⟩
theorem a5m (s:Value) (n K:Nat) (ok:Nat->Bool) (e:Nat->Rat) (w:World) (h:nX w s n K ok e) (hK:K<=1000000000) :
  Calls Tryz.prog 138 #[s,.func (.func 139) #[] #[]] w (GB (!allB n ok) w):=by
 go_enter Tryz.func138,Tryz.ntmps138
 go_wp2_with fail
 refine(a7T s n K ok e _ h hK).mono ?_
 rintro e w1 ⟨x,rfl,hx,hb1⟩
 have HX:=Lib.hid hx
 clear hx
 go_wp2_with fail
 go_ret
 exact⟨fA HX.out,hb1⟩
theorem a2x (s:Value) (n K:Nat) (ok:Nat->Bool) (e:Nat->Rat) (w:World) (h:nX w s n K ok e) (hK:K<=1000000000) :
  Calls Tryz.prog 101 #[s] w (GB (allB n ok) w):=by
 go_enter Tryz.func101,Tryz.ntmps101
 go_wp2_with fail
 refine(a5m s n K ok e _ h hK).mono ?_
 rintro e w1 ⟨rfl,hb1⟩
 go_wp2_with fail
 go_ret
 exact⟨by simp,hb1⟩
def rowOk (L:Nat->Nat) (ok:Nat->Nat->Bool) (i:Nat):Bool:=decide (L i=L 0)&&allB (L i) (ok i)
def xI (R:Nat) (L:Nat->Nat) (ok:Nat->Nat->Bool):Int:=if 1<=R/\R<=64/\1<=L 0/\L 0<=64/\allB R (rowOk L ok)=true then 0 else 1
theorem ZM (s:Value) (n n0 K R c d B b o:Nat) (q:Option Addr) (ok:Nat->Bool) (e:Nat->Rat) (w:World) (h:nX w s n K ok e) (hK:K<=1000000000) (hR:0<R) (hc:R<=c)
  (hB:w.cell? ⟨B,0,none⟩=some (.slice (some ⟨b,o,none⟩) R c)) (h0:w.cell? ⟨b,o,none⟩=some (.slice q n0 d)) :
  Calls Tryz.prog 100 #[s,.pointer (some ⟨B,0,none⟩)] w (GB (!(decide (n=n0)&&allB n ok)) w):=by
 obtain⟨p,cc,rfl,h1,h2⟩:=h.form
 have hB0:Below w.heap.size w w:=Below.refl _ _
 by_cases hn:n=n0
 ·subst hn
  go_enter Tryz.func100,Tryz.ntmps100
  go_wp2_with fail
  refine(a2x _ n K ok e _ h hK).mono ?_
  rintro e w1 ⟨rfl,hb1⟩
  go_wp2_with fail
  refine bodyPost_ret (v:=.bool (!allB n ok)) (by simp[results,Tryz.results100,go_sem]) rfl ?_
  exact⟨by simp,hb1⟩
 ·have hd:(n != n0)=true:=by simpa using hn
  have hd2:(n==n0)=false:=by simpa using hn
  have hd3:¬ ((n:Int)=(n0:Int)):=by omega
  have HN:=Lib.hid hn
  clear hn
  go_enter Tryz.func100,Tryz.ntmps100
  go_wp2_with fail
  refine bodyPost_ret (v:=.bool true) (by simp[results,Tryz.results100,go_sem]) rfl ?_
  exact⟨by simp[HN.out],hB0⟩
theorem a7S (v:Value) (R K B c b o:Nat) (L:Nat->Nat) (ok:Nat->Nat->Bool) (e:Nat->Nat->Rat) (w:World) (h:rQ w (.slice (some ⟨b,o,none⟩) R c) R L K ok e) (hK:K<=1000000000) (hR:0<R) (hBl:B<w.heap.size)
  (hB:w.cell? ⟨B,0,none⟩=some (.slice (some ⟨b,o,none⟩) R c)) :
  Calls Tryz.prog 137 #[.slice (some ⟨b,o,none⟩) R c,.func (.func 100) #[] #[.pointer (some ⟨B,0,none⟩)]] w (b5O (allB R (rowOk L ok)) w):=by
 obtain⟨_,_,he,h1,h2⟩:=h.form
 cases he
 have hB0:Below w.heap.size w w:=Below.refl _ _
 have HB:=Lib.hid hB
 clear hB
 go_enter Tryz.func137,Tryz.ntmps137
 go_wp2_with fail
 go_loopw [8,5,10,11,12,13,14,15,16,18] (fun i _ _ _ _ _ _ _ _ _ wr=>∃ k:Nat,k<=R/\i=.int .i64 (k:Nat)/\Hid (∀ j,j<k->rowOk L ok j=true)/\Below w.heap.size w wr) (fun i _ _ _ _ _ _ _ _ _ _=>R-(intOf i).toNat)
 case atStart=>exact⟨0,by omega,rfl,Lib.hid (fun j hj=>by omega),hB0⟩
 case round =>
  obtain⟨k,hk,rfl,HJ,hBw⟩:=hrel
  by_cases hlt:k<R
  ·obtain⟨b',o',q,d,he,hlb,c0,hr⟩:=(h.below hBw).at_ hlt
   cases he
   obtain⟨b',o',q0,d0,he,hlb0,c00,hr0⟩:=(h.below hBw).at_ hR
   cases he
   rw[Nat.add_zero] at c00
   have HCB:Hid (wr.cell? ⟨B,0,none⟩=some (.slice (some ⟨b,o,none⟩) R c)):=Lib.hid (by rw[(eX hBw).1 _ _ hBl];exact HB.out)
   have H00:=Lib.hid c00
   clear c00
   have hkd:decide (k<R)=true:=by simpa using hlt
   cases hok:rowOk L ok k
   ·have HA:=Lib.hid (vV hlt hok)
    have HOK:=Lib.hid hok
    clear hok
    go_wp2_with fail
    refine(ZM _ _ _ _ _ _ _ _ _ _ _ _ _ _ hr hK hR h1 HCB.out H00.out).mono ?_
    have a1G:=HOK.out
    unfold rowOk at a1G
    rw[a1G]
    rintro e w1 ⟨rfl,hb1⟩
    clear a1G
    go_wp2_with fail
    go_ret
    exact⟨_,rfl,by rw[HA.out];simp,Below.tr hBw hb1⟩
   ·have HOK:=Lib.hid hok
    clear hok
    go_wp2_with fail
    refine(ZM _ _ _ _ _ _ _ _ _ _ _ _ _ _ hr hK hR h1 HCB.out H00.out).mono ?_
    have a1G:=HOK.out
    unfold rowOk at a1G
    rw[a1G]
    rintro e w1 ⟨rfl,hb1⟩
    clear a1G
    go_wp2_with fail
    go_roundw
    case rel=>exact⟨k+1,by omega,by go_num,Lib.hid (fun j hj=>if e:j<k then HJ.out j e else by rw[show j=k by omega];exact HOK.out),Below.tr hBw hb1⟩
    case measure=>simp[intOf];omega
  ·obtain rfl:k=R:=by omega
   have HA:Hid (allB k (rowOk L ok)=true):=Lib.hid (gJ.2 HJ.out)
   have hkd:decide (k<k)=false:=by simp
   go_wp2_with fail
   go_ret
   exact⟨_,rfl,by rw[HA.out];simp,hBw⟩
theorem a5l (R K B c b o:Nat) (L:Nat->Nat) (ok:Nat->Nat->Bool) (e:Nat->Nat->Rat) (w:World) (h:rQ w (.slice (some ⟨b,o,none⟩) R c) R L K ok e) (hK:K<=1000000000) (hR:0<R) (hBl:B<w.heap.size)
  (hB:w.cell? ⟨B,0,none⟩=some (.slice (some ⟨b,o,none⟩) R c)) :
  Calls Tryz.prog 99 #[.slice (some ⟨b,o,none⟩) R c,.func (.func 100) #[] #[.pointer (some ⟨B,0,none⟩)]] w (GB (!allB R (rowOk L ok)) w):=by
 have HB:=Lib.hid hB
 clear hB
 go_enter Tryz.func99,Tryz.ntmps99
 go_wp2_with fail
 refine(a7S (.slice none 0 0) R K B c b o L ok e _ h hK hR hBl HB.out).mono ?_
 rintro e w1 ⟨x,rfl,hx,hb1⟩
 have HX:=Lib.hid hx
 clear hx
 go_wp2_with fail
 go_ret
 exact⟨fA HX.out,hb1⟩
theorem PN (v:Value) (R K:Nat) (L:Nat->Nat) (ok:Nat->Nat->Bool) (e:Nat->Nat->Rat) (w:World) (h:rQ w v R L K ok e) (hK:K<=1000000000) :
  Calls Tryz.prog 48 #[v] w (GI (xI R L ok) w):=by
 obtain⟨p,c,rfl,h1,h2⟩:=h.form
 have hB1:Below w.heap.size w (w.alloc (.cells #[.slice p R c] 23)):=(Below.refl _ _).alloc (Nat.le_refl _) _
 by_cases hr:1<=R/\R<=64
 ·obtain⟨hr1,hr2⟩:=hr
  obtain⟨b,o,q,d,rfl,hlb,c0,hr0⟩:=h.at_ (k:=0) (by omega)
  rw[Nat.add_zero] at c0
  have c0':(w.alloc (.cells #[.slice (some ⟨b,o,none⟩) R c] 23)).cell? ⟨b,o,none⟩=some (.slice q (L 0) d):=by rw[(eX hB1).1 _ _ hlb];exact c0
  have hd1:decide ((R:Int)<1)=false:=by simp;omega
  have hd2:decide (64<(R:Int))=false:=by simp;omega
  generalize hL:L 0=l at *
  by_cases hl:1<=l/\l<=64
  ·obtain⟨hl1,hl2⟩:=hl
   have hd3:decide ((l:Int)<1)=false:=by simp;omega
   have hd4:decide (64<(l:Int))=false:=by simp;omega
   have HC:∀ A,Hid (allB R (rowOk L ok)=A->xI R L ok=if A then 0 else 1):=fun A=>Lib.hid (fun hA=>by
    unfold xI
    rw[hL,hA]
    cases A
    ·rw[if_neg (by simp)];rfl
    ·rw[if_pos ⟨hr1,hr2,hl1,hl2,rfl⟩];rfl)
   have hM:rQ (w.alloc (.cells #[.slice (some ⟨b,o,none⟩) R c] 23)) (.slice (some ⟨b,o,none⟩) R c) R L K ok e:=h.below ((Below.refl _ _).alloc (Nat.le_refl _) _)
   have hcB:(w.alloc (.cells #[.slice (some ⟨b,o,none⟩) R c] 23)).cell? ⟨w.heap.size,0,none⟩=some (.slice (some ⟨b,o,none⟩) R c):=by rw[World.cell?_alloc_at _ _ _ _ rfl];rfl
   have HcB:=Lib.hid hcB
   have HL:=Lib.hid hL
   clear hcB hL c0
   cases hA:allB R (rowOk L ok)
   all_goals
    have HA:=(HC _).out hA
    have HA:=Lib.hid HA
    clear HC
    have HQ:=Lib.hid hA
    clear hA
    go_enter Tryz.func48,Tryz.ntmps48
    go_wp2_with fail
    refine(a5l R K w.heap.size c b o L ok e _ hM hK (by omega) (by simp) HcB.out).mono ?_
    rw[HQ.out]
    rintro e w1 ⟨rfl,hb1⟩
    go_wp2_with fail
    go_ret
    exact⟨fH (by rw[HA.out];rfl),Below.tr hB1 hb1⟩
  ·have HM:Hid (xI R L ok=1):=Lib.hid (by unfold xI;rw[hL,if_neg (by omega)])
   have HL:=Lib.hid hL
   clear hL c0
   rcases(by omega:l=0\/64<l) with hz|hz
   ·subst hz
    go_enter Tryz.func48,Tryz.ntmps48
    go_wp2_with fail
    go_ret
    exact⟨fH HM.out.symm,hB1⟩
   ·have hd3:decide ((l:Int)<1)=false:=by simp;omega
    have hd4:decide (64<(l:Int))=true:=by simp;omega
    go_enter Tryz.func48,Tryz.ntmps48
    go_wp2_with fail
    go_ret
    exact⟨fH HM.out.symm,hB1⟩
 ·have HM:Hid (xI R L ok=1):=Lib.hid (by unfold xI;rw[if_neg (by omega)])
  rcases(by omega:R=0\/64<R) with hz|hz
  ·subst hz
   go_enter Tryz.func48,Tryz.ntmps48
   go_wp2_with fail
   go_ret
   exact⟨fH HM.out.symm,hB1⟩
  ·have hd3:decide ((R:Int)<1)=false:=by simp;omega
   have hd4:decide (64<(R:Int))=true:=by simp;omega
   go_enter Tryz.func48,Tryz.ntmps48
   go_wp2_with fail
   go_ret
   exact⟨fH HM.out.symm,hB1⟩
theorem a6s:Tryz.prog.underlying 25=some (.slice 30):=by kernel_rfl
theorem a9m:Tryz.prog.underlying 23=some (.slice 25):=by kernel_rfl
theorem a7W:(Tryz.prog.info? 25).map (fun i=>(i.zero,i.size,i.bytes))=some (some (.slice none 0 0),1,24):=by kernel_rfl
theorem b0b:(Tryz.prog.info? 30).map (fun i=>(i.zero,i.size,i.bytes))=some (some (.agg #[.bool false,.slice none 0 0,.bool false,.slice none 0 0]),4,64):=by kernel_rfl
theorem UE (n:Nat) (hn:n<=1000000) (w:World) :
  Sem.run Tryz.prog (Instr.makeSlice 25 (.int .i64 (n:Int)) (.int .i64 (n:Int))) w=.ok (.slice (some ⟨w.heap.size,0,none⟩) n n) (w.alloc (.cells (madeCells Z4 (n*4)) 30)):=by
 obtain⟨i,hi,hzz⟩:=Option.map_eq_some_iff.1 b0b
 simp only[Prod.mk.injEq] at hzz
 obtain⟨hz,hs,hb⟩:=hzz
 have hr:=run_make (P:=Tryz.prog) w 25 30 i _ a6s hi hz .i64 .i64 n n (by omega) (Int.le_refl _) (by rw[hb];omega) (by omega)
 simp only[Int.toNat_natCast,hs] at hr
 exact hr
theorem UF (n:Nat) (hn:n<=1000000) (w:World) :
  Sem.run Tryz.prog (Instr.makeSlice 23 (.int .i64 (n:Int)) (.int .i64 (n:Int))) w=.ok (.slice (some ⟨w.heap.size,0,none⟩) n n) (w.alloc (.cells (madeCells #[.slice none 0 0] n) 25)) :=
 run_make_row' 23 25 (.slice none 0 0) 24 a9m a7W rfl .i64 .i64 n (by omega) (by omega) w
theorem UD (R C K F:Nat) (c0:Value) (g:Nat->Nat->Rat) (w:World) (hR:R<=1000000) (hC:C<=1000000) (hg:∀ i j,i<R->j<C->rsz (g i j)<=K)
  (hent:∀ (a b c0:Value) (w:World),Sem.run Tryz.prog (callFunc F #[a,b,c0]) w=.ok (.enter F #[a,b,c0]) w)
  (hF:∀ (i j:Nat) (w':World),i<R->j<C->Below w.heap.size w w'->Calls Tryz.prog F #[.int .i64 (i:Nat),.int .i64 (j:Nat),c0] w' (GQ (g i j) w')) :
  Calls Tryz.prog 142 #[.int .i64 (R:Nat),.int .i64 (C:Nat),.func (.func F) #[] #[c0]] w (a3u w.heap.size R C K g w):=by
 have hmk:=UF R hR
 have b7W:=UE C hC
 have HG:=Lib.hid hg
 clear hg
 have HF:=Lib.hid hF
 clear hF
 go_enter Tryz.func142,Tryz.ntmps142
 go_wp2_with fail
 go_loopw [14,8,9,15,16,17,18,19,20,21,22,23,24,25,26,27,28,29,30,31,32,33,34,35,36,37,38,39,40,41] (fun i _ _ _ _ _ _ _ _ _ _ _ _ _ _ _ _ _ _ _ _ _ _ _ _ _ _ _ _ _ wr=>∃ (k:Nat) (rb:Nat->Nat),k<=R/\i=.int .i64 (k:Nat)/\jW wr w.heap.size w.heap.size R C K k rb g/\Below w.heap.size w wr) (fun i _ _ _ _ _ _ _ _ _ _ _ _ _ _ _ _ _ _ _ _ _ _ _ _ _ _ _ _ _ _=>R-(intOf i).toNat)
 case atStart=>exact⟨0,fun _=>0,by omega,rfl,jW.start w R C K _ g _ (Nat.le_refl _),(Below.refl _ _).alloc (Nat.le_refl _) _⟩
 case round =>
  obtain⟨k,rb,hk,rfl,hM,hB⟩:=hrel
  have hzB:=hB.size
  by_cases hlt:k<R
  ·have hkd:decide (k<R)=true:=by simpa using hlt
   have hP:=xM.start hM hlt hzB
   have hc0:=(hM.outer.alloc (.cells (madeCells Z4 (C*4)) 30)).cell hlt
   rw[if_neg (by omega)] at hc0
   have hf0:=(hM.outer.alloc (.cells (madeCells Z4 (C*4)) 30)).frozen k
   have hc1:=(hP.facts hlt).1
   simp only[if_true] at hc1
   have hB1:Below w.heap.size w ((wr.alloc (.cells (madeCells Z4 (C*4)) 30)).setCell ⟨w.heap.size,k,none⟩ (.slice (some ⟨wr.heap.size,0,none⟩) C C)):=(hB.alloc hzB _).setCell (p:=⟨w.heap.size,k,none⟩) (Nat.le_refl _) _
   go_wp2_with fail
   obtain⟨wo,rfl⟩:∃ wo:World,wo=wr:=⟨_,rfl⟩
   go_loopw [27,9,28,29,30,31,32,33,34,35,36,37,38,39,40] (fun i _ _ _ _ _ _ _ _ _ _ _ _ _ _ wq=>∃ (j:Nat),j<=C/\i=.int .i64 (j:Nat)/\xM wq w.heap.size w.heap.size R C K k j (fun i=>if i=k then wo.heap.size else rb i) g/\Below w.heap.size w wq) (fun i _ _ _ _ _ _ _ _ _ _ _ _ _ _ _=>C-(intOf i).toNat)
   case atStart=>exact⟨0,by omega,rfl,hP,hB1⟩
   case round =>
    clear hc0 hf0 hc1
    obtain⟨j,hj,rfl,hQ,hBq⟩:=hrel
    by_cases hlj:j<C
    ·have hkj:decide (j<C)=true:=by simpa using hlj
     obtain⟨fc,fb,fr,fn,fr2,fb2⟩:=hQ.facts hlt
     simp only[if_true] at fc fr fn fr2
     have hQd:=hQ.below (Below.refl _ _).drew
     have HFc:=HF.out k j wr.drew hlt hlj hBq.drew
     have hgk:=HG.out k j hlt hlj
     have S0:(fun w':World=>w'.cell? ⟨w.heap.size,k,none⟩=some (.slice (some ⟨wo.heap.size,0,none⟩) C C)/\wo.heap.size<w'.heap.size) wr.drew:=⟨fc,fr⟩
     have KK:∀ A B:World,(fun w':World=>w'.cell? ⟨w.heap.size,k,none⟩=some (.slice (some ⟨wo.heap.size,0,none⟩) C C)/\wo.heap.size<w'.heap.size) A->Below A.heap.size A B->(fun w':World=>w'.cell? ⟨w.heap.size,k,none⟩=some (.slice (some ⟨wo.heap.size,0,none⟩) C C)/\wo.heap.size<w'.heap.size) B:=by
      rintro A B ⟨h0,h1⟩ hb
      have hs:=hb.size
      exact⟨by rw[(eX hb).1 _ _ (by omega)];exact h0,by omega⟩
     have KS:∀ (A:World) (o:Nat) (x0 x1 x2 x3:Value),(fun w':World=>w'.cell? ⟨w.heap.size,k,none⟩=some (.slice (some ⟨wo.heap.size,0,none⟩) C C)/\wo.heap.size<w'.heap.size) A->(fun w':World=>w'.cell? ⟨w.heap.size,k,none⟩=some (.slice (some ⟨wo.heap.size,0,none⟩) C C)/\wo.heap.size<w'.heap.size) ((((A.setCell ⟨wo.heap.size,o,none⟩ x0).setCell ⟨wo.heap.size,o+1,none⟩ x1).setCell ⟨wo.heap.size,o+2,none⟩ x2).setCell ⟨wo.heap.size,o+3,none⟩ x3):=by
      rintro A o x0 x1 x2 x3 ⟨h0,h1⟩
      refine⟨?_,by simpa using h1⟩
      rw[World.cell?_setCell_far _ _ _ _ (by simpa using fn),World.cell?_setCell_far _ _ _ _ (by simpa using fn),World.cell?_setCell_far _ _ _ _ (by simpa using fn),World.cell?_setCell_far _ _ _ _ (by simpa using fn)]
      exact h0
     go_wp2_with fail
     have tk1:True:=trivial
     go_region_held3 (fun w':World=>w'.cell? ⟨w.heap.size,k,none⟩=some (.slice (some ⟨wo.heap.size,0,none⟩) C C)/\wo.heap.size<w'.heap.size) (first|with_reducible exact S0|with_reducible exact KK _ _ (by assumption) (by assumption)|with_reducible exact KS _ _ _ _ _ _ (by assumption)|(simp;done))
      (first
       | (((have:=tk1;clear tk1;(with_reducible refine HFc.mono ?_);rintro e w1 ⟨v1,rfl,hi1,hb1⟩;obtain⟨g1,p1,n1,c1,h1,o1,m1,e1,rfl⟩:=hi1.form;have hQ1:=hQd.below hb1;have hr1:=hQ1.row;simp only[if_true] at hr1;obtain⟨r0,r1,r2,r3,r4,r5,r6,r7,d0,d1,d2,d3,_,_⟩:=hr1.cells hlj;have f0:=hr1.frozen (j*4);have f1:=hr1.frozen (j*4+1);have f2:=hr1.frozen (j*4+2);have f3:=hr1.frozen (j*4+3))))
      )
     have hst:=hQ1.step hlj (QC.of hi1 (HG.out k j hlt hlj))
     have hlo:=hQ1.low (Below.tr hBq.drew hb1) (.bool g1) (.slice p1 n1 c1) (.bool h1) (.slice o1 m1 e1) (j*4)
     simp only[if_true] at hst hlo
     go_wp2_with fail
     go_roundw
     case rel=>exact⟨j+1,by omega,by go_num,hst,hlo⟩
     case measure=>simp[intOf];omega
    ·have he:j=C:=by omega
     have hkj:decide (C<C)=false:=by simp
     subst he
     go_wp2_with fail
     go_roundw
     case rel=>exact⟨k+1,_,by omega,by go_num,hQ.done,hBq⟩
     case measure=>simp[intOf];omega
  ·have he:k=R:=by omega
   subst he
   have hkj:decide (k<k)=false:=by simp
   go_wp2_with fail
   go_ret
   exact⟨_,rb,rfl,hM,hB⟩
theorem a5E (R C K F:Nat) (c0 c1:Value) (g:Nat->Nat->Rat) (w:World) (hR:R<=1000000) (hC:C<=1000000) (hg:∀ i j,i<R->j<C->rsz (g i j)<=K)
  (hent:∀ (a b c0 c1:Value) (w:World),Sem.run Tryz.prog (callFunc F #[a,b,c0,c1]) w=.ok (.enter F #[a,b,c0,c1]) w)
  (hF:∀ (i j:Nat) (w':World),i<R->j<C->Below w.heap.size w w'->Calls Tryz.prog F #[.int .i64 (i:Nat),.int .i64 (j:Nat),c0,c1] w' (GQ (g i j) w')) :
  Calls Tryz.prog 142 #[.int .i64 (R:Nat),.int .i64 (C:Nat),.func (.func F) #[] #[c0,c1]] w (a3u w.heap.size R C K g w):=by
 have hmk:=UF R hR
 have b7W:=UE C hC
 have HG:=Lib.hid hg
 clear hg
 have HF:=Lib.hid hF
 clear hF
 go_enter Tryz.func142,Tryz.ntmps142
 go_wp2_with fail
 go_loopw [14,8,9,15,16,17,18,19,20,21,22,23,24,25,26,27,28,29,30,31,32,33,34,35,36,37,38,39,40,41] (fun i _ _ _ _ _ _ _ _ _ _ _ _ _ _ _ _ _ _ _ _ _ _ _ _ _ _ _ _ _ wr=>∃ (k:Nat) (rb:Nat->Nat),k<=R/\i=.int .i64 (k:Nat)/\jW wr w.heap.size w.heap.size R C K k rb g/\Below w.heap.size w wr) (fun i _ _ _ _ _ _ _ _ _ _ _ _ _ _ _ _ _ _ _ _ _ _ _ _ _ _ _ _ _ _=>R-(intOf i).toNat)
 case atStart=>exact⟨0,fun _=>0,by omega,rfl,jW.start w R C K _ g _ (Nat.le_refl _),(Below.refl _ _).alloc (Nat.le_refl _) _⟩
 case round =>
  obtain⟨k,rb,hk,rfl,hM,hB⟩:=hrel
  have hzB:=hB.size
  by_cases hlt:k<R
  ·have hkd:decide (k<R)=true:=by simpa using hlt
   have hP:=xM.start hM hlt hzB
   have hc0:=(hM.outer.alloc (.cells (madeCells Z4 (C*4)) 30)).cell hlt
   rw[if_neg (by omega)] at hc0
   have hf0:=(hM.outer.alloc (.cells (madeCells Z4 (C*4)) 30)).frozen k
   have hc1:=(hP.facts hlt).1
   simp only[if_true] at hc1
   have hB1:Below w.heap.size w ((wr.alloc (.cells (madeCells Z4 (C*4)) 30)).setCell ⟨w.heap.size,k,none⟩ (.slice (some ⟨wr.heap.size,0,none⟩) C C)):=(hB.alloc hzB _).setCell (p:=⟨w.heap.size,k,none⟩) (Nat.le_refl _) _
   go_wp2_with fail
   obtain⟨wo,rfl⟩:∃ wo:World,wo=wr:=⟨_,rfl⟩
   go_loopw [27,9,28,29,30,31,32,33,34,35,36,37,38,39,40] (fun i _ _ _ _ _ _ _ _ _ _ _ _ _ _ wq=>∃ (j:Nat),j<=C/\i=.int .i64 (j:Nat)/\xM wq w.heap.size w.heap.size R C K k j (fun i=>if i=k then wo.heap.size else rb i) g/\Below w.heap.size w wq) (fun i _ _ _ _ _ _ _ _ _ _ _ _ _ _ _=>C-(intOf i).toNat)
   case atStart=>exact⟨0,by omega,rfl,hP,hB1⟩
   case round =>
    clear hc0 hf0 hc1
    obtain⟨j,hj,rfl,hQ,hBq⟩:=hrel
    by_cases hlj:j<C
    ·have hkj:decide (j<C)=true:=by simpa using hlj
     obtain⟨fc,fb,fr,fn,fr2,fb2⟩:=hQ.facts hlt
     simp only[if_true] at fc fr fn fr2
     have hQd:=hQ.below (Below.refl _ _).drew
     have HFc:=HF.out k j wr.drew hlt hlj hBq.drew
     have hgk:=HG.out k j hlt hlj
     have S0:(fun w':World=>w'.cell? ⟨w.heap.size,k,none⟩=some (.slice (some ⟨wo.heap.size,0,none⟩) C C)/\wo.heap.size<w'.heap.size) wr.drew:=⟨fc,fr⟩
     have KK:∀ A B:World,(fun w':World=>w'.cell? ⟨w.heap.size,k,none⟩=some (.slice (some ⟨wo.heap.size,0,none⟩) C C)/\wo.heap.size<w'.heap.size) A->Below A.heap.size A B->(fun w':World=>w'.cell? ⟨w.heap.size,k,none⟩=some (.slice (some ⟨wo.heap.size,0,none⟩) C C)/\wo.heap.size<w'.heap.size) B:=by
      rintro A B ⟨h0,h1⟩ hb
      have hs:=hb.size
      exact⟨by rw[(eX hb).1 _ _ (by omega)];exact h0,by omega⟩
     have KS:∀ (A:World) (o:Nat) (x0 x1 x2 x3:Value),(fun w':World=>w'.cell? ⟨w.heap.size,k,none⟩=some (.slice (some ⟨wo.heap.size,0,none⟩) C C)/\wo.heap.size<w'.heap.size) A->(fun w':World=>w'.cell? ⟨w.heap.size,k,none⟩=some (.slice (some ⟨wo.heap.size,0,none⟩) C C)/\wo.heap.size<w'.heap.size) ((((A.setCell ⟨wo.heap.size,o,none⟩ x0).setCell ⟨wo.heap.size,o+1,none⟩ x1).setCell ⟨wo.heap.size,o+2,none⟩ x2).setCell ⟨wo.heap.size,o+3,none⟩ x3):=by
      rintro A o x0 x1 x2 x3 ⟨h0,h1⟩
      refine⟨?_,by simpa using h1⟩
      rw[World.cell?_setCell_far _ _ _ _ (by simpa using fn),World.cell?_setCell_far _ _ _ _ (by simpa using fn),World.cell?_setCell_far _ _ _ _ (by simpa using fn),World.cell?_setCell_far _ _ _ _ (by simpa using fn)]
      exact h0
     go_wp2_with fail
     have tk1:True:=trivial
     go_region_held3 (fun w':World=>w'.cell? ⟨w.heap.size,k,none⟩=some (.slice (some ⟨wo.heap.size,0,none⟩) C C)/\wo.heap.size<w'.heap.size) (first|with_reducible exact S0|with_reducible exact KK _ _ (by assumption) (by assumption)|with_reducible exact KS _ _ _ _ _ _ (by assumption)|(simp;done))
      (first
       | (((have:=tk1;clear tk1;(with_reducible refine HFc.mono ?_);rintro e w1 ⟨v1,rfl,hi1,hb1⟩;obtain⟨g1,p1,n1,c1,h1,o1,m1,e1,rfl⟩:=hi1.form;have hQ1:=hQd.below hb1;have hr1:=hQ1.row;simp only[if_true] at hr1;obtain⟨r0,r1,r2,r3,r4,r5,r6,r7,d0,d1,d2,d3,_,_⟩:=hr1.cells hlj;have f0:=hr1.frozen (j*4);have f1:=hr1.frozen (j*4+1);have f2:=hr1.frozen (j*4+2);have f3:=hr1.frozen (j*4+3))))
      )
     have hst:=hQ1.step hlj (QC.of hi1 (HG.out k j hlt hlj))
     have hlo:=hQ1.low (Below.tr hBq.drew hb1) (.bool g1) (.slice p1 n1 c1) (.bool h1) (.slice o1 m1 e1) (j*4)
     simp only[if_true] at hst hlo
     go_wp2_with fail
     go_roundw
     case rel=>exact⟨j+1,by omega,by go_num,hst,hlo⟩
     case measure=>simp[intOf];omega
    ·have he:j=C:=by omega
     have hkj:decide (C<C)=false:=by simp
     subst he
     go_wp2_with fail
     go_roundw
     case rel=>exact⟨k+1,_,by omega,by go_num,hQ.done,hBq⟩
     case measure=>simp[intOf];omega
  ·have he:k=R:=by omega
   subst he
   have hkj:decide (k<k)=false:=by simp
   go_wp2_with fail
   go_ret
   exact⟨_,rb,rfl,hM,hB⟩
theorem oP {n d:Int} {k:Nat} (hd:d≠0) (h:isz d<=k):isz ((Int.gcd n d:Nat):Int)<=k:=by
 refine Nat.le_trans (EP ?_) h
 rw[Int.natAbs_natCast]
 have:=Nat.gcd_le_right n.natAbs (show 0<d.natAbs by omega)
 exact this
theorem gcd_ne {n d:Int} (hd:d≠0):((Int.gcd n d:Nat):Int)≠0:=by
 have:0<Int.gcd n d:=Int.gcd_pos_of_ne_zero_right _ hd
 omega
theorem EG {n d:Int} (hd:0<d):n.fdiv ((Int.gcd n d:Nat):Int)=(Rat.divInt n d).num/\d.fdiv ((Int.gcd n d:Nat):Int)=(Rat.divInt n d).den:=by
 rw[nJ hd,nI hd,Int.fdiv_eq_ediv_of_nonneg _ (by omega),Int.fdiv_eq_ediv_of_nonneg _ (by omega)]
 exact⟨rfl,rfl⟩
theorem WW {n d:Int} (hd:d<0):(-n).fdiv ((Int.gcd (-n) (-d):Nat):Int)=(Rat.divInt n d).num/\(-d).fdiv ((Int.gcd (-n) (-d):Nat):Int)=(Rat.divInt n d).den:=by
 rw[<-rV n d]
 exact EG (by omega)
theorem RZ (v:Value) (x:Int) (w:World) (h:fJ w v true x) :
  Calls Tryz.prog 116 #[v] w (kP x w):=by
 obtain⟨b,p,n,c,rfl⟩:=h.raw.form
 have aY:Below w.heap.size w w:=Below.refl _ _
 go_enter Tryz.func116,Tryz.ntmps116
 go_wp2_with fail
 obtain⟨hA1,f0,g0⟩:=bx2 w rfl [.bool b,.slice p n c] 28 [.bool false,.slice none 0 0] 28
 have h0:=(h.below hA1)
 (with_reducible refine(jK _ _ _ _ h0).mono ?_)
 rintro e w1 ⟨rfl,hb1⟩
 have bF:=(f0.to hb1)
 obtain⟨i0,j0⟩:=bF.cs2
 have dF:=(g0.to hb1)
 obtain⟨a0,c0,b0,d0⟩:=dF.cf2
 have h_1:=((h.below hA1).below hb1)
 have e0:=(Below.tr (Below.tr aY hA1) hb1)
 go_wp2_with fail
 exact bodyPost_ret (v:=.agg #[.bool b,.slice p n c]) (by simp[results,Tryz.results116,go_sem,a0,c0,b0,d0]) rfl ⟨_,rfl,fJ.int (h_1.aF dF rfl rfl (.bool b) (.slice p n c)),(Below.aF e0 (b:=w.heap.size+1) (by omega) (.bool b) (.slice p n c))⟩
theorem NH (v:Value) (x:Int) (w:World) (h:fJ w v false x) :
  Calls Tryz.prog 116 #[v] w (kP x w):=by
 obtain⟨b,p,n,c,rfl⟩:=h.raw.form
 have HX:Hid (x=0):=h.zero
 have aY:Below w.heap.size w w:=Below.refl _ _
 go_enter Tryz.func116,Tryz.ntmps116
 go_wp2_with fail
 obtain⟨hA1,h0,f0⟩:=bx2 w rfl [.bool b,.slice p n c] 28 [.bool false,.slice none 0 0] 28
 have g0:=(h.below hA1)
 (with_reducible refine(jK _ _ _ _ g0).mono ?_)
 rintro e w1 ⟨rfl,hb1⟩
 go_wp2_with fail
 (with_reducible refine(DC _ _ (by omega) (by omega)).mono ?_)
 rintro e w2 ⟨v2,rfl,hi2,hb2⟩
 obtain⟨g2,p2,n2,c2,rfl⟩:=hi2.form
 have bJ:=((f0.to hb1).to hb2)
 obtain⟨a0,c0,b0,d0⟩:=bJ.cf2
 have e0:=(Below.tr (Below.tr (Below.tr aY hA1) hb1) hb2)
 go_wp2_with fail
 exact bodyPost_ret (v:=.agg #[.bool g2,.slice p2 n2 c2]) (by simp[results,Tryz.results116,go_sem,a0,c0,b0,d0]) rfl ⟨_,rfl,by rw[HX.out];exact(hi2.aF bJ rfl rfl (.bool g2) (.slice p2 n2 c2)),(Below.aF e0 (b:=w.heap.size+1) (by omega) (.bool g2) (.slice p2 n2 c2))⟩
theorem QK (v u:Value) (x y:Int) (w:World) (hv:bU w v x) (hu:bU w u y) (hl:isz x<=1000000000) (hl2:isz y<=1000000000) (hd:0<y) :
  Calls Tryz.prog 106 #[v,u] w (GQ (Rat.divInt x y) w):=by
 obtain⟨b,p,n,c,rfl⟩:=hv.form
 obtain⟨d,o,m,e,rfl⟩:=hu.form
 have HX:=Lib.hid (EG (n:=x) hd)
 have hn1:isz (-x)<=1000000000:=by rw[mG];omega
 have hn2:isz (-y)<=1000000000:=by rw[mG];omega
 have hlg:isz ((Int.gcd x y:Nat):Int)<=1000000000:=oP (by omega) (by assumption)
 have hg0:((Int.gcd x y:Nat):Int)≠0:=gcd_ne (by omega)
 have hsg:decide (sgn y<0)=false:=by rw[wP hd];rfl
 clear hd
 have aY:Below w.heap.size w w:=Below.refl _ _
 go_enter Tryz.func106,Tryz.ntmps106
 go_wp2_with fail
 obtain⟨hA1,w0,x0,y0⟩:=bx3 w rfl [.bool b,.slice p n c] 28 [.bool d,.slice o m e] 28 [.bool false,.slice none 0 0,.bool false,.slice none 0 0] 30
 have a1:=(hu.below hA1).raw
 (with_reducible refine(lN _ (y) _ a1).mono ?_)
 rintro e w1 ⟨rfl,hb1⟩
 have bF:=(w0.to hb1)
 obtain⟨j1,m1⟩:=bF.cs2
 have dF:=(x0.to hb1)
 obtain⟨p1,r1⟩:=dF.cs2
 go_wp2_with fail
 have nC:=((hv.below hA1).below hb1)
 have b1:=nC.raw
 have iU:=((hu.below hA1).below hb1)
 have c1:=iU.raw
 (with_reducible refine(LJ _ _ (x) (y) _ b1 c1 (by omega) (by omega)).mono ?_)
 rintro e w2 ⟨v2,rfl,hi2,hb2⟩
 obtain⟨g2,p2,n2,c2,rfl⟩:=hi2.form
 have bV:=(bF.to hb2)
 obtain⟨k1,n1⟩:=bV.cs2
 have q0:=(bV).1
 have bJ:=(dF.to hb2)
 have r0:=(bJ).1
 have kX:=((y0.to hb1).to hb2)
 have s0:=(kX).1
 go_wp2_with fail
 have wH:=(nC.below hb2)
 obtain⟨hA2,z0⟩:=bx1 w2 rfl [.bool g2,.slice p2 n2 c2] 28
 have d1:=(wH.below hA2).raw
 have e1:=(hi2.below hA2).raw
 (with_reducible refine(oK _ _ (x) ((Int.gcd (x) (y):Int)) _ d1 e1 (by omega) hlg hg0).mono ?_)
 rintro e w3 ⟨v3,u3,rfl,hi3,hj3,hb3⟩
 obtain⟨g3,p3,n3,c3,rfl⟩:=hi3.form
 obtain⟨h3,o3,m3,e3,rfl⟩:=hj3.form
 have gV:=((bV.to hA2).to hb3)
 obtain⟨a0,c0,b0,d0⟩:=gV.cf2
 have lY:=((bJ.to hA2).to hb3)
 obtain⟨q1,s1⟩:=lY.cs2
 have t1:=(z0.to hb3)
 obtain⟨u0,v0⟩:=t1.cs2
 go_wp2_with fail
 have EN:=(((iU.below hb2).below hA2).below hb3)
 have f1:=(EN.aF gV rfl rfl (.bool g3) (.slice p3 n3 c3)).raw
 have h1:=((hi2.below hA2).below hb3)
 have g1:=(h1.aF gV rfl rfl (.bool g3) (.slice p3 n3 c3)).raw
 (with_reducible refine(oK _ _ (y) ((Int.gcd (x) (y):Int)) _ f1 g1 (by omega) hlg hg0).mono ?_)
 rintro e w4 ⟨v4,u4,rfl,hi4,hj4,hb4⟩
 obtain⟨g4,p4,n4,c4,rfl⟩:=hi4.form
 obtain⟨h4,o4,m4,e4,rfl⟩:=hj4.form
 have jQ:=((lY.aJ (b:=w.heap.size) (by omega) (.bool g3) (.slice p3 n3 c3)).to hb4)
 obtain⟨e0,g0,f0,h0⟩:=jQ.cf2
 have jU:=((gV.store2 (.bool g3) (.slice p3 n3 c3)).to hb4)
 obtain⟨l1,o1⟩:=jU.cs2
 have lK:=((((kX.to hA2).to hb3).aJ (b:=w.heap.size) (by omega) (.bool g3) (.slice p3 n3 c3)).to hb4)
 obtain⟨i0,m0,j0,n0,k0,o0,l0,p0⟩:=lK.cf4
 have i1:=((hi3.aF gV rfl rfl (.bool g3) (.slice p3 n3 c3)).below hb4)
 have t0:=(Below.tr (Below.aF (Below.tr (Below.tr (Below.tr (Below.tr (Below.tr aY hA1) hb1) hb2) hA2) hb3) (b:=w.heap.size) (by omega) (.bool g3) (.slice p3 n3 c3)) hb4)
 go_wp2_with fail
 exact bodyPost_ret (v:=.agg #[.bool g3,.slice p3 n3 c3,.bool g4,.slice p4 n4 c4]) (by simp[results,Tryz.results106,go_sem,q0,r0,s0,a0,c0,b0,d0,e0,g0,f0,h0,i0,m0,j0,n0,k0,o0,l0,p0]) rfl ⟨_,rfl,RQ.mk' ((i1.aF jQ rfl rfl (.bool g4) (.slice p4 n4 c4)).aT (lK.aJ (b:=w.heap.size+1) (by omega) (.bool g4) (.slice p4 n4 c4)) rfl rfl rfl rfl (.bool g3) (.slice p3 n3 c3) (.bool g4) (.slice p4 n4 c4)) ((hi4.aF jQ rfl rfl (.bool g4) (.slice p4 n4 c4)).aT (lK.aJ (b:=w.heap.size+1) (by omega) (.bool g4) (.slice p4 n4 c4)) rfl rfl rfl rfl (.bool g3) (.slice p3 n3 c3) (.bool g4) (.slice p4 n4 c4)) HX.out.1 HX.out.2,(Below.aT (Below.aF t0 (b:=w.heap.size+1) (by omega) (.bool g4) (.slice p4 n4 c4)) (b:=w.heap.size+1+1) (by omega) (.bool g3) (.slice p3 n3 c3) (.bool g4) (.slice p4 n4 c4))⟩
theorem SS (v u:Value) (x y:Int) (w:World) (hv:bU w v x) (hu:bU w u y) (hl:isz x<=1000000000) (hl2:isz y<=1000000000) (hd:y<0) :
  Calls Tryz.prog 106 #[v,u] w (GQ (Rat.divInt x y) w):=by
 obtain⟨b,p,n,c,rfl⟩:=hv.form
 obtain⟨d,o,m,e,rfl⟩:=hu.form
 have HX:=Lib.hid (WW (n:=x) hd)
 have hn1:isz (-x)<=1000000000:=by rw[mG];omega
 have hn2:isz (-y)<=1000000000:=by rw[mG];omega
 have hlg:isz ((Int.gcd (-x) (-y):Nat):Int)<=1000000000:=oP (by omega) (by assumption)
 have hg0:((Int.gcd (-x) (-y):Nat):Int)≠0:=gcd_ne (by omega)
 have hsg:decide (sgn y<0)=true:=by rw[FQ hd];rfl
 clear hd
 have aY:Below w.heap.size w w:=Below.refl _ _
 go_enter Tryz.func106,Tryz.ntmps106
 go_wp2_with fail
 obtain⟨hA1,f1,g1,h1⟩:=bx3 w rfl [.bool b,.slice p n c] 28 [.bool d,.slice o m e] 28 [.bool false,.slice none 0 0,.bool false,.slice none 0 0] 30
 have j1:=(hu.below hA1).raw
 (with_reducible refine(lN _ (y) _ j1).mono ?_)
 rintro e w1 ⟨rfl,hb1⟩
 go_wp2_with fail
 have bF:=(f1.to hb1)
 obtain⟨x1,j2,d2,l2⟩:=bF.drew.cf2
 have dF:=(g1.to hb1)
 obtain⟨o2,z2,t2,b3⟩:=dF.drew.cf2
 have tk1:True:=trivial
 have tk2:True:=trivial
 go_region_with
  (first
   | (((have:=tk1);clear tk1;have nC:=((hv.below hA1).below hb1);have k1:=nC.drew.raw;go_at_call 134;(with_reducible refine(tY _ (x) _ k1 (by omega)).mono ?_);rintro e w2 ⟨v2,rfl,hi2,hb2⟩;obtain⟨g2,p2,n2,c2,rfl⟩:=hi2.form;have bJ:=(dF.drew.to hb2);obtain⟨q2,a3,u2,d3⟩:=bJ.cf2;have bV:=(bF.drew.to hb2);obtain⟨y1,k2,e2,m2⟩:=bV.cf2))
   | (((have:=tk2);clear tk2;have SE:=(((hu.below hA1).below hb1).drew.below hb2);have l1:=SE.raw;go_at_call 134;(with_reducible refine(tY _ (y) _ l1 (by omega)).mono ?_);rintro e w3 ⟨v3,rfl,hi3,hb3⟩;obtain⟨g3,p3,n3,c3,rfl⟩:=hi3.form;have gV:=(bV.to hb3);obtain⟨a0,e0,c0,g0⟩:=gV.cf2;have lY:=(bJ.to hb3);obtain⟨i0,m0,k0,o0⟩:=lY.cf2)))
 all_goals
  obtain⟨z1,f2⟩:=((gV.store2 (.bool g2) (.slice p2 n2 c2)).aJ (b:=w.heap.size+1) (by omega) (.bool g3) (.slice p3 n3 c3)).cs2
  obtain⟨r2,x2⟩:=((lY.aJ (b:=w.heap.size) (by omega) (.bool g2) (.slice p2 n2 c2)).store2 (.bool g3) (.slice p3 n3 c3)).cs2
  go_wp2_with fail
  have b1:=(hi2.below hb3)
  have m1:=((b1.aF gV rfl rfl (.bool g2) (.slice p2 n2 c2)).aF (lY.aJ (b:=w.heap.size) (by omega) (.bool g2) (.slice p2 n2 c2)) rfl rfl (.bool g3) (.slice p3 n3 c3)).raw
  have n1:=((hi3.aF gV rfl rfl (.bool g2) (.slice p2 n2 c2)).aF (lY.aJ (b:=w.heap.size) (by omega) (.bool g2) (.slice p2 n2 c2)) rfl rfl (.bool g3) (.slice p3 n3 c3)).raw
  (with_reducible refine(LJ _ _ (-((x))) (-((y))) _ m1 n1 (by omega) (by omega)).mono ?_)
  rintro e w4 ⟨v4,rfl,hi4,hb4⟩
  obtain⟨g4,p4,n4,c4,rfl⟩:=hi4.form
  have jU:=(((gV.store2 (.bool g2) (.slice p2 n2 c2)).aJ (b:=w.heap.size+1) (by omega) (.bool g3) (.slice p3 n3 c3)).to hb4)
  obtain⟨a2,h2⟩:=jU.cs2
  have y0:=(jU).1
  have jQ:=(((lY.aJ (b:=w.heap.size) (by omega) (.bool g2) (.slice p2 n2 c2)).store2 (.bool g3) (.slice p3 n3 c3)).to hb4)
  have z0:=(jQ).1
  have lK:=((((((h1.to hb1).drew.to hb2).to hb3).aJ (b:=w.heap.size) (by omega) (.bool g2) (.slice p2 n2 c2)).aJ (b:=w.heap.size+1) (by omega) (.bool g3) (.slice p3 n3 c3)).to hb4)
  have a1:=(lK).1
  go_wp2_with fail
  have s1:=(((b1.aF gV rfl rfl (.bool g2) (.slice p2 n2 c2)).aF (lY.aJ (b:=w.heap.size) (by omega) (.bool g2) (.slice p2 n2 c2)) rfl rfl (.bool g3) (.slice p3 n3 c3)).below hb4)
  obtain⟨hA2,i1⟩:=bx1 w4 rfl [.bool g4,.slice p4 n4 c4] 28
  have o1:=(s1.below hA2).raw
  have p1:=(hi4.below hA2).raw
  (with_reducible refine(oK _ _ (-((x))) ((Int.gcd (-((x))) (-((y))):Int)) _ o1 p1 (by omega) hlg hg0).mono ?_)
  rintro e w5 ⟨v5,u5,rfl,hi5,hj5,hb5⟩
  obtain⟨g5,p5,n5,c5,rfl⟩:=hi5.form
  obtain⟨h5,o5,m5,e5,rfl⟩:=hj5.form
  have SN:=((jU.to hA2).to hb5)
  obtain⟨b0,f0,d0,h0⟩:=SN.cf2
  have a8E:=((jQ.to hA2).to hb5)
  obtain⟨s2,y2⟩:=a8E.cs2
  have e3:=(i1.to hb5)
  obtain⟨d1,e1⟩:=e3.cs2
  go_wp2_with fail
  have t1:=(((((hi3.aF gV rfl rfl (.bool g2) (.slice p2 n2 c2)).aF (lY.aJ (b:=w.heap.size) (by omega) (.bool g2) (.slice p2 n2 c2)) rfl rfl (.bool g3) (.slice p3 n3 c3)).below hb4).below hA2).below hb5)
  have q1:=(t1.aF SN rfl rfl (.bool g5) (.slice p5 n5 c5)).raw
  have u1:=((hi4.below hA2).below hb5)
  have r1:=(u1.aF SN rfl rfl (.bool g5) (.slice p5 n5 c5)).raw
  (with_reducible refine(oK _ _ (-((y))) ((Int.gcd (-((x))) (-((y))):Int)) _ q1 r1 (by omega) hlg hg0).mono ?_)
  rintro e w6 ⟨v6,u6,rfl,hi6,hj6,hb6⟩
  obtain⟨g6,p6,n6,c6,rfl⟩:=hi6.form
  obtain⟨h6,o6,m6,e6,rfl⟩:=hj6.form
  have a2F:=((a8E.aJ (b:=w.heap.size) (by omega) (.bool g5) (.slice p5 n5 c5)).to hb6)
  obtain⟨j0,n0,l0,p0⟩:=a2F.cf2
  have a8D:=((SN.store2 (.bool g5) (.slice p5 n5 c5)).to hb6)
  obtain⟨b2,i2⟩:=a8D.cs2
  have qC:=((((lK.to hA2).to hb5).aJ (b:=w.heap.size) (by omega) (.bool g5) (.slice p5 n5 c5)).to hb6)
  obtain⟨q0,u0,r0,v0,s0,w0,t0,x0⟩:=qC.cf4
  have v1:=((hi5.aF SN rfl rfl (.bool g5) (.slice p5 n5 c5)).below hb6)
  have c1:=(Below.tr (Below.aF (Below.tr (Below.tr (Below.tr (Below.aF (Below.aF (Below.tr (Below.tr (Below.tr (Below.tr aY hA1) hb1).drew hb2) hb3) (b:=w.heap.size) (by omega) (.bool g2) (.slice p2 n2 c2)) (b:=w.heap.size+1) (by omega) (.bool g3) (.slice p3 n3 c3)) hb4) hA2) hb5) (b:=w.heap.size) (by omega) (.bool g5) (.slice p5 n5 c5)) hb6)
  go_wp2_with fail
  exact bodyPost_ret (v:=.agg #[.bool g5,.slice p5 n5 c5,.bool g6,.slice p6 n6 c6]) (by simp[results,Tryz.results106,go_sem,a0,e0,c0,g0,i0,m0,k0,o0,y0,z0,a1,b0,f0,d0,h0,j0,n0,l0,p0,q0,u0,r0,v0,s0,w0,t0,x0]) rfl ⟨_,rfl,RQ.mk' ((v1.aF a2F rfl rfl (.bool g6) (.slice p6 n6 c6)).aT (qC.aJ (b:=w.heap.size+1) (by omega) (.bool g6) (.slice p6 n6 c6)) rfl rfl rfl rfl (.bool g5) (.slice p5 n5 c5) (.bool g6) (.slice p6 n6 c6)) ((hi6.aF a2F rfl rfl (.bool g6) (.slice p6 n6 c6)).aT (qC.aJ (b:=w.heap.size+1) (by omega) (.bool g6) (.slice p6 n6 c6)) rfl rfl rfl rfl (.bool g5) (.slice p5 n5 c5) (.bool g6) (.slice p6 n6 c6)) HX.out.1 HX.out.2,(Below.aT (Below.aF c1 (b:=w.heap.size+1) (by omega) (.bool g6) (.slice p6 n6 c6)) (b:=w.heap.size+1+1) (by omega) (.bool g5) (.slice p5 n5 c5) (.bool g6) (.slice p6 n6 c6))⟩
theorem qR (v:Value) (ok:Bool) (x:Int) (w:World) (h:fJ w v ok x) :
  Calls Tryz.prog 116 #[v] w (kP x w):=by
 cases ok
 ·exact NH v x w h
 ·exact RZ v x w h
theorem qV (v u:Value) (x y:Int) (w:World) (hv:bU w v x) (hu:bU w u y) (hl:isz x<=1000000000) (hl2:isz y<=1000000000) (hd:y≠0) :
  Calls Tryz.prog 106 #[v,u] w (GQ (Rat.divInt x y) w):=by
 rcases Int.lt_trichotomy y 0 with h|h|h
 ·exact SS v u x y w hv hu hl hl2 h
 ·exact absurd h hd
 ·exact QK v u x y w hv hu hl hl2 h
end Go.Proofs.YtidfgdchcpmnfaaGreat
