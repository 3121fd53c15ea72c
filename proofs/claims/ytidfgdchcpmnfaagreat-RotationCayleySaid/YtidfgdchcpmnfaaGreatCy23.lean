/-
  Lemmas for the theorem vcayley_holds, part 23 of 33.
-/
import Derived.Deep.CutBlock
import Derived.Deep.DeepCutAuto
import Derived.Deep.LoopGhost
import Derived.Deep.RegionLawGrows
import Derived.Test.YtidfgdchcpmnfaaGreatCy06
import Derived.Test.YtidfgdchcpmnfaaGreatCy07
import Derived.Test.YtidfgdchcpmnfaaGreatCy22
namespace Go.Proofs.YtidfgdchcpmnfaaGreat
open Go.RowKit
set_option maxRecDepth 100000
set_option maxHeartbeats 16000000
set_option linter.unusedSimpArgs false
set_option linter.unusedVariables false
theorem b0s:rsz 1=1:=by decide +kernel
theorem KJ (v:Value) (n K:Nat) (e0:Nat→Nat→Rat) (w:World) (h:qI w v n n K e0) (h1:1≤n) (h2:n≤64) (hK1:1≤K) (hK:K * 5 ^ n≤KM) :
  Calls Tryz.prog 104 #[v] w (GQC (det n e0) 0 w):=by
 have ZX:Tryz.prog.follows .mixedOrders=true:=by kernel_rfl
 obtain ⟨p,c,rfl,hl1,hl2⟩:=h.form
 have hKM:KM≤99999999:=Nat.le_refl _
 have hKK:K≤KM:=Nat.le_trans (a4k K n) hK
 have HK:=Lib.hid hK
 clear hK
 have q0:Bx (w.alloc (.cells #[.bool false,.slice none 0 0,.bool false,.slice none 0 0] 30)) w.heap.size [.bool false,.slice none 0 0,.bool false,.slice none 0 0]:=by have:=Bx.new w [.bool false,.slice none 0 0,.bool false,.slice none 0 0] 30;simpa using this
 have hB0:Below w.heap.size w (w.alloc (.cells #[.bool false,.slice none 0 0,.bool false,.slice none 0 0] 30)):=(Below.refl _ _).alloc (Nat.le_refl _) _
 go_enter Tryz.func104,Tryz.ntmps104
 go_wp2_with fail
 refine (a2O _ n K e0 _ (h.below hB0) (by omega) h1 h2).mono ?_
 rintro x w1 ⟨rfl,hb1⟩
 have hB1:=Below.tr hB0 hb1
 go_wp2_with fail
 refine (a1G _ n n K e0 _ (h.below hB1) h1 (by omega) (by omega)).mono ?_
 rintro x w2 ⟨b2,rb2,rfl,hM2,hb2⟩
 have hB2:=Below.tr hB1 hb2
 go_wp2_with fail
 refine (jT 1 _ (by omega) (by omega)).mono ?_
 rintro x w3 ⟨v3,rfl,hi3,hb3⟩
 obtain ⟨g3,p3,n3,c3,r3,o3,m3,t3,rfl⟩:=hi3.form
 have hB3:=Below.tr hB2 hb3
 have HI:Hid (nT w (w3.alloc (.cells #[.bool g3,.slice p3 n3 c3,.bool r3,.slice o3 m3 t3] 30)) b2 w3.heap.size n rb2 e0 (.bool g3) (.slice p3 n3 c3) (.bool r3) (.slice o3 m3 t3) 1):=by
  have q3:=((q0.to hb1).to hb2).to hb3
  have l1:=(q0.to hb1).1
  have l2:=hb3.size
  have l3:=hM2.outer.lt
  have l4:=hM2.hb
  have s1:=hb1.size
  simp only [World.size_alloc] at s1
  refine ⟨q3.alloc _,by have:=Bx.new w3 [.bool g3,.slice p3 n3 c3,.bool r3,.slice o3 m3 t3] 30;simpa using this,by have:=hi3.alloc (.cells #[.bool g3,.slice p3 n3 c3,.bool r3,.slice o3 m3 t3] 30);simpa using this,(((hM2.mono hKK).base (by omega)).below hb3).below ((Below.refl _ _).alloc (Nat.le_refl _) _),by omega,fun i hi=>?_,by have:=q3.1;omega,fun i hi=>?_,Below.al hB3 _⟩
  ·have:=(hM2.rows i hi).lt;omega
  ·have:=(hM2.hrb i hi).1;omega
 have b5S:b2 ≠ w.heap.size:=by
  have l4:=hM2.hb
  have s1:=hb1.size
  simp only [World.size_alloc] at s1
  omega
 have b5w:=Lib.hid b5S
 clear b5S
 go_wp2_with fail
 go_loopg [21,7,8,9,22,23,24,25,26,27,28,29,30,31,32,33,34,35,36,37,38,39,40,41,42,43,44,45,46,47,48,49,50,51,52,53,54,55,56,57,58,59,60,61,62,63,64,65,66,67,68,69,70,71,72,73,74,75,76,77,78,79,80,81,82,83,84,85,86,87,88,89,90,91,92,93,94,95,96,97,98,99,100,101,102,103,104,105,106,107,108,109,110,111,112,113,114,115,116,117] n (fun gk i _ _ _ _ _ _ _ _ _ _ _ _ _ _ _ _ _ _ _ _ _ _ _ _ _ _ _ _ _ _ _ _ _ _ _ _ _ _ _ _ _ _ _ _ _ _ _ _ _ _ _ _ _ _ _ _ _ _ _ _ _ _ _ _ _ _ _ _ _ _ _ _ _ _ _ _ _ _ _ _ _ _ _ _ _ _ _ _ _ _ _ _ _ _ _ _ _ _ _ wr=>∃ (j:Nat) (rb:Nat→Nat) (e:Nat→Nat→Rat) (u0 u1 u2 u3:Value) (d:Rat) (B:Nat),j≤n∧gk=n - j∧i=.int .i64 (j:Nat)∧1≤B∧Hid (B * 5 ^ (n - j)≤KM)∧Hid (pK n (n - j) j e d=det n e0)∧Hid (∀ r c,r < n→c < n→rsz (e r c)≤B)∧Hid (rsz d≤B)∧nT w wr b2 w3.heap.size n rb e u0 u1 u2 u3 d)
 case atStart=>exact ⟨0,rb2,e0,_,_,_,_,1,K,by omega,rfl,rfl,hK1,HK,Lib.hid rfl,Lib.hid (fun r c hr hc=>h.rsz hr hc),Lib.hid (by rw [b0s];exact hK1),HI.out⟩
 case round =>
  obtain ⟨j,rb,e,u0,u1,u2,u3,d,B,hj,rfl,rfl,hB1,HBn,HGO,HSZ,HD,hS⟩:=hrel
  clear HI
  by_cases hlt:j < n
  ·have hkd:decide (j < n)=true:=by simpa using hlt
   have hB5:5 * B≤KM:=by have h9:=HBn.out;rw [UE hlt] at h9;exact Nat.le_trans (a4k _ _) h9
   have hB4:4 * B+1≤KM:=by omega
   go_wp2_with fail
   obtain ⟨wo,rfl⟩:∃ wo:World,wo=wr:=⟨_,rfl⟩
   go_loopw [8,25,26,27,28,29,30,31,32,33,34,35,36,37,38,39,40,41] (fun i _ _ _ _ _ _ _ _ _ _ _ _ _ _ _ _ _ wq=>∃ (k:Nat),j≤k∧k≤n∧i=.int .i64 (k:Nat)∧Hid (pv n e j=find (fun k=>decide (e k j ≠ 0)) (n - k) k)∧nT w wq b2 w3.heap.size n rb e u0 u1 u2 u3 d) (fun i _ _ _ _ _ _ _ _ _ _ _ _ _ _ _ _ _ _=>n - (intOf i).toNat)
   case atStart=>exact ⟨j,by omega,by omega,rfl,Lib.hid rfl,hS⟩
   case round =>
    obtain ⟨k,hk1,hk2,rfl,HP,hT⟩:=hrel
    by_cases hlk:k < n
    ·have b7u:decide (k < n)=true:=by simpa using hlk
     obtain ⟨xg,xp,xn,xc,xh,xo,xm,xe,x0,x1,x2,x3,hxq⟩:=hT.at_ hlk hlt
     have xhd:=(hT.hM.hd hlk).1
     have xhl:=(hT.hM.hd hlk).2
     have lx:=HSZ.out k j hlk hlt
     go_wp2_with fail
     refine (lI _ _ _ hxq (by omega)).mono ?_
     rintro x w5 ⟨rfl,hb5⟩
     have hT5:=hT.below hb5
     by_cases hx0:e k j=0
     ·have HP2:Hid (pv n e j=find (fun k=>decide (e k j ≠ 0)) (n - (k+1)) (k+1)):=Lib.hid (by rw [HP.out];exact a9r (by simp [hx0]) hlk)
      have hsg:(sgn (e k j).num == 0)=true:=by rw [hx0];rfl
      have HX0:=Lib.hid hx0
      clear hx0
      go_wp2_with fail
      go_roundw
      case rel=>exact ⟨k+1,by omega,by omega,by go_num,HP2,hT5⟩
      case measure=>simp [intOf];omega
     ·have HPK:Hid (pv n e j=k):=Lib.hid (by rw [HP.out];exact a6Z (by simp [hx0]) (by omega))
      have hsg:=II hx0
      have HX0:=Lib.hid hx0
      have hkn:¬ ((k:Int)=(n:Int)):=by omega
      have b8L:(k == n)=false:=by simp;omega
      clear hx0 x0 x1 x2 x3 xhd
      go_upto_if 49 with (fail)
      go_cut [8] from 22 to 117 (fun _ wx=>∃ (rb1:Nat→Nat) (e1:Nat→Nat→Rat) (v0 v1 v2 v3:Value) (d1:Rat),Hid (pK n (n - (j+1)) (j+1) (clr e1 j) (d1 * e1 j j)=det n e0)∧Hid (e1 j j ≠ 0)∧Hid (∀ r c,r < n→c < n→rsz (e1 r c)≤B)∧Hid (rsz d1≤B)∧nT w wx b2 w3.heap.size n rb1 e1 v0 v1 v2 v3 d1)
      case first =>
       by_cases hkj:k=j
       ·subst hkj
        have a6k:Hid (pK n (n - (k+1)) (k+1) (clr e k) (d * e k k)=det n e0):=Lib.hid (by have h9:=HGO.out;rw [SY hlt hlk HPK.out,a8N,if_pos rfl] at h9;exact h9)
        go_wp2_with fail
        go_meet
        exact ⟨rb,e,u0,u1,u2,u3,d,a6k,HX0,HSZ,HD,hT5⟩
       ·have a6k:Hid (pK n (n - (j+1)) (j+1) (clr (swp e j k) j) (-d * swp e j k j j)=det n e0):=Lib.hid (by have h9:=HGO.out;rw [SY hlt hlk HPK.out,if_neg hkj] at h9;exact h9)
        have b6R:Hid (swp e j k j j ≠ 0):=Lib.hid (by unfold swp;rw [if_pos rfl];exact HX0.out)
        have VK:Hid (∀ r c,r < n→c < n→rsz (swp e j k r c)≤B):=Lib.hid (b0t HSZ.out hlt hlk)
        have HD1:Hid (rsz (-d)≤B):=Lib.hid (by rw [LJ];exact HD.out)
        have ldd:=HD.out
        have hSa:nT w (((w5.setCell ⟨b2,k,none⟩ (.slice (some ⟨rb j,0,none⟩) n n)).setCell ⟨b2,j,none⟩ (.slice (some ⟨rb k,0,none⟩) n n)).drew) b2 w3.heap.size n (fun i=>if i=j then rb k else if i=k then rb j else rb i) (swp e j k) u0 u1 u2 u3 d:=(hT5.swap hlt hlk (fun e=>hkj e.symm) (.inl rfl) b5w.out).drew
        have hSb:nT w (((w5.setCell ⟨b2,j,none⟩ (.slice (some ⟨rb k,0,none⟩) n n)).setCell ⟨b2,k,none⟩ (.slice (some ⟨rb j,0,none⟩) n n)).drew) b2 w3.heap.size n (fun i=>if i=j then rb k else if i=k then rb j else rb i) (swp e j k) u0 u1 u2 u3 d:=(hT5.swap hlt hlk (fun e=>hkj e.symm) (.inr rfl) b5w.out).drew
        have HSa:=Lib.hid hSa
        have HSb:=Lib.hid hSb
        clear hSa hSb
        have b8H:¬ ((k:Int)=(j:Int)):=by omega
        have b8I:(k == j)=false:=by simpa using hkj
        have b8J:¬ k=j:=hkj
        have b8K:¬ j=k:=fun e=>hkj e.symm
        have hq5:=hT5.qd
        have D0:=hq5.c0
        have D1:=hq5.c1
        have D2:=hq5.c2
        have D3:=hq5.c3
        have ck:=(hT5.hM.hd hlk).1
        have cj:=(hT5.hM.hd hlt).1
        have fk:=hT5.hM.outer.frozen k
        have fj:=hT5.hM.outer.frozen j
        have b8A:¬ b2=w3.heap.size:=hT5.hbD
        have b8B:¬ w3.heap.size=b2:=fun e=>hT5.hbD e.symm
        clear hkj
        go_wp2_with fail
        go_region_with (fail)
        all_goals
         go_wp2_with fail
         (first
          | ((with_reducible refine (a0q _ _ _ HSa.out.hd (by omega)).mono ?_);have hS2:=HSa.out)
          | ((with_reducible refine (a0q _ _ _ HSb.out.hd (by omega)).mono ?_);have hS2:=HSb.out))
         rintro x w7 ⟨v7,rfl,hi7,hb7⟩
         obtain ⟨g7,p7,n7,c7,h7,o7,m7,e7,rfl⟩:=hi7.form
         have hS7:=hS2.below hb7
         have HS7:=Lib.hid (hS7.b6J hi7)
         have E0:=hS7.qd.c0
         have E1:=hS7.qd.c1
         have E2:=hS7.qd.c2
         have E3:=hS7.qd.c3
         have F0:=hS7.qd.f0
         have F1:=hS7.qd.f1
         have F2:=hS7.qd.f2
         have F3:=hS7.qd.f3
         clear hS2 D0 D1 D2 D3 ck cj fk fj
         go_wp2_with fail
         go_meet
         exact ⟨_,_,_,_,_,_,-d,a6k,b6R,VK,HD1,HS7.out⟩
      case rest =>
       obtain ⟨rb1,e1,v0,v1,v2,v3,d1,a6k,HPV,VK,HD1,hS1⟩:=hcut
       have a1T:=hS1.drew
       obtain ⟨kg,kp,kn,kc,kh,ko,km,ke,k0,k1,k2,k3,hkq⟩:=a1T.at_ hlt hlt
       have khd:=(a1T.hM.hd hlt).1
       have khl:=(a1T.hM.hd hlt).2
       have hDc:=a1T.qd
       have D0:=hDc.c0
       have D1:=hDc.c1
       have D2:=hDc.c2
       have D3:=hDc.c3
       have lk:=VK.out j j hlt hlt
       have ldd:=HD1.out
       have lkd:=iW d1 (e1 j j)
       have hMl:=EP _ _ _ _ _ a1T.hd hkq (by omega) (by omega)
       have HMl:=Lib.hid hMl
       clear hMl lkd
       go_upto_region 17 with (fail)
       go_cut [8] from 22 to 117 (fun _ wx=>∃ x0 x1 x2 x3:Value,nT w wx b2 w3.heap.size n rb1 e1 x0 x1 x2 x3 (d1 * e1 j j))
       case first =>
        have tk1:True:=trivial
        go_region_with
         (first
          | (((have:=tk1;clear tk1;(with_reducible refine HMl.out.mono ?_);rintro x w6 ⟨v6,rfl,hi6,hb6⟩;obtain ⟨g6,p6,n6,c6,h6,o6,m6,e6,rfl⟩:=hi6.form;have hS6:=a1T.below hb6;have E0:=hS6.qd.c0;have E1:=hS6.qd.c1;have E2:=hS6.qd.c2;have E3:=hS6.qd.c3;have F0:=hS6.qd.f0;have F1:=hS6.qd.f1;have F2:=hS6.qd.f2;have F3:=hS6.qd.f3))))
        all_goals
         have HS7:=Lib.hid (hS6.b6J hi6)
         clear E0 E1 E2 E3 F0 F1 F2 F3 k0 k1 k2 k3 khd D0 D1 D2 D3 hS6 hi6
         go_wp2_with fail
         go_meet
         exact ⟨_,_,_,_,HS7.out⟩
       case rest =>
        clear k0 k1 k2 k3 khd khl D0 D1 D2 D3 hDc HMl a1T hkq lk ldd
        obtain ⟨x0,x1,x2,x3,hS7⟩:=hcut
        have hj1:IntKind.i64.wrap ((j:Int)+1)=((j+1:Nat):Int):=by rw [IntWalk.i64_in _ (by omega)];omega
        go_wp2_with fail
        obtain ⟨wp,rfl⟩:∃ wp:World,wp=wc:=⟨_,rfl⟩
        go_loopw [9,77,78,79,80,81,82,83,84,85,86,87,88,89,90,91,92,93,94,95,96,97,98,99,100,101,102,103,104,105,106,107,108,109,110,111,112,113,114,115,116] (fun i _ _ _ _ _ _ _ _ _ _ _ _ _ _ _ _ _ _ _ _ _ _ _ _ _ _ _ _ _ _ _ _ _ _ _ _ _ _ _ _ wq=>∃ (ii:Nat),j+1≤ii∧ii≤n∧i=.int .i64 (ii:Nat)∧nT w wq b2 w3.heap.size n rb1 (pJ e1 j ii) x0 x1 x2 x3 (d1 * e1 j j)) (fun i _ _ _ _ _ _ _ _ _ _ _ _ _ _ _ _ _ _ _ _ _ _ _ _ _ _ _ _ _ _ _ _ _ _ _ _ _ _ _ _ _=>n - (intOf i).toNat)
        case atStart=>exact ⟨j+1,by omega,by omega,by go_num,by rw [ZB];exact hS7⟩
        case round =>
         clear hj1
         obtain ⟨ii,hi1,hi2,rfl,hT⟩:=hrel
         by_cases hli:ii < n
         ·have b7t:decide (ii < n)=true:=by simpa using hli
          obtain ⟨xg,xp,xn,xc,xh,xo,xm,xe,s0,s1,s2,s3,hxq⟩:=hT.at_ hli hlt
          have xhd:=(hT.hM.hd hli).1
          have xhl:=(hT.hM.hd hli).2
          rw [DT] at hxq
          have lx:=VK.out ii j hli hlt
          go_wp2_with fail
          refine (lI _ _ _ hxq (by omega)).mono ?_
          rintro x w8 ⟨rfl,hb8⟩
          have hT8:=hT.below hb8
          by_cases hx0:e1 ii j=0
          ·have HCL:Hid (pJ e1 j (ii+1)=pJ e1 j ii):=Lib.hid (a1D hx0)
           have hsg:(sgn (e1 ii j).num == 0)=true:=by rw [hx0];rfl
           have KN:(sgn (e1 ii j).num != 0)=false:=by rw [hx0];rfl
           have HX0:=Lib.hid hx0
           clear hx0
           go_wp2_with fail
           go_roundw
           case rel=>exact ⟨ii+1,by omega,by omega,by go_num,by rw [HCL.out];exact hT8⟩
           case measure=>simp [intOf];omega
          ·have hsg:=II hx0
           have KN:=ES hx0
           have HX0:=Lib.hid hx0
           clear hx0
           obtain ⟨yg,yp,yn,yc,yh,yo,ym,ye,y0,y1,y2,y3,hyq⟩:=hT8.at_ hli hlt
           have yhd:=(hT8.hM.hd hli).1
           have yhl:=(hT8.hM.hd hli).2
           obtain ⟨zg,zp,zn,zc,zh,zo,zm,ze,z0,z1,z2,z3,hzq⟩:=hT8.at_ hlt hlt
           have zhd:=(hT8.hM.hd hlt).1
           have zhl:=(hT8.hM.hd hlt).2
           rw [DT] at hyq
           rw [FZ] at hzq
           have hbl:=hT8.hM.outer.lt
           have lpv:=VK.out j j hlt hlt
           have lq:rsz (e1 ii j / e1 j j)≤2 * B:=by have:=a4p (e1 ii j) (e1 j j) HPV.out;omega
           have hne:rb1 j ≠ rb1 ii:=fun e=>by have:=hT8.hM.inj j ii hlt hli e;omega
           have HNE:=Lib.hid hne
           clear hne s0 s1 s2 s3 xhd hsg KN
           have hsg:=II HX0.out
           have KN:=ES HX0.out
           have hW:Below w8.heap.size w8 w8:=Below.refl _ _
           have hj0:(0:Int)≤(j:Int):=by omega
           have hi0:(0:Int)≤(ii:Int):=by omega
           go_wp2_with fail
           have a0:=BC.of hW hbl yhd
           have b0:=BC.of hW hbl zhd
           have h0:=BC.of hW yhl y0
           have i0:=BC.of hW yhl y1
           have j0:=BC.of hW yhl y2
           have l0:=BC.of hW yhl y3
           have m0:=BC.of hW zhl z0
           have n0:=BC.of hW zhl z1
           have o0:=BC.of hW zhl z2
           have p0:=BC.of hW zhl z3
           have r0:=hyq
           have t0:=hzq
           refine XM 24 25 rfl (by decide) ZX w8 [some 92,some 93,some 94,some 95,some 96,some 97,some 98,some 99,some 100,some 101,some 102,some 103,some 104,some 105,some 106,some 107,some 108,some 109,some 110,some 111,some 112,some 113,some 114,some 115,some 116] [.eq (.slice (some ⟨b2,0,none⟩) n n),.eq (.int .i64 (ii:Nat)),.eq (.pointer (some ⟨b2,ii,none⟩)),.eq (.slice (some ⟨rb1 ii,0,none⟩) n n),.eq (.slice (some ⟨b2,0,none⟩) n n),.eq (.int .i64 (j:Nat)),.eq (.pointer (some ⟨b2,j,none⟩)),.eq (.slice (some ⟨rb1 j,0,none⟩) n n),.eq (.slice (some ⟨b2,0,none⟩) n n),.eq (.int .i64 (ii:Nat)),.eq (.pointer (some ⟨b2,ii,none⟩)),.eq (.slice (some ⟨rb1 ii,0,none⟩) n n),.eq (.int .i64 (j:Nat)),.eq (.pointer (some ⟨rb1 ii,j * 4,none⟩)),.rq (e1 ii j),.eq (.slice (some ⟨b2,0,none⟩) n n),.eq (.int .i64 (j:Nat)),.eq (.pointer (some ⟨b2,j,none⟩)),.eq (.slice (some ⟨rb1 j,0,none⟩) n n),.eq (.int .i64 (j:Nat)),.eq (.pointer (some ⟨rb1 j,j * 4,none⟩)),.rq (e1 j j),.rq ((e1 ii j) / (e1 j j)),.eq (.int .i64 (j:Nat)),.any] [0,1,2,3,4,5,6,7,8,9,10,11,12,13,14,15,16,17,18,19,20,21,22,23,24] (fun A=>A.tmps[5]?.getD undef=.slice (some ⟨b2,0,none⟩) n n∧A.tmps[9]?.getD undef=.int .i64 (ii:Nat)∧A.tmps[7]?.getD undef=.int .i64 (j:Nat)) (by kernel_rfl) rfl ⟨rfl,rfl⟩ rfl rfl (by kernel_rfl) (by kernel_rfl) (Below.refl _ _).drew (fun A hA=>⟨(hA 5 (by decide)).trans rfl,(hA 9 (by decide)).trans rfl,(hA 7 (by decide)).trans rfl⟩) ?hend ?hstep
           case hend =>
            intro t b8x b5T hf
            have a1:t 3=_:=hf 3 (by omega) rfl rfl
            have b1:t 7=_:=hf 7 (by omega) rfl rfl
            have w0:t 23=_:=hf 23 (by omega) rfl rfl
            have d0:RQ b8x _ _:=hf 22 (by omega) rfl rfl
            obtain ⟨j1,r1,o1,g1,m1,p1,n1,i1,g0⟩:=d0.form
            rw [g0] at d0
            clear hf
            simp only [fQ,List.getD_cons_zero,List.getD_cons_succ,List.toList_toArray,List.drop_succ_cons,List.drop_zero,a1,b1,w0,g0]
            clear a1 b1 w0 g0
            have b7L:=b5T.size
            (try simp only [World.size_alloc,World.size_setCell,World.size_drew] at b7L)
            clear t0 r0 p0 o0 n0 m0 l0 j0 i0 h0 b0 a0
            have hT9:=hT8.below b5T
            go_wp2_with fail
            (with_reducible refine (XZ _ _ n j B _ _ _ _ _ (hT9.hM.rows ii hli) (hT9.hM.rows j hlt) HNE.out d0 lq (fun c hc=>by rw [DT];exact VK.out ii c hli hc) (fun c hc=>by rw [FZ];exact VK.out j c hlt hc) hB4 (by omega) (by omega)).mono ?_)
            rintro e9 w9 ⟨rfl,hrA,hgA⟩
            have hTA:=(hT9.row hli hgA hrA).congr (e':=pJ e1 j (ii+1)) (fun r c hr hc=>by
             by_cases e9:r=ii
             ·rw [if_pos e9,e9]
              unfold CZ
              rw [DT,FZ]
              unfold pJ
              by_cases e8:j≤c
              ·rw [if_pos ⟨e8,hc⟩,if_pos ⟨by omega,by omega,e8⟩]
              ·rw [if_neg (by omega),if_neg (by omega)]
             ·rw [if_neg e9]
              unfold pJ
              by_cases e8:j < r∧r < ii∧j≤c
              ·rw [if_pos e8,if_pos ⟨e8.1,by omega,e8.2.2⟩]
              ·rw [if_neg e8,if_neg (by omega)])
            have HTA:=Lib.hid hTA
            clear hTA
            go_wp2_with fail
            go_roundw
            case rel=>exact ⟨ii+1,by omega,by omega,by go_num,HTA.out⟩
            case measure=>simp [intOf];omega
           case hstep =>
            intro t w9 L i o A hEA hin hBf hf hi ho gU
            obtain ⟨eo5,eo9,eo7⟩:=hEA
            obtain rfl | rfl | rfl | rfl | rfl | rfl | rfl | rfl | rfl | rfl | rfl | rfl | rfl | rfl | rfl | rfl | rfl | rfl | rfl | rfl | rfl | rfl | rfl | rfl:i=0 ∨ i=1 ∨ i=2 ∨ i=3 ∨ i=4 ∨ i=5 ∨ i=6 ∨ i=7 ∨ i=8 ∨ i=9 ∨ i=10 ∨ i=11 ∨ i=12 ∨ i=13 ∨ i=14 ∨ i=15 ∨ i=16 ∨ i=17 ∨ i=18 ∨ i=19 ∨ i=20 ∨ i=21 ∨ i=22 ∨ i=23:=by omega
            all_goals cases ho
            all_goals simp [Region.binds] at gU
            ·exact .val _ (by simp [execOp,eo5,go_sem]) rfl
            ·exact .val _ (by simp [execOp,eo9,go_sem]) rfl
            ·have q0:t 0=_:=hf 0 rfl rfl (by simp [gU])
             have q1:t 1=_:=hf 1 rfl rfl (by simp [gU])
             exact .val _ (by simp [execOp,hin 0 rfl,q0,hin 1 rfl,q1,hi0,hj0,hli,hlt,go_sem]) rfl
            ·have hc0:=a0.at hBf
             have q2:t 2=_:=hf 2 rfl rfl (by simp [gU])
             exact .val _ (by simp [execOp,hin 2 rfl,q2,hc0,go_sem]) rfl
            ·exact .val _ (by simp [execOp,eo5,go_sem]) rfl
            ·exact .val _ (by simp [execOp,eo7,go_sem]) rfl
            ·have q4:t 4=_:=hf 4 rfl rfl (by simp [gU])
             have q5:t 5=_:=hf 5 rfl rfl (by simp [gU])
             exact .val _ (by simp [execOp,hin 4 rfl,q4,hin 5 rfl,q5,hi0,hj0,hli,hlt,go_sem]) rfl
            ·have hc1:=b0.at hBf
             have q6:t 6=_:=hf 6 rfl rfl (by simp [gU])
             exact .val _ (by simp [execOp,hin 6 rfl,q6,hc1,go_sem]) rfl
            ·exact .val _ (by simp [execOp,eo5,go_sem]) rfl
            ·exact .val _ (by simp [execOp,eo9,go_sem]) rfl
            ·have q8:t 8=_:=hf 8 rfl rfl (by simp [gU])
             have q9:t 9=_:=hf 9 rfl rfl (by simp [gU])
             exact .val _ (by simp [execOp,hin 8 rfl,q8,hin 9 rfl,q9,hi0,hj0,hli,hlt,go_sem]) rfl
            ·have hc0:=a0.at hBf
             have q10:t 10=_:=hf 10 rfl rfl (by simp [gU])
             exact .val _ (by simp [execOp,hin 10 rfl,q10,hc0,go_sem]) rfl
            ·exact .val _ (by simp [execOp,eo7,go_sem]) rfl
            ·have q11:t 11=_:=hf 11 rfl rfl (by simp [gU])
             have q12:t 12=_:=hf 12 rfl rfl (by simp [gU])
             exact .val _ (by simp [execOp,hin 11 rfl,q11,hin 12 rfl,q12,hi0,hj0,hli,hlt,go_sem]) rfl
            ·have hc2:=h0.at hBf
             have hc3:=i0.at hBf
             have hc4:=j0.at hBf
             have hc5:=l0.at hBf
             have q13:t 13=_:=hf 13 rfl rfl (by simp [gU])
             exact .val _ (by simp [execOp,hin 13 rfl,q13,hc2,hc3,hc4,hc5,go_sem]) (r0.below hBf)
            ·exact .val _ (by simp [execOp,eo5,go_sem]) rfl
            ·exact .val _ (by simp [execOp,eo7,go_sem]) rfl
            ·have q15:t 15=_:=hf 15 rfl rfl (by simp [gU])
             have q16:t 16=_:=hf 16 rfl rfl (by simp [gU])
             exact .val _ (by simp [execOp,hin 15 rfl,q15,hin 16 rfl,q16,hi0,hj0,hli,hlt,go_sem]) rfl
            ·have hc1:=b0.at hBf
             have q17:t 17=_:=hf 17 rfl rfl (by simp [gU])
             exact .val _ (by simp [execOp,hin 17 rfl,q17,hc1,go_sem]) rfl
            ·exact .val _ (by simp [execOp,eo7,go_sem]) rfl
            ·have q18:t 18=_:=hf 18 rfl rfl (by simp [gU])
             have q19:t 19=_:=hf 19 rfl rfl (by simp [gU])
             exact .val _ (by simp [execOp,hin 18 rfl,q18,hin 19 rfl,q19,hi0,hj0,hli,hlt,go_sem]) rfl
            ·have hc6:=m0.at hBf
             have hc7:=n0.at hBf
             have hc8:=o0.at hBf
             have hc9:=p0.at hBf
             have q20:t 20=_:=hf 20 rfl rfl (by simp [gU])
             exact .val _ (by simp [execOp,hin 20 rfl,q20,hc6,hc7,hc8,hc9,go_sem]) (t0.below hBf)
            ·have b7N:=hf 14 rfl rfl (by simp [gU])
             have b7O:=hf 21 rfl rfl (by simp [gU])
             exact .call _ _ (by simp [execOp,hin 14 rfl,hin 21 rfl,go_sem]) (XH _ _ _ _ _ b7N b7O (by omega) (by omega) HPV.out)
            ·exact .val _ (by simp [execOp,eo7,go_sem]) rfl
         ·have he:ii=n:=by omega
          subst he
          have b7t:decide (ii < ii)=false:=by simp
          have hTE:=hT.congr (e':=clr e1 j) (fun r c hr hc=>a4O e1 j ii r c hr)
          have HTE:=Lib.hid hTE
          clear hTE
          go_wp2_with fail
          go_roundg (ii - (j+1))
          case rel=>exact ⟨j+1,rb1,clr e1 j,_,_,_,_,d1 * e1 j j,5 * B,by omega,rfl,by go_num,by omega,Lib.hid (by rw [← UE hlt];exact HBn.out),a6k,Lib.hid (b0r VK.out hB1 hlt HPV.out),Lib.hid (by have:=iW d1 (e1 j j);have:=HD1.out;have:=VK.out j j hlt hlt;omega),HTE.out⟩
          case measure=>omega
    ·have he:k=n:=by omega
     subst he
     have b7u:decide (k < k)=false:=by simp
     have HZ:Hid (det k e0=0):=Lib.hid (by have h9:=HGO.out;rw [a6V hlt (by rw [HP.out,Nat.sub_self];rfl)] at h9;exact h9.symm)
     go_wp2_with fail
     refine (jT 0 _ (by omega) (by omega)).mono ?_
     rintro x w6 ⟨v6,rfl,hi6,hb6⟩
     obtain ⟨g6,p6,n6,c6,h6,o6,m6,e6,rfl⟩:=hi6.form
     have hT6:=hT.below hb6
     have hq6:=hT6.q2
     have E0:=hq6.c0
     have E1:=hq6.c1
     have E2:=hq6.c2
     have E3:=hq6.c3
     have F0:=hq6.f0
     have F1:=hq6.f1
     have F2:=hq6.f2
     have F3:=hq6.f3
     go_wp2_with fail
     exact bodyPost_ret (v:=.tuple #[.agg #[.bool g6,.slice p6 n6 c6,.bool h6,.slice o6 m6 e6],.int .i64 0]) (by simp [results,Tryz.results104,go_sem,E0,E1,E2,E3,F0,F1,F2,F3]) rfl ⟨_,rfl,by rw [HZ.out];exact hi6.aQ hq6 rfl rfl rfl rfl _ _ _ _,Below.aQ hT6.hB (b:=w.heap.size) (Nat.le_refl _) _ _ _ _⟩
  ·have he:j=n:=by omega
   subst he
   have hkd:decide (j < j)=false:=by simp
   have HDD:Hid (det j e0=d):=Lib.hid (by have h9:=HGO.out;rw [Nat.sub_self] at h9;exact h9.symm)
   obtain ⟨g6,p6,n6,c6,h6,o6,m6,e6,hform⟩:=hS.hd.form
   cases hform
   have hq6:=hS.q2
   have hqd:=hS.qd
   have D0:=hqd.c0
   have D1:=hqd.c1
   have D2:=hqd.c2
   have D3:=hqd.c3
   have E0:=hq6.c0
   have E1:=hq6.c1
   have E2:=hq6.c2
   have E3:=hq6.c3
   have F0:=hq6.f0
   have F1:=hq6.f1
   have F2:=hq6.f2
   have F3:=hq6.f3
   go_wp2_with fail
   exact bodyPost_ret (v:=.tuple #[.agg #[.bool g6,.slice p6 n6 c6,.bool h6,.slice o6 m6 e6],.int .i64 0]) (by simp [results,Tryz.results104,go_sem,E0,E1,E2,E3,F0,F1,F2,F3]) rfl ⟨_,rfl,by rw [HDD.out];exact hS.hd.aQ hq6 rfl rfl rfl rfl _ _ _ _,Below.aQ hS.hB (b:=w.heap.size) (Nat.le_refl _) _ _ _ _⟩
end Go.Proofs.YtidfgdchcpmnfaaGreat
namespace Go.Proofs.YtidfgdchcpmnfaaGreat
open Go.RowKit
set_option maxRecDepth 100000
set_option maxHeartbeats 8000000
set_option linter.unusedSimpArgs false
set_option linter.unusedVariables false
def idE (i j:Nat):Rat:=if i=j then 1 else 0
def mJ (e:Nat→Nat→Rat) (i j:Nat):Bool:=decide (qN (e i) (e j) 3=idE i j)
def xG (e:Nat→Nat→Rat):Bool:=allB 3 (fun i=>allB 3 (mJ e i)) && decide (det 3 e=1)
theorem zQ (x y:Rat):sK x y=0 ↔ x=y:=by
 unfold sK
 by_cases h1:x < y
 ·rw [if_pos h1];constructor
  ·intro h;simp at h
  ·intro h;rw [h] at h1;exact absurd h1 (Rat.lt_irrefl)
 ·rw [if_neg h1]
  by_cases h2:y < x
  ·rw [if_pos h2];constructor
   ·intro h;simp at h
   ·intro h;rw [h] at h2;exact absurd h2 (Rat.lt_irrefl)
  ·rw [if_neg h2];exact ⟨fun _=>Rat.le_antisymm (Rat.not_lt.1 h2) (Rat.not_lt.1 h1),fun _=>rfl⟩
theorem a8z {e:Nat→Nat→Rat} {K:Nat} (h:∀ i j,i < 3→j < 3→rsz (e i j)≤K):rsz (det 3 e)≤15 * K+5:=by
 rw [b7a]
 have m:=fun a b=>iW a b
 have h00:=h 0 0 (by omega) (by omega)
 have h01:=h 0 1 (by omega) (by omega)
 have h02:=h 0 2 (by omega) (by omega)
 have h10:=h 1 0 (by omega) (by omega)
 have h11:=h 1 1 (by omega) (by omega)
 have h12:=h 1 2 (by omega) (by omega)
 have h20:=h 2 0 (by omega) (by omega)
 have h21:=h 2 1 (by omega) (by omega)
 have h22:=h 2 2 (by omega) (by omega)
 have a1:=iW (e 1 1) (e 2 2)
 have a2:=iW (e 1 2) (e 2 1)
 have a3:=wI (e 1 1 * e 2 2) (e 1 2 * e 2 1)
 have a4:=iW (e 0 0) (e 1 1 * e 2 2 - e 1 2 * e 2 1)
 have b1:=iW (e 1 2) (e 2 0)
 have b2:=iW (e 1 0) (e 2 2)
 have b3:=wI (e 1 2 * e 2 0) (e 1 0 * e 2 2)
 have b4:=iW (e 0 1) (e 1 2 * e 2 0 - e 1 0 * e 2 2)
 have c1:=iW (e 1 0) (e 2 1)
 have c2:=iW (e 1 1) (e 2 0)
 have c3:=wI (e 1 0 * e 2 1) (e 1 1 * e 2 0)
 have c4:=iW (e 0 2) (e 1 0 * e 2 1 - e 1 1 * e 2 0)
 have d1:=AQ (e 0 0 * (e 1 1 * e 2 2 - e 1 2 * e 2 1)) (e 0 1 * (e 1 2 * e 2 0 - e 1 0 * e 2 2))
 have d2:=AQ (e 0 0 * (e 1 1 * e 2 2 - e 1 2 * e 2 1)+e 0 1 * (e 1 2 * e 2 0 - e 1 0 * e 2 2)) (e 0 2 * (e 1 0 * e 2 1 - e 1 1 * e 2 0))
 omega
theorem a1f (v:Value) (K:Nat) (e:Nat→Nat→Rat) (w:World) (h:qI w v 3 3 K e) (hK1:1≤K) (hK:K≤700000) :
  Calls Tryz.prog 49 #[v] w (GB (xG e) w):=by
 obtain ⟨p,c,rfl,hl1,hl2⟩:=h.form
 go_enter Tryz.func49,Tryz.ntmps49
 go_wp2_with fail
 refine (SK _ 3 3 K e _ h (by omega) (by omega) (by omega) (by omega) (by omega)).mono ?_
 rintro x w1 ⟨b1,rb1,rfl,hM1,hb1⟩
 have ht:=hM1.toR (by omega) (by omega)
 go_wp2_with fail
 refine (a7V _ _ 3 3 3 K e (fun i j=>e j i) _ (h.below hb1) ht (by omega) (by omega) (by omega) (by omega) (by omega) (by omega) (by omega)).mono ?_
 rintro x w2 ⟨b2,rb2,rfl,hM2,hb2⟩
 have hp:=hM2.toR (by omega) (by omega)
 have hB2:=Below.tr hb1 hb2
 have hBr:Below w2.heap.size w2 w2:=Below.refl _ _
 obtain ⟨g,hg⟩:∃ g:Nat→Nat→Rat,g=fun i j=>qN (e i) (fun k=>(fun i j=>e j i) k j) 3:=⟨_,rfl⟩
 rw [← hg] at hp
 have b6i:∀ i j,i < 3→j < 3→rsz (g i j)≤400000000:=fun i j hi hj=>by have:=hp.rsz hi hj;omega
 have HPS:=Lib.hid b6i
 have HGG:Hid (∀ i j,g i j=qN (e i) (e j) 3):=Lib.hid (fun i j=>by rw [hg])
 clear b6i hg hM2
 go_wp2_with fail
 go_loopw [27,7,8,9,10,11,28,29,30,31,32,33,34,35,36,37,38,39,40,41,42,43,44,45,46,47,48] (fun i _ _ _ _ _ _ _ _ _ _ _ _ _ _ _ _ _ _ _ _ _ _ _ _ _ _ wr=>∃ k:Nat,k≤3∧i=.int .i64 (k:Nat)∧Hid (∀ i,i < k→allB 3 (mJ e i)=true)∧Below w.heap.size w wr∧Below w2.heap.size w2 wr) (fun i _ _ _ _ _ _ _ _ _ _ _ _ _ _ _ _ _ _ _ _ _ _ _ _ _ _ _=>3 - (intOf i).toNat)
 case atStart=>exact ⟨0,by omega,rfl,Lib.hid (fun j hj=>by omega),hB2,hBr⟩
 case round =>
  obtain ⟨k,hk,rfl,HI,hBw,hBp⟩:=hrel
  by_cases hk3:k < 3
  ·have hkd:decide ((k:Int) < 3)=true:=by simp;omega
   obtain ⟨_,_,q,d,he,hlb,c0,hr⟩:=(hp.below hBp).at_ hk3
   cases he
   rw [Nat.zero_add] at c0
   go_wp2_with fail
   obtain ⟨wo,rfl⟩:∃ wo:World,wo=wr:=⟨_,rfl⟩
   have b7h:Below wo.heap.size wo wo:=Below.refl _ _
   go_loopw [34,9,10,11,35,36,37,38,39,40,41,42,43,44,45,46,47] (fun i _ _ _ _ _ _ _ _ _ _ _ _ _ _ _ _ wr=>∃ l:Nat,l≤3∧i=.int .i64 (l:Nat)∧Hid (∀ j,j < l→mJ e k j=true)∧Below wo.heap.size wo wr) (fun i _ _ _ _ _ _ _ _ _ _ _ _ _ _ _ _ _=>3 - (intOf i).toNat)
   case atStart=>exact ⟨0,by omega,rfl,Lib.hid (fun j hj=>by omega),b7h⟩
   case round =>
    obtain ⟨l,hl,rfl,HJ,hBo⟩:=hrel
    by_cases hl3:l < 3
    ·have hld:decide ((l:Int) < 3)=true:=by simp;omega
     obtain ⟨ba,oa,xg,xp,xn,xc,xh,xo,xm,xe,he,hla,y0,y1,y2,y3,hxq,hxn⟩:=(hr.below hBo).at_ hl3
     subst he
     have hx:=hxq.rq
     have hgs:=HPS.out k l hk3 hl3
     by_cases hkl:k=l
     ·subst hkl
      have b1P:rsz (((1:Int)):Rat)≤400000000:=by decide +kernel
      have qx:Bx (wr.alloc (.cells #[.bool xg,.slice xp xn xc,.bool xh,.slice xo xm xe] 30)) (wr.heap.size) [.bool xg,.slice xp xn xc,.bool xh,.slice xo xm xe]:=by have:=Bx.new wr [.bool xg,.slice xp xn xc,.bool xh,.slice xo xm xe] 30;simpa using this
      have xx:=(hx.alloc (.cells #[.bool xg,.slice xp xn xc,.bool xh,.slice xo xm xe] 30)).drew
      have Sx:(fun w':World=>w'.cell? ⟨wr.heap.size,0,none⟩=some (.bool xg)∧w'.cell? ⟨wr.heap.size,1,none⟩=some (.slice xp xn xc)∧w'.cell? ⟨wr.heap.size,2,none⟩=some (.bool xh)∧w'.cell? ⟨wr.heap.size,3,none⟩=some (.slice xo xm xe)∧wr.heap.size < w'.heap.size) (wr.alloc (.cells #[.bool xg,.slice xp xn xc,.bool xh,.slice xo xm xe] 30)).drew:=⟨qx.c0,qx.c1,qx.c2,qx.c3,qx.1⟩
      have Kx:∀ A B:World,(fun w':World=>w'.cell? ⟨wr.heap.size,0,none⟩=some (.bool xg)∧w'.cell? ⟨wr.heap.size,1,none⟩=some (.slice xp xn xc)∧w'.cell? ⟨wr.heap.size,2,none⟩=some (.bool xh)∧w'.cell? ⟨wr.heap.size,3,none⟩=some (.slice xo xm xe)∧wr.heap.size < w'.heap.size) A→Below A.heap.size A B→(fun w':World=>w'.cell? ⟨wr.heap.size,0,none⟩=some (.bool xg)∧w'.cell? ⟨wr.heap.size,1,none⟩=some (.slice xp xn xc)∧w'.cell? ⟨wr.heap.size,2,none⟩=some (.bool xh)∧w'.cell? ⟨wr.heap.size,3,none⟩=some (.slice xo xm xe)∧wr.heap.size < w'.heap.size) B:=by
       rintro A B ⟨a0,a1,a2,a3,a4⟩ hb
       have hs:=hb.size
       exact ⟨dP hb a4 a0,dP hb a4 a1,dP hb a4 a2,dP hb a4 a3,by omega⟩
      go_wp2_with fail
      have tk1:True:=trivial
      have tk2:True:=trivial
      go_region_held3 (fun w':World=>w'.cell? ⟨wr.heap.size,0,none⟩=some (.bool xg)∧w'.cell? ⟨wr.heap.size,1,none⟩=some (.slice xp xn xc)∧w'.cell? ⟨wr.heap.size,2,none⟩=some (.bool xh)∧w'.cell? ⟨wr.heap.size,3,none⟩=some (.slice xo xm xe)∧wr.heap.size < w'.heap.size) (first | with_reducible exact Sx | with_reducible exact Kx _ _ (by assumption) (by assumption) | (simp;done))
       (first
        | (((have:=tk1;clear tk1;(with_reducible refine (jT 1 _ (by omega) (by omega)).mono ?_);rintro x wx1 ⟨v1,rfl,hwx,a7m⟩;have xxx:=xx.below a7m)))
        | (((have:=tk2;clear tk2;(with_reducible refine (qK _ _ _ _ _ xxx hwx (by omega) b1P).mono ?_);rintro x wx2 ⟨rfl,hbx2⟩))))
      have b1s:Below wo.heap.size wo wx2:=Below.tr (Below.tr (Below.al hBo (.cells #[.bool xg,.slice xp xn xc,.bool xh,.slice xo xm xe] 30)).drew a7m) hbx2
      have HBx:=Lib.hid b1s
      have hgl:g k k=qN (e k) (e k) 3:=HGG.out k k
      have hcz:=zQ (g k k) (1:Rat)
      have hid:idE k k=(1:Rat):=by unfold idE;rw [if_pos rfl]
      have hiff:mJ e k k=true ↔ sK (g k k) (1:Rat)=0:=by rw [hcz,hgl];unfold mJ;rw [hid];simp
      clear hcz hid hgl
      by_cases hok:mJ e k k=true
      ·have hc0:(sK (g k k) (1:Rat) == 0)=true:=by simpa using hiff.1 hok
       have hc1:(sK (g k k) (1:Rat) != 0)=false:=by simpa using hiff.1 hok
       have HC:=Lib.hid hok
       clear hok hiff
       go_wp2_with fail
       go_roundw
       case rel=>exact ⟨k+1,by omega,by go_num,Lib.hid (fun j hj=>if e:j < k then HJ.out j e else by rw [show j=k by omega];exact HC.out),HBx.out⟩
       case measure=>simp [intOf];omega
      ·have hok2:mJ e k k=false:=by simpa using hok
       have hc0:(sK (g k k) (1:Rat) == 0)=false:=by simpa using mt hiff.2 hok
       have hc1:(sK (g k k) (1:Rat) != 0)=true:=by simpa using mt hiff.2 hok
       have HN:Hid (xG e=false):=Lib.hid (by unfold xG;rw [zN (ok:=fun i=>allB 3 (mJ e i)) hk3 (zN hl3 hok2)];rfl)
       clear hok hiff hok2
       go_wp2_with fail
       go_ret
       exact ⟨eU HN.out.symm,Below.tr hBw HBx.out⟩
     ·have hki:¬ ((k:Int)=(l:Int)):=by omega
      have hkn:(k == l)=false:=by simpa using hkl
      have hkl:=Lib.hid hkl
      have b1P:rsz (((0:Int)):Rat)≤400000000:=by decide +kernel
      have qx:Bx (wr.alloc (.cells #[.bool xg,.slice xp xn xc,.bool xh,.slice xo xm xe] 30)) (wr.heap.size) [.bool xg,.slice xp xn xc,.bool xh,.slice xo xm xe]:=by have:=Bx.new wr [.bool xg,.slice xp xn xc,.bool xh,.slice xo xm xe] 30;simpa using this
      have xx:=(hx.alloc (.cells #[.bool xg,.slice xp xn xc,.bool xh,.slice xo xm xe] 30)).drew
      have Sx:(fun w':World=>w'.cell? ⟨wr.heap.size,0,none⟩=some (.bool xg)∧w'.cell? ⟨wr.heap.size,1,none⟩=some (.slice xp xn xc)∧w'.cell? ⟨wr.heap.size,2,none⟩=some (.bool xh)∧w'.cell? ⟨wr.heap.size,3,none⟩=some (.slice xo xm xe)∧wr.heap.size < w'.heap.size) (wr.alloc (.cells #[.bool xg,.slice xp xn xc,.bool xh,.slice xo xm xe] 30)).drew:=⟨qx.c0,qx.c1,qx.c2,qx.c3,qx.1⟩
      have Kx:∀ A B:World,(fun w':World=>w'.cell? ⟨wr.heap.size,0,none⟩=some (.bool xg)∧w'.cell? ⟨wr.heap.size,1,none⟩=some (.slice xp xn xc)∧w'.cell? ⟨wr.heap.size,2,none⟩=some (.bool xh)∧w'.cell? ⟨wr.heap.size,3,none⟩=some (.slice xo xm xe)∧wr.heap.size < w'.heap.size) A→Below A.heap.size A B→(fun w':World=>w'.cell? ⟨wr.heap.size,0,none⟩=some (.bool xg)∧w'.cell? ⟨wr.heap.size,1,none⟩=some (.slice xp xn xc)∧w'.cell? ⟨wr.heap.size,2,none⟩=some (.bool xh)∧w'.cell? ⟨wr.heap.size,3,none⟩=some (.slice xo xm xe)∧wr.heap.size < w'.heap.size) B:=by
       rintro A B ⟨a0,a1,a2,a3,a4⟩ hb
       have hs:=hb.size
       exact ⟨dP hb a4 a0,dP hb a4 a1,dP hb a4 a2,dP hb a4 a3,by omega⟩
      go_wp2_with fail
      have tk1:True:=trivial
      have tk2:True:=trivial
      go_region_held3 (fun w':World=>w'.cell? ⟨wr.heap.size,0,none⟩=some (.bool xg)∧w'.cell? ⟨wr.heap.size,1,none⟩=some (.slice xp xn xc)∧w'.cell? ⟨wr.heap.size,2,none⟩=some (.bool xh)∧w'.cell? ⟨wr.heap.size,3,none⟩=some (.slice xo xm xe)∧wr.heap.size < w'.heap.size) (first | with_reducible exact Sx | with_reducible exact Kx _ _ (by assumption) (by assumption) | (simp;done))
       (first
        | (((have:=tk1;clear tk1;(with_reducible refine (jT 0 _ (by omega) (by omega)).mono ?_);rintro x wx1 ⟨v1,rfl,hwx,a7m⟩;have xxx:=xx.below a7m)))
        | (((have:=tk2;clear tk2;(with_reducible refine (qK _ _ _ _ _ xxx hwx (by omega) b1P).mono ?_);rintro x wx2 ⟨rfl,hbx2⟩))))
      have b1s:Below wo.heap.size wo wx2:=Below.tr (Below.tr (Below.al hBo (.cells #[.bool xg,.slice xp xn xc,.bool xh,.slice xo xm xe] 30)).drew a7m) hbx2
      have HBx:=Lib.hid b1s
      have hgl:g k l=qN (e k) (e l) 3:=HGG.out k l
      have hcz:=zQ (g k l) (0:Rat)
      have hid:idE k l=(0:Rat):=by unfold idE;rw [if_neg hkl.out]
      have hiff:mJ e k l=true ↔ sK (g k l) (0:Rat)=0:=by rw [hcz,hgl];unfold mJ;rw [hid];simp
      clear hcz hid hgl
      by_cases hok:mJ e k l=true
      ·have hc0:(sK (g k l) (0:Rat) == 0)=true:=by simpa using hiff.1 hok
       have hc1:(sK (g k l) (0:Rat) != 0)=false:=by simpa using hiff.1 hok
       have HC:=Lib.hid hok
       clear hok hiff
       go_wp2_with fail
       go_roundw
       case rel=>exact ⟨l+1,by omega,by go_num,Lib.hid (fun j hj=>if e:j < l then HJ.out j e else by rw [show j=l by omega];exact HC.out),HBx.out⟩
       case measure=>simp [intOf];omega
      ·have hok2:mJ e k l=false:=by simpa using hok
       have hc0:(sK (g k l) (0:Rat) == 0)=false:=by simpa using mt hiff.2 hok
       have hc1:(sK (g k l) (0:Rat) != 0)=true:=by simpa using mt hiff.2 hok
       have HN:Hid (xG e=false):=Lib.hid (by unfold xG;rw [zN (ok:=fun i=>allB 3 (mJ e i)) hk3 (zN hl3 hok2)];rfl)
       clear hok hiff hok2
       go_wp2_with fail
       go_ret
       exact ⟨eU HN.out.symm,Below.tr hBw HBx.out⟩
    ·have he:l=3:=by omega
     subst he
     have HA:Hid (allB 3 (mJ e k)=true):=Lib.hid (jX.2 HJ.out)
     go_wp2_with fail
     go_roundw
     case rel=>exact ⟨k+1,by omega,by go_num,Lib.hid (fun j hj=>if e:j < k then HI.out j e else by rw [show j=k by omega];exact HA.out),Below.tr hBw hBo,Below.tr hBp hBo⟩
     case measure=>simp [intOf];omega
  ·have he:k=3:=by omega
   subst he
   have HA:Hid (allB 3 (fun i=>allB 3 (mJ e i))=true):=Lib.hid (jX.2 HI.out)
   go_wp2_with fail
   refine (KJ _ 3 K e _ (h.below hBw) (by omega) (by omega) hK1 (by show K * 125≤99999999;omega)).mono ?_
   rintro x w5 ⟨v5,rfl,hi5,hb5⟩
   obtain ⟨dg,dp,dn,dc,dh,do_,dm,de,rfl⟩:=hi5.form
   have hdz:=a8z (e:=e) (K:=K) (fun i j hi hj=>h.rsz hi hj)
   have hB5:=Below.tr hBw hb5
   have b7I:rsz (((1:Int)):Rat)≤400000000:=by decide +kernel
   have qd:Bx (w5.alloc (.cells #[.bool dg,.slice dp dn dc,.bool dh,.slice do_ dm de] 30)) (w5.heap.size) [.bool dg,.slice dp dn dc,.bool dh,.slice do_ dm de]:=by have:=Bx.new w5 [.bool dg,.slice dp dn dc,.bool dh,.slice do_ dm de] 30;simpa using this
   have xd:=(hi5.alloc (.cells #[.bool dg,.slice dp dn dc,.bool dh,.slice do_ dm de] 30)).drew
   have Sd:(fun w':World=>w'.cell? ⟨w5.heap.size,0,none⟩=some (.bool dg)∧w'.cell? ⟨w5.heap.size,1,none⟩=some (.slice dp dn dc)∧w'.cell? ⟨w5.heap.size,2,none⟩=some (.bool dh)∧w'.cell? ⟨w5.heap.size,3,none⟩=some (.slice do_ dm de)∧w5.heap.size < w'.heap.size) (w5.alloc (.cells #[.bool dg,.slice dp dn dc,.bool dh,.slice do_ dm de] 30)).drew:=⟨qd.c0,qd.c1,qd.c2,qd.c3,qd.1⟩
   have Kd:∀ A B:World,(fun w':World=>w'.cell? ⟨w5.heap.size,0,none⟩=some (.bool dg)∧w'.cell? ⟨w5.heap.size,1,none⟩=some (.slice dp dn dc)∧w'.cell? ⟨w5.heap.size,2,none⟩=some (.bool dh)∧w'.cell? ⟨w5.heap.size,3,none⟩=some (.slice do_ dm de)∧w5.heap.size < w'.heap.size) A→Below A.heap.size A B→(fun w':World=>w'.cell? ⟨w5.heap.size,0,none⟩=some (.bool dg)∧w'.cell? ⟨w5.heap.size,1,none⟩=some (.slice dp dn dc)∧w'.cell? ⟨w5.heap.size,2,none⟩=some (.bool dh)∧w'.cell? ⟨w5.heap.size,3,none⟩=some (.slice do_ dm de)∧w5.heap.size < w'.heap.size) B:=by
    rintro A B ⟨a0,a1,a2,a3,a4⟩ hb
    have hs:=hb.size
    exact ⟨dP hb a4 a0,dP hb a4 a1,dP hb a4 a2,dP hb a4 a3,by omega⟩
   go_wp2_with fail
   have tk1:True:=trivial
   have tk2:True:=trivial
   go_region_held3 (fun w':World=>w'.cell? ⟨w5.heap.size,0,none⟩=some (.bool dg)∧w'.cell? ⟨w5.heap.size,1,none⟩=some (.slice dp dn dc)∧w'.cell? ⟨w5.heap.size,2,none⟩=some (.bool dh)∧w'.cell? ⟨w5.heap.size,3,none⟩=some (.slice do_ dm de)∧w5.heap.size < w'.heap.size) (first | with_reducible exact Sd | with_reducible exact Kd _ _ (by assumption) (by assumption) | (simp;done))
    (first
     | (((have:=tk1;clear tk1;(with_reducible refine (jT 1 _ (by omega) (by omega)).mono ?_);rintro x wd1 ⟨v1,rfl,hwd,hbd1⟩;have xxd:=xd.below hbd1)))
     | (((have:=tk2;clear tk2;(with_reducible refine (qK _ _ _ _ _ xxd hwd (by omega) b7I).mono ?_);rintro x wd2 ⟨rfl,hbd2⟩))))
   have b5O:Below w.heap.size w wd2:=Below.tr (Below.tr (Below.al hB5 (.cells #[.bool dg,.slice dp dn dc,.bool dh,.slice do_ dm de] 30)).drew hbd1) hbd2
   have hcz:=zQ (det 3 e) (1:Rat)
   have HT:Hid ((sK (det 3 e) (1:Rat) == 0)=xG e):=Lib.hid (by
    unfold xG
    rw [HA.out,Bool.true_and,Bool.eq_iff_iff]
    simp only [beq_iff_eq,decide_eq_true_eq]
    exact hcz)
   have HBd:=Lib.hid b5O
   clear hcz b5O
   go_wp2_with fail
   go_ret
   exact ⟨eU HT.out,HBd.out⟩
end Go.Proofs.YtidfgdchcpmnfaaGreat
namespace Go.Proofs.YtidfgdchcpmnfaaGreat
open Go.RowKit
set_option maxRecDepth 100000
set_option maxHeartbeats 2000000
set_option linter.unusedSimpArgs false
set_option linter.unusedVariables false
theorem KQ {P:Program} {ops:Array Oper} {o:Oper} {a:Act} {w:World} {K:Act→World→Prop} {Q:Exit→Act→World→Prop} {E:Prop}
  (hg:o.guard=none) (s x:Operand) (t:TypeId) (hop:o.op=Op.call { callee:=Callee.builtin Builtin.append,args:=#[s,x],argTypes:=#[t,t] })
  (base:Nat) (e:TypeId) (i:TypeInfo) (z:Value) (size bytes:Nat) (h1:P.underlying t=some (.slice e)) (h2:P.info? e=some i) (h3:i.zero=some z) (h4:i.size=size) (h5:i.bytes=bytes) (h6:z.cells.size=size) (h7:0 < size)
  (v:Value) (n:Nat) (xs:List Value) (hs:a.eval s=v) (hown:w.ownsRow base e size v n xs)
  (ad:Addr) (m c:Nat) (news:List Value) (hx:a.eval x=.slice (some ad) m c) (hn:news.length=m * size) (hc:∀ j u,news[j]?=some u→w.cell? (ad.add j)=some u) (h1c:∀ u ∈ news,u.oneCell'=true)
  (b1:n+m≤maxLen) (b2:(n+m) * bytes≤140737488355328) (hbase:base≤w.heap.size)
  (hK:∀ v' w',w'.ownsRow base e size v' (n+m) (xs ++ news)→w.grownBy w' v.ownBlock→(v'=.slice none 0 0 ↔ v=.slice none 0 0∧m=0)→K (a.put o.dst v') w') :
  if Region.wanted o (yielded ops a.tmps)=true then Oper.wp P o a w K Q else E:=by
 have hw:Region.wanted o (yielded ops a.tmps)=true:=by simp [Region.wanted,hg]
 rw [if_pos hw]
 exact wp_append_own w s x t hop base e i z size bytes h1 h2 h3 h4 h5 h6 h7 v n xs hs hown ad m c news hx hn hc h1c b1 b2 hbase hK
theorem FM {P:Program} {ops:Array Oper} {o:Oper} {a:Act} {w:World} {K:Act→World→Prop} {Q:Exit→Act→World→Prop} {E:Prop}
  (hg:o.guard=none) (s x:Operand) (t:TypeId) (hop:o.op=Op.call { callee:=Callee.builtin Builtin.append,args:=#[s,x],argTypes:=#[t,t] })
  (e:TypeId) (i:TypeInfo) (h1:P.underlying t=some (.slice e)) (h2:P.info? e=some i)
  (b:Addr) (hs:a.eval s=.slice (some b) 0 0) {q:Option Addr} (hx:a.eval x=.slice q 0 0)
  (hK:K (a.put o.dst (.slice (some b) 0 0)) w) :
  if Region.wanted o (yielded ops a.tmps)=true then Oper.wp P o a w K Q else E:=by
 have hw:Region.wanted o (yielded ops a.tmps)=true:=by simp [Region.wanted,hg]
 rw [if_pos hw]
 have hrun:(Builtin.append_ #[t,t] o.type #[.slice (some b) 0 0,.slice q 0 0]).run P w=.ok (.slice (some b) 0 0) w:=by
  cases q <;> simp [Builtin.append_,run_underlying h1,sizeOf,typeInfo,h2,Builtin.lenOf,Builtin.firstCells,loadCells,loadCellsFrom,Sem.run_bind,storeCells]
 unfold Oper.wp
 simp [execOp,hop,resolve,invoke,builtin,hs,hx,hrun,Result.andThen]
 exact hK
theorem a6d {neg:Bool} {l:List Nat} {k:Nat} (hk:k < l.length) (h:1000000000≤gr l k):FT neg l=false:=by
 cases hv:FT neg l with
 | false=>rfl
 | true =>
  have:=(FU.1 hv).1.1 _ (a7c hk)
  rw [bG] at this
  omega
theorem a6c {neg:Bool} {l:List Nat} (hl:l ≠ []) (h:∀ j,j < l.length→gr l j < 1000000000):FT neg l=((gr l (l.length - 1):Int) != 0):=by
 rw [YF hl]
 have:(l.any fun g=>decide (1000000000≤g))=false:=by
  rw [List.any_eq_false]
  intro g hg
  obtain ⟨i,hi,rfl⟩:=List.getElem_of_mem hg
  have:=h i hi
  rw [nZ hi] at this
  simp;omega
 rw [this,Bool.eq_iff_iff]
 simp
theorem iV (v:Value) (ok:Bool) (x:Int) (w:World) (h:fF w v ok x) :
  Calls Tryz.prog 123 #[v] w fun e w'=>e=.returned (.bool ok)∧Below w.heap.size w w':=by
 obtain ⟨neg,s,l,rfl,hs,hb,hx,hok⟩:=h
 have HOK:=Lib.hid hok
 clear hok hx hb
 rcases hs with ⟨p,rfl,rfl⟩ | ⟨b,o,c,rfl,h2,h3,h4,h5⟩
 ·go_enter Tryz.func123,Tryz.ntmps123
  go_wp2
  go_loop [4,8,9,10,11,12,13,14,15,16,17,18] (fun i _ _ _ _ _ _ _ _ _ _ _=>i=.int .i64 0) (fun _ _ _ _ _ _ _ _ _ _ _ _=>0)
  case atStart=>rfl
  case round =>
   subst hrel
   go_wp2
   go_ret
   exact ⟨eU (by rw [HOK.out,vK]),(Below.refl _ _).alloc (Nat.le_refl _) _⟩
 ·have H5:=Lib.hid h5
  have hl:l.length≤9223372036854775807:=by omega
  clear h5
  go_enter Tryz.func123,Tryz.ntmps123
  go_wp2
  go_loop [4,8,9,10,11,12,13,14,15,16,17,18] (fun i _ _ _ _ _ _ _ _ _ _ _=>∃ k:Nat,k≤l.length∧i=.int .i64 k∧Hid (∀ j,j < k→gr l j < 1000000000)) (fun i _ _ _ _ _ _ _ _ _ _ _=>l.length - (intOf i).toNat)
  case atStart=>exact ⟨0,by omega,rfl,fun j hj=>by omega⟩
  case round =>
   obtain ⟨k,hk,rfl,hj⟩:=hrel
   by_cases hlt:k < l.length
   ·have hc:=H5.out k hlt
    by_cases hg:1000000000≤gr l k
    ·have HF:=Lib.hid (a6d (neg:=neg) hlt hg)
     have hg2:decide ((1000000000:Int)≤gr l k)=true:=by simp;omega
     go_wp2
     go_ret
     exact ⟨eU (by rw [HOK.out,HF.out]),(Below.refl _ _).alloc (Nat.le_refl _) _⟩
    ·have hg3:gr l k < 1000000000:=by omega
     have hg2:decide ((1000000000:Int)≤gr l k)=false:=by simp;omega
     have HG:=Lib.hid hg3
     clear hg
     go_wp2
     go_round
     case rel=>exact ⟨k+1,by omega,by go_num,fun j h=>if e:j < k then hj.out j e else by rw [show j=k by omega];exact HG.out⟩
     case measure=>simp [intOf] <;> omega
   ·obtain rfl:k=l.length:=by omega
    by_cases hz:l=[]
    ·subst hz
     go_wp2
     go_ret
     exact ⟨eU (by rw [HOK.out];rfl),(Below.refl _ _).alloc (Nat.le_refl _) _⟩
    ·have hp:0 < l.length:=List.length_pos_iff.2 hz
     have HD:=Lib.hid (a6c (neg:=neg) hz hj.out)
     have hc:=H5.out (l.length - 1) (by omega)
     have hidx:((l.length:Int) - 1).toNat=l.length - 1:=by omega
     have hne:((l.length:Int) == 0)=false:=by simp;omega
     go_wp2
     go_ret
     exact ⟨eU (by rw [HOK.out,HD.out]),(Below.refl _ _).alloc (Nat.le_refl _) _⟩
end Go.Proofs.YtidfgdchcpmnfaaGreat
