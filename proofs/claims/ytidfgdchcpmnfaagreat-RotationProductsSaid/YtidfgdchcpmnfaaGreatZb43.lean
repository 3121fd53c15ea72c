/-
  Lemmas for the statements about rotations, part 43 of 51.
-/
import Derived.Test.YtidfgdchcpmnfaaGreatZb11
import Derived.Test.YtidfgdchcpmnfaaGreatZb32
import Derived.Test.YtidfgdchcpmnfaaGreatZb33
import Derived.Test.YtidfgdchcpmnfaaGreatZb42
namespace Go.Proofs.YtidfgdchcpmnfaaGreat
open Go.RowKit
set_option maxRecDepth 100000
set_option maxHeartbeats 8000000
set_option linter.unusedSimpArgs false
set_option linter.unusedVariables false
theorem ofMatrix_rot (v : Value) (a b c d : Int) (w : World) (hne : ¬ (a = 0 ∧ b = 0 ∧ c = 0 ∧ d = 0)) (h : MatQ w v 3 3 10 (rotQ a b c d)) :
    Calls Tryz.prog 14 #[v] w (GV (primV (xs4 a b c d)) w) := by
  obtain ⟨p,c',rfl,h1,h2⟩ := h.form
  obtain ⟨b',o,q,d',rfl,_,_,_⟩ := h.at_ (k := 0) (by omega)
  rw [← omRes_rot hne]
  exact ofMatrix_turn b' o c' 10 (rotQ a b c d) w h (by omega) (by omega) (rotQ_turn (by have := normI_pos hne;omega))
theorem kn_canon : canonV (-2) 0 4 0 = .tuple #[.agg #[.int .i64 1,.int .i64 0,.int .i64 (-2),.int .i64 0],.int .i64 0] := by
  unfold canonV
  rw [if_pos (by decide +kernel),primV_ok (by decide +kernel),show primN (xs4 (-2) 0 4 0) 0 = 1 by decide +kernel,show primN (xs4 (-2) 0 4 0) 1 = 0 by decide +kernel,show primN (xs4 (-2) 0 4 0) 2 = -2 by decide +kernel,show primN (xs4 (-2) 0 4 0) 3 = 0 by decide +kernel];rfl
theorem kn_mul : mulV 1 1 0 0 1 0 1 0 = .tuple #[.agg #[.int .i64 1,.int .i64 1,.int .i64 1,.int .i64 1],.int .i64 0] := by
  unfold mulV
  rw [if_pos (by decide +kernel),primV_ok (by decide +kernel),show primN (qmulX 1 1 0 0 1 0 1 0) 0 = 1 by decide +kernel,show primN (qmulX 1 1 0 0 1 0 1 0) 1 = 1 by decide +kernel,show primN (qmulX 1 1 0 0 1 0 1 0) 2 = 1 by decide +kernel,show primN (qmulX 1 1 0 0 1 0 1 0) 3 = 1 by decide +kernel];rfl
theorem kn_of : primV (xs4 1 0 0 1) = .tuple #[.agg #[.int .i64 1,.int .i64 0,.int .i64 0,.int .i64 1],.int .i64 0] := by
  rw [primV_ok (by decide +kernel),show primN (xs4 1 0 0 1) 0 = 1 by decide +kernel,show primN (xs4 1 0 0 1) 1 = 0 by decide +kernel,show primN (xs4 1 0 0 1) 2 = 0 by decide +kernel,show primN (xs4 1 0 0 1) 3 = 1 by decide +kernel];rfl
theorem kn_chord : chordQ 1 0 0 0 1 1 0 0 = Rat.divInt 1 2 := by decide +kernel
theorem kn_q1 (w : World) : Calls Tryz.prog 18 #[.agg #[.int .i64 (-2),.int .i64 0,.int .i64 4,.int .i64 0]] w (GV (.tuple #[.agg #[.int .i64 1,.int .i64 0,.int .i64 (-2),.int .i64 0],.int .i64 0]) w) := by
  rw [← kn_canon];exact canon_any _ _ _ _ w
theorem kn_q2 (w : World) : Calls Tryz.prog 26 #[.agg #[.int .i64 1,.int .i64 1,.int .i64 0,.int .i64 0],.agg #[.int .i64 1,.int .i64 0,.int .i64 1,.int .i64 0]] w (GV (.tuple #[.agg #[.int .i64 1,.int .i64 1,.int .i64 1,.int .i64 1],.int .i64 0]) w) := by
  rw [← kn_mul];exact qmul_any _ _ _ _ _ _ _ _ w
theorem kn_q3 (v : Value) (w : World) (h : MatQ w v 3 3 10 (rotQ 1 0 0 1)) : Calls Tryz.prog 14 #[v] w (GV (.tuple #[.agg #[.int .i64 1,.int .i64 0,.int .i64 0,.int .i64 1],.int .i64 0]) w) := by
  rw [← kn_of];exact ofMatrix_rot v 1 0 0 1 w (by decide) h
theorem kn_q4 (w : World) : Calls Tryz.prog 19 #[.agg #[.int .i64 1,.int .i64 0,.int .i64 0,.int .i64 0],.agg #[.int .i64 1,.int .i64 1,.int .i64 0,.int .i64 0]] w (GQC (Rat.divInt 1 2) 0 w) := by
  rw [← kn_chord];exact chord_ok _ _ _ _ _ _ _ _ w (by decide +kernel)
theorem kn_q5 (v u : Value) (w : World) (fa : RQ w v (Rat.divInt 1 2)) (fb : RQ w u (Rat.divInt 1 2)) : Calls Tryz.prog 21 #[v,u] w (GB true w) := by
  have := rsameRat_any v u _ _ w fa fb (by have : rsz (Rat.divInt 1 2) ≤ 1 := by decide +kernel
                                           omega) (by have : rsz (Rat.divInt 1 2) ≤ 1 := by decide +kernel
                                                      omega)
  simpa using this
theorem known_true (w : World) : Calls Tryz.prog 12 #[] w (GB true w) := by
  have a2 : ∀ w,Sem.run Tryz.prog (binOp .eql 33 (.agg #[.int .i64 1,.int .i64 0,.int .i64 (-2),.int .i64 0]) (.agg #[.int .i64 1,.int .i64 0,.int .i64 (-2),.int .i64 0])) w = .ok (.bool true) w := fun w => by simp [go_sem]
  have b2 : ∀ w,Sem.run Tryz.prog (binOp .eql 33 (.agg #[.int .i64 1,.int .i64 1,.int .i64 1,.int .i64 1]) (.agg #[.int .i64 1,.int .i64 1,.int .i64 1,.int .i64 1])) w = .ok (.bool true) w := fun w => by simp [go_sem]
  have z1 : ∀ w,Sem.run Tryz.prog (binOp .eql 33 (.agg #[.int .i64 1,.int .i64 0,.int .i64 0,.int .i64 1]) (.agg #[.int .i64 1,.int .i64 0,.int .i64 0,.int .i64 1])) w = .ok (.bool true) w := fun w => by simp [go_sem]
  have hB_0 : Below w.heap.size w w := Below.refl _ _
  go_enter Tryz.func12,Tryz.ntmps12
  go_wp2_with fail
  (with_reducible refine (kn_q1 _).mono ?_)
  rintro e w1 ⟨rfl,hb1⟩
  go_wp2_with fail
  (with_reducible refine (kn_q2 _).mono ?_)
  rintro e w2 ⟨rfl,hb2⟩
  obtain ⟨hA1,r1⟩ := bx1 w1 rfl [.int .i64 1,.int .i64 0,.int .i64 (-2),.int .i64 0] 33
  have e0 := (r1.to hb2)
  have c2 := (e0).1
  go_wp2_with fail
  (with_reducible refine (matrix_ok 1 0 0 1 _ (by decide +kernel)).mono ?_)
  rintro e w3 ⟨v3,rfl,hm3,hb3⟩
  have hk3 := hm3
  obtain ⟨p3,c3,rfl,hl3,hmx3⟩ := hm3.form
  go_wp2_with fail
  (with_reducible refine (kn_q3 _ _ hk3).mono ?_)
  rintro e w4 ⟨rfl,hb4⟩
  obtain ⟨hA2,s1⟩ := bx1 w2 rfl [.int .i64 1,.int .i64 1,.int .i64 1,.int .i64 1] 33
  have f0 := (((e0.to hA2).to hb3).to hb4)
  have d2 := (f0).1
  have h0 := ((s1.to hb3).to hb4)
  have g2 := (h0).1
  go_wp2_with fail
  (with_reducible refine (kn_q4 _).mono ?_)
  rintro e w5 ⟨v5,rfl,hi5,hb5⟩
  obtain ⟨g5,p5,n5,c5,h5,o5,m5,e5,rfl⟩ := hi5.form
  obtain ⟨hA3,t1⟩ := bx1 w4 rfl [.int .i64 1,.int .i64 0,.int .i64 0,.int .i64 1] 33
  have g0 := ((f0.to hA3).to hb5)
  have e2 := (g0).1
  have i0 := ((h0.to hA3).to hb5)
  have h2 := (i0).1
  have j0 := (t1.to hb5)
  have j2 := (j0).1
  go_wp2_with fail
  (with_reducible refine (rofQ_any _ _ _ (by omega) (by omega) (by omega) (by omega) (by omega)).mono ?_)
  rintro e w6 ⟨v6,rfl,hi6,hb6⟩
  obtain ⟨g6,p6,n6,c6,h6,o6,m6,e6,rfl⟩ := hi6.form
  obtain ⟨hA4,u1⟩ := bx1 w5 rfl [.bool g5,.slice p5 n5 c5,.bool h5,.slice o5 m5 e5] 30
  have a0 := ((g0.to hA4).to hb6)
  obtain ⟨l0,n0,p0,r0⟩ := a0.cs4
  have b0 := ((i0.to hA4).to hb6)
  obtain ⟨t0,v0,x0,z0⟩ := b0.cs4
  have c0 := ((j0.to hA4).to hb6)
  obtain ⟨b1,d1,f1,h1⟩ := c0.cs4
  have d0 := (u1.to hb6)
  obtain ⟨j1,l1,n1,p1⟩ := d0.cs4
  have f2 := (a0).1
  have i2 := (b0).1
  have k2 := (c0).1
  have l2 := (d0).1
  obtain ⟨hA5,m2⟩ := bx1 w6 rfl [.bool g6,.slice p6 n6 c6,.bool h6,.slice o6 m6 e6] 30
  obtain ⟨m0,o0,q0,s0⟩ := (a0.to hA5).cs4
  obtain ⟨u0,w0,y0,a1⟩ := (b0.to hA5).cs4
  obtain ⟨c1,e1,g1,i1⟩ := (c0.to hA5).cs4
  obtain ⟨k1,m1,o1,q1⟩ := (d0.to hA5).cs4
  go_wp2_with fail
  have y1 := ((hi5.below hA4).below hb6)
  have v1 := (y1.below hA5)
  have x1 := (hi6.below hA5)
  (with_reducible refine (kn_q5 _ _ _ v1 x1).mono ?_)
  rintro e w7 ⟨rfl,hb7⟩
  have k0 := (Below.tr (Below.tr (Below.tr (Below.tr (Below.tr (Below.tr (Below.tr (Below.tr (Below.tr (Below.tr (Below.tr (Below.tr hB_0 hb1) hA1) hb2) hA2) hb3) hb4) hA3) hb5) hA4) hb6) hA5) hb7)
  go_wp2_with fail
  go_ret
  exact ⟨rfl,k0⟩
end Go.Proofs.YtidfgdchcpmnfaaGreat
namespace Go.Proofs.YtidfgdchcpmnfaaGreat
open Go.RowKit
set_option maxRecDepth 100000
set_option maxHeartbeats 8000000
set_option linter.unusedSimpArgs false
set_option linter.unusedVariables false
theorem okc_fdiv {x G : Int} (hG : G ≠ 0) (hd : G ∣ x) (h : okc x) : okc (x.fdiv G) := by
  obtain ⟨y,rfl⟩ := hd
  rw [Int.mul_fdiv_cancel_left _ hG]
  have h1 : y.natAbs ≤ (G * y).natAbs := by rw [Int.natAbs_mul];exact Nat.le_mul_of_pos_left _ (Int.natAbs_pos.2 hG)
  unfold okc at *
  omega
theorem prim_rot {a b c d : Int} (hq : qcode a b c d = 0) : primOk (xs4 a b c d) := by
  obtain ⟨hne,oa,ob,oc,od⟩ := qcode_ok hq
  have hG : primG (xs4 a b c d) ≠ 0 := by
    by_cases h1 : a = 0
    · by_cases h2 : b = 0
      · by_cases h3 : c = 0
        · exact primG_ne (j := 3) (by omega) (fun e => hne ⟨h1,h2,h3,e⟩)
        · exact primG_ne (j := 2) (by omega) h3
      · exact primG_ne (j := 1) (by omega) h2
    · exact primG_ne (j := 0) (by omega) h1
  intro j hj
  refine okc_fdiv hG (primG_dvd hj) ?_
  obtain rfl | rfl | rfl | rfl : j = 0 ∨ j = 1 ∨ j = 2 ∨ j = 3 := by omega
  · exact oa
  · exact ob
  · exact oc
  · exact od
theorem prim_rot_form {a b c d : Int} (hq : qcode a b c d = 0) : ∃ e f g h : Int,primV (xs4 a b c d) = .tuple #[.agg #[.int .i64 e,.int .i64 f,.int .i64 g,.int .i64 h],.int .i64 0] := ⟨_,_,_,_,primV_ok (prim_rot hq)⟩
theorem matrix_no (a b c d : Int) (w : World) (hq : ¬ qcode a b c d = 0) :
    Calls Tryz.prog 16 #[.agg #[.int .i64 a,.int .i64 b,.int .i64 c,.int .i64 d]] w (GV (.tuple #[.slice none 0 0,.int .i64 (qcode a b c d)]) w) := by
  have hqt : (qcode a b c d == 0) = false := by simpa using hq
  have hqt2 : (qcode a b c d != 0) = true := by simpa using hq
  clear hq
  have hB_0 : Below w.heap.size w w := Below.refl _ _
  go_enter Tryz.func16,Tryz.ntmps16
  go_wp2_with fail
  (with_reducible refine (check_any _ _ _ _ _).mono ?_)
  rintro e w1 ⟨rfl,hb1⟩
  obtain ⟨hA1,b0⟩ := bx1 w rfl [.int .i64 a,.int .i64 b,.int .i64 c,.int .i64 d] 33
  have a0 := (Below.tr (Below.tr hB_0 hA1) hb1)
  go_wp2_with fail
  go_ret2
  exact ⟨rfl,a0⟩
end Go.Proofs.YtidfgdchcpmnfaaGreat
namespace Go.Proofs.YtidfgdchcpmnfaaGreat
open Go Go.RowKit
set_option linter.unusedSimpArgs false
set_option linter.unusedVariables false
set_option maxRecDepth 20000
def RowI (w : World) (s : Value) (n : Nat) (xs : Nat → Int) : Prop :=
  ∃ p c,s = .slice p n c ∧ n ≤ c ∧ c ≤ 9223372036854775807 ∧ (0 < n → ∃ b o,p = some ⟨b,o,none⟩ ∧ b < w.heap.size ∧ ∀ i,i < n → ∃ u0 u1,w.cell? ⟨b,o + i * 2,none⟩ = some u0 ∧ w.cell? ⟨b,o + i * 2 + 1,none⟩ = some u1 ∧ Raw w (.agg #[u0,u1]) (xs i))
theorem RowI.below {w w' : World} {s : Value} {n : Nat} {xs : Nat → Int} (h : RowI w s n xs) (hb : Below w.heap.size w w') : RowI w' s n xs := by
  obtain ⟨p,c,hs,h1,h2,h3⟩ := h
  refine ⟨p,c,hs,h1,h2,fun hn => ?_⟩
  obtain ⟨b,o,hp,hlt,hi⟩ := h3 hn
  have hc := (bcell hb).1
  refine ⟨b,o,hp,Nat.lt_of_lt_of_le hlt hb.size,fun i hin => ?_⟩
  obtain ⟨u0,u1,c0,c1,hq⟩ := hi i hin
  exact ⟨u0,u1,by rw [hc _ _ hlt];exact c0,by rw [hc _ _ hlt];exact c1,hq.below hb⟩
theorem RowI.form {w : World} {s : Value} {n : Nat} {xs : Nat → Int} (h : RowI w s n xs) : ∃ p c,s = .slice p n c ∧ n ≤ c ∧ c ≤ 9223372036854775807 := by
  obtain ⟨p,c,hs,h1,h2,h3⟩ := h
  exact ⟨p,c,hs,h1,h2⟩
theorem RowI.addr {w : World} {s : Value} {n : Nat} {xs : Nat → Int} (h : RowI w s n xs) (hn : 0 < n) : ∃ b o c,s = .slice (some ⟨b,o,none⟩) n c ∧ n ≤ c ∧ c ≤ 9223372036854775807 ∧ b < w.heap.size := by
  obtain ⟨p,c,hs,h1,h2,h3⟩ := h
  obtain ⟨b,o,rfl,hlt,hi⟩ := h3 hn
  exact ⟨b,o,c,hs,h1,h2,hlt⟩
theorem RowI.at_ {w : World} {b o n c : Nat} {xs : Nat → Int} (h : RowI w (.slice (some ⟨b,o,none⟩) n c) n xs) {k : Nat} (hk : k < n) :
    ∃ g q m d,b < w.heap.size ∧ w.cell? ⟨b,o + k * 2,none⟩ = some (.bool g) ∧ w.cell? ⟨b,o + k * 2 + 1,none⟩ = some (.slice q m d) ∧ Raw w (.agg #[.bool g,.slice q m d]) (xs k) := by
  obtain ⟨p,c',hs,h1,h2,h3⟩ := h
  cases hs
  obtain ⟨b',o',hp,hlt,hi⟩ := h3 (by omega)
  cases hp
  obtain ⟨u0,u1,c0,c1,hq⟩ := hi k hk
  obtain ⟨g,q,m,d,e⟩ := hq.form
  simp only [Value.agg.injEq,Array.mk.injEq,List.cons.injEq,and_true] at e
  obtain ⟨rfl,rfl⟩ := e
  exact ⟨g,q,m,d,hlt,c0,c1,hq⟩
theorem RowI.congr {w : World} {s : Value} {n : Nat} {xs ys : Nat → Int} (h : RowI w s n xs) (h1 : ∀ i,i < n → xs i = ys i) : RowI w s n ys := by
  obtain ⟨p,c,hs,k1,k2,h3⟩ := h
  refine ⟨p,c,hs,k1,k2,fun hn => ?_⟩
  obtain ⟨b,o,hp,hlt,hi⟩ := h3 hn
  refine ⟨b,o,hp,hlt,fun i hin => ?_⟩
  rw [← h1 i hin]
  exact hi i hin
theorem infoInt : (Tryz.prog.info? 3).map (fun i => (i.zero,i.size,i.bytes)) = some (some (.int .i64 0),1,8) := by kernel_rfl
theorem infoIntB : (Tryz.prog.info? 28).map (fun i => (i.zero,i.size,i.bytes)) = some (some (.agg #[.bool false,.slice none 0 0]),2,32) := by kernel_rfl
theorem underInts : Tryz.prog.underlying 78 = some (.slice 3) := by kernel_rfl
theorem underIntsB : Tryz.prog.underlying 99 = some (.slice 28) := by kernel_rfl
def IntA (base : Nat) (w : World) (v : Value) (n : Nat) (f : Nat → Int) : Prop :=
  w.ownsRow base 3 1 v n ((List.range n).map (fun j => .int .i64 (f j))) ∧ CAv notU32 w v
theorem IntA.fresh (base : Nat) (w : World) (f : Nat → Int) (hb : base ≤ w.heap.size) : IntA base (w.alloc (.cells #[] 3)) (.slice (some ⟨w.heap.size,0,none⟩) 0 0) 0 f :=
  ⟨World.ownsRow_made w #[] 0 hb (Nat.zero_le _) (by simp),CAv.fresh _ _ _ _ _⟩
theorem IntA.freshg (base g : Nat) (w : World) (f : Nat → Int) (hg : g = w.heap.size) (hb : base ≤ w.heap.size) : IntA base (w.alloc (.cells #[] 3)) (.slice (some ⟨g,0,none⟩) 0 0) 0 f := by subst hg;exact IntA.fresh base w f hb
theorem IntA.below {base : Nat} {w w' : World} {v : Value} {n : Nat} {f : Nat → Int} (h : IntA base w v n f) (hb : Below w.heap.size w w') : IntA base w' v n f :=
  ⟨ownsB h.1 hb,h.2.below h.1 hb⟩
theorem IntA.form {base : Nat} {w : World} {v : Value} {n : Nat} {f : Nat → Int} (h : IntA base w v n f) : ∃ p c,v = .slice p n c ∧ n ≤ c ∧ c ≤ 9223372036854775807 := by
  rcases h.1.2 with ⟨rfl,rfl⟩ | ⟨g,cap,cur,rfl,_,_,hc,hm,_⟩
  · exact ⟨none,0,rfl,by omega,by omega⟩
  · exact ⟨_,cap,rfl,hc,by unfold maxLen at hm;omega⟩
theorem IntA.cells {base : Nat} {w : World} {v : Value} {n : Nat} {f : Nat → Int} (h : IntA base w v n f) (hn : 0 < n) : ∃ g c,v = .slice (some ⟨g,0,none⟩) n c ∧ n ≤ c ∧ c ≤ 9223372036854775807 ∧ base ≤ g ∧ g < w.heap.size ∧ ∀ j,j < n → w.cell? ⟨g,j,none⟩ = some (.int .i64 (f j)) := by
  have h1 := h.1
  rcases h.1.2 with ⟨_,rfl⟩ | ⟨g,cap,cur,rfl,hb,_,hc,hm,_⟩
  · omega
  · refine ⟨g,cap,rfl,hc,by unfold maxLen at hm;omega,hb,(h.1.lt g rfl).2,fun j hj => ?_⟩
    have hx := h.1.cells (g := g) rfl
    simp only [add_zero_lit] at hx
    exact hx j _ (by simp [hj])
section
variable {ops : Array Oper} {rest : List Oper} {o : Oper} {a : Act} {Q : Exit → Act → World → Prop}
theorem wpList_app_int (hgd : o.guard = none) (s x : Operand) (ho : o.op = .call { callee := .builtin .append,args := #[s,x],argTypes := #[78,78] })
    (base n : Nat) (f : Nat → Int) (v : Value) (y : Int) (w : World) (T : TypeId) (hs : a.eval s = v) (h : IntA base w v n f) (hy : y = f n) (g0 : Nat) (hx : a.eval x = .slice (some ⟨g0,0,none⟩) 1 1) (hg0 : g0 = w.heap.size) (hn : n ≤ 1000000) (hbase : base ≤ w.heap.size)
    (hK : ∀ g cap w',IntA base w' (.slice (some ⟨g,0,none⟩) (n + 1) cap) (n + 1) f → Below base w w' → wpList Tryz.prog ops Q rest (a.put o.dst (.slice (some ⟨g,0,none⟩) (n + 1) cap)) w') :
    wpList Tryz.prog ops Q (o :: rest) a (w.alloc (.cells #[.int .i64 y] T)) := by
  subst hy
  obtain ⟨i,hi,hzz⟩ := Option.map_eq_some_iff.1 infoInt
  simp only [Prod.mk.injEq] at hzz
  obtain ⟨hz,hsz,hb⟩ := hzz
  obtain ⟨h1,h2⟩ := h
  have hA : Below w.heap.size w (w.alloc (.cells #[.int .i64 (f n)] T)) := (Below.refl _ _).alloc (Nat.le_refl _) _
  refine wpList_append_ca (p := notU32) _ hgd s x _ ho base 3 i _ 1 8 underInts hi hz hsz hb rfl (by decide) (by decide) v n _ hs (ownsB h1 hA) (h2.below h1 hA) ⟨w.heap.size,0,none⟩ 1 1 [.int .i64 (f n)] (hg0 ▸ hx) rfl (cell_news w [.int .i64 (f n)] T)
    (by simp [Value.oneCell']) (by simp [notU32]) (by omega) (by unfold maxLen;omega) (by omega) (by simp;omega) ?_
  intro g cap w' k1 k2 k3 k4
  have hr : v.ownBlock ≠ some w.heap.size := fun e1 => by have := (h1.lt _ e1).2;omega
  have kg := kept_alloc k2 hr
  exact hK g cap w' ⟨by rw [List.range_succ,List.map_append];exact k1,fun g' hg' => by simp [Value.ownBlock] at hg';subst hg';exact k3⟩ ((Below.refl _ _).grown kg hbase (fun k e1 => (h1.lt _ e1).1))
end
def RowIA (base : Nat) (w : World) (v : Value) (n : Nat) (xs : Nat → Int) : Prop :=
  ∃ cs : List Value,w.ownsRow base 28 2 v n cs ∧ CAv notU32 w v ∧ ∀ j,j < n → ∃ u0 u1,cs[j * 2]? = some u0 ∧ cs[j * 2 + 1]? = some u1 ∧ Raw w (.agg #[u0,u1]) (xs j)
theorem RowIA.fresh (base : Nat) (w : World) (xs : Nat → Int) (hb : base ≤ w.heap.size) : RowIA base (w.alloc (.cells #[] 28)) (.slice (some ⟨w.heap.size,0,none⟩) 0 0) 0 xs :=
  ⟨[],World.ownsRow_made w #[] 0 hb (Nat.zero_le _) (by simp),CAv.fresh _ _ _ _ _,fun j hj => by omega⟩
theorem RowIA.freshg (base g : Nat) (w : World) (xs : Nat → Int) (hg : g = w.heap.size) (hb : base ≤ w.heap.size) : RowIA base (w.alloc (.cells #[] 28)) (.slice (some ⟨g,0,none⟩) 0 0) 0 xs := by subst hg;exact RowIA.fresh base w xs hb
theorem RowIA.below {base : Nat} {w w' : World} {v : Value} {n : Nat} {xs : Nat → Int} (h : RowIA base w v n xs) (hb : Below w.heap.size w w') : RowIA base w' v n xs := by
  obtain ⟨cs,h1,h2,h3⟩ := h
  refine ⟨cs,ownsB h1 hb,h2.below h1 hb,fun j hj => ?_⟩
  obtain ⟨u0,u1,c0,c1,hq⟩ := h3 j hj
  exact ⟨u0,u1,c0,c1,hq.below hb⟩
theorem RowIA.form {base : Nat} {w : World} {v : Value} {n : Nat} {xs : Nat → Int} (h : RowIA base w v n xs) : ∃ p c,v = .slice p n c ∧ n ≤ c ∧ c ≤ 9223372036854775807 := by
  obtain ⟨cs,h1,h2,h3⟩ := h
  rcases h1.2 with ⟨rfl,rfl⟩ | ⟨g,cap,cur,rfl,_,_,hc,hm,_⟩
  · exact ⟨none,0,rfl,by omega,by omega⟩
  · exact ⟨_,cap,rfl,hc,by unfold maxLen at hm;omega⟩
theorem RowIA.toI {base : Nat} {w : World} {v : Value} {n : Nat} {xs : Nat → Int} (h : RowIA base w v n xs) : RowI w v n xs := by
  obtain ⟨p,c,rfl,hc,hm⟩ := h.form
  obtain ⟨cs,h1,h2,h3⟩ := h
  refine ⟨p,c,rfl,hc,hm,fun hn => ?_⟩
  rcases h1.2 with ⟨_,rfl⟩ | ⟨g,cap,cur,he,_⟩
  · omega
  · cases he
    refine ⟨g,0,rfl,(h1.lt g rfl).2,fun i hi => ?_⟩
    obtain ⟨u0,u1,c0,c1,hq⟩ := h3 i hi
    have hx := h1.cells (g := g) rfl
    simp only [add_zero_lit] at hx
    exact ⟨u0,u1,by rw [Nat.zero_add];exact hx _ _ c0,by rw [Nat.zero_add];exact hx _ _ c1,hq⟩
theorem Raw.grown {w w' : World} {v : Value} {x : Int} (h : Raw w v x) {g : Nat} (hg : w.grownBy w' (some g)) (hn : CA notU32 w g) : Raw w' v x := by
  obtain ⟨neg,s,l,k1,k2,k3,k4⟩ := h;exact ⟨neg,s,l,k1,k2.grown hg hn,k3,k4⟩
theorem Raw.kept {w w' : World} {v u : Value} {x : Int} (h : Raw w u x) (hg : w.grownBy w' v.ownBlock) (hv : CAv notU32 w v) : Raw w' u x := by
  rcases kept_of hg hv with hb | ⟨g,_,hg,hn⟩
  · exact h.below hb
  · exact h.grown hg hn
section
variable {ops : Array Oper} {rest : List Oper} {o : Oper} {a : Act} {Q : Exit → Act → World → Prop}
theorem wpList_app_Int (hgd : o.guard = none) (s x : Operand) (ho : o.op = .call { callee := .builtin .append,args := #[s,x],argTypes := #[99,99] })
    (base n : Nat) (xs : Nat → Int) (v : Value) (g0 : Bool) (p0 : Option Addr) (n0 c0 : Nat) (w : World) (T : TypeId) (hs : a.eval s = v) (h : RowIA base w v n xs) (hq : Raw w (.agg #[.bool g0,.slice p0 n0 c0]) (xs n)) (gx : Nat) (hx : a.eval x = .slice (some ⟨gx,0,none⟩) 1 1) (hg : gx = w.heap.size) (hn : n ≤ 1000000) (hbase : base ≤ w.heap.size)
    (hK : ∀ g cap w',RowIA base w' (.slice (some ⟨g,0,none⟩) (n + 1) cap) (n + 1) xs → Below base w w' → wpList Tryz.prog ops Q rest (a.put o.dst (.slice (some ⟨g,0,none⟩) (n + 1) cap)) w') :
    wpList Tryz.prog ops Q (o :: rest) a (w.alloc (.cells #[.bool g0,.slice p0 n0 c0] T)) := by
  obtain ⟨i,hi,hzz⟩ := Option.map_eq_some_iff.1 infoIntB
  simp only [Prod.mk.injEq] at hzz
  obtain ⟨hz,hsz,hb⟩ := hzz
  obtain ⟨cs,h1,h2,h3⟩ := h
  have hA : Below w.heap.size w (w.alloc (.cells #[.bool g0,.slice p0 n0 c0] T)) := (Below.refl _ _).alloc (Nat.le_refl _) _
  refine wpList_append_ca (p := notU32) _ hgd s x _ ho base 28 i _ 2 32 underIntsB hi hz hsz hb rfl (by decide) (by decide) v n cs hs (ownsB h1 hA) (h2.below h1 hA) ⟨w.heap.size,0,none⟩ 1 1 [.bool g0,.slice p0 n0 c0] (hg ▸ hx) rfl (cell_news w [.bool g0,.slice p0 n0 c0] T)
    (by simp [Value.oneCell']) (by simp [notU32]) (by omega) (by unfold maxLen;omega) (by omega) (by simp;omega) ?_
  intro g cap w' k1 k2 k3 k4
  have hr : v.ownBlock ≠ some w.heap.size := fun e1 => by have := (h1.lt _ e1).2;omega
  have kg := kept_alloc k2 hr
  have hl := h1.1
  refine hK g cap w' ⟨_,k1,fun g' hg' => by simp [Value.ownBlock] at hg';subst hg';exact k3,fun j hj => ?_⟩ ((Below.refl _ _).grown kg hbase (fun k e1 => (h1.lt _ e1).1))
  by_cases e1 : j = n
  · subst e1
    refine ⟨.bool g0,.slice p0 n0 c0,?_,?_,hq.kept kg h2⟩
    · rw [List.getElem?_append_right (by omega),hl];simp
    · rw [List.getElem?_append_right (by omega),hl,show j * 2 + 1 - j * 2 = 1 by omega];rfl
  · obtain ⟨u0,u1,d0,d1,hq'⟩ := h3 j (by omega)
    exact ⟨u0,u1,by rw [List.getElem?_append_left (by omega)];exact d0,by rw [List.getElem?_append_left (by omega)];exact d1,hq'.kept kg h2⟩
end
end Go.Proofs.YtidfgdchcpmnfaaGreat
