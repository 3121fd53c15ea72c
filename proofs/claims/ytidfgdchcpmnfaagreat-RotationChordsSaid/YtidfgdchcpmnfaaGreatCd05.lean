/-
  Lemmas for the theorem vchords_holds, part 5 of 33.
-/
import Derived.BigQuiet
import Derived.Deep.CutBlock
import Derived.Deep.DeepCutAuto
import Derived.Deep.LoopGhost
import Derived.Deep.QuietTactic
import Derived.Test.YtidfgdchcpmnfaaGreatCd03
import Derived.Test.YtidfgdchcpmnfaaGreatCd04
namespace Go.Proofs.YtidfgdchcpmnfaaGreat
open Go.RowKit
set_option maxRecDepth 1000000
set_option maxHeartbeats 4000000
set_option linter.unusedSimpArgs false
set_option linter.unusedVariables false
def firstLoop : Code → Option Code
  | .loop c => some c
  | .seq a b => match firstLoop a with
    | some c => some c
    | none => firstLoop b
  | .block _ c => firstLoop c
  | .scope c => firstLoop c
  | .cond _ a b => match firstLoop a with
    | some c => some c
    | none => firstLoop b
  | _ => none
noncomputable def longBody : Code := ((Tryz.f169.body.bind firstLoop).getD .skip)
theorem quo_runL {n d v : Nat} (hd : 1 ≤ d) (hn : n ≤ 999999999999999999) (hv : (n : Int) / d = v) (hw : IntKind.u64.wrap (v : Int) = v) (w : World) : Sem.run Tryz.prog (binOp .quo 109 (.int .u64 (n : Nat)) (.int .u64 (d : Nat))) w = .ok (.int .u64 (v : Nat)) w := by
  have hdz : ((d : Int) == 0) = false := by simp;omega
  have hdn : ¬ d = 0 := by omega
  simp [go_sem, *]
theorem rem_runL {n d v : Nat} (hd : 1 ≤ d) (hn : n ≤ 999999999999999999) (hv : (n : Int) % d = v) (hw : IntKind.u64.wrap (v : Int) = v) (w : World) : Sem.run Tryz.prog (binOp .rem 109 (.int .u64 (n : Nat)) (.int .u64 (d : Nat))) w = .ok (.int .u64 (v : Nat)) w := by
  rw [← Int.tmod_eq_emod_of_nonneg (by omega)] at hv
  have hdz : ((d : Int) == 0) = false := by simp;omega
  have hdn : ¬ d = 0 := by omega
  simp [go_sem, *]
theorem wrap_u64 {k : Nat} (h : k ≤ 18446744073709551615) : IntKind.u64.wrap (k : Int) = k := by simp [IntKind.wrap,IntKind.bits,IntKind.signed];omega
structure LRows (base gu gv gq L n M cu cv : Nat) (u V qq : List Nat) (w0 w : World) : Prop where
  u : w.ownsRow base 118 1 (.slice (some ⟨gu,0,none⟩) L cu) L (cells32 u)
  v : w.ownsRow base 118 1 (.slice (some ⟨gv,0,none⟩) n cv) n (cells32 V)
  q : w.ownsRow base 118 1 (.slice (some ⟨gq,0,none⟩) M M) M (cells32 qq)
  b : Below base w0 w
theorem LRows.drew {base gu gv gq L n M cu cv : Nat} {u V qq : List Nat} {w0 w : World} (h : LRows base gu gv gq L n M cu cv u V qq w0 w) : LRows base gu gv gq L n M cu cv u V qq w0 w.drew :=
  ⟨owns_to h.u (Below.refl _ _).drew,owns_to h.v (Below.refl _ _).drew,owns_to h.q (Below.refl _ _).drew,h.b.drew⟩
theorem LRows.drewN {base gu gv gq L n M cu cv : Nat} {u V qq : List Nat} {w0 w : World} (h : LRows base gu gv gq L n M cu cv u V qq w0 w) (m : Nat) : LRows base gu gv gq L n M cu cv u V qq w0 (w.drewN m) := by
  induction m with
  | zero => exact h
  | succ m ih => exact ih.drew
theorem LRows.uc {base gu gv gq L n M cu cv : Nat} {u V qq : List Nat} {w0 w : World} (h : LRows base gu gv gq L n M cu cv u V qq w0 w) {k x : Nat} (hk : k < L) (hl : u.length = L) (hx : gr u k = x) : w.cell? ⟨gu,k,none⟩ = some (.int .u32 (x : Nat)) := by
  subst hx;rw [h.u.cellAt _ (by omega)];exact cells32_get (by omega)
theorem LRows.vc {base gu gv gq L n M cu cv : Nat} {u V qq : List Nat} {w0 w : World} (h : LRows base gu gv gq L n M cu cv u V qq w0 w) {k x : Nat} (hk : k < n) (hl : V.length = n) (hx : gr V k = x) : w.cell? ⟨gv,k,none⟩ = some (.int .u32 (x : Nat)) := by
  subst hx;rw [h.v.cellAt _ (by omega)];exact cells32_get (by omega)
theorem LRows.qc {base gu gv gq L n M cu cv : Nat} {u V qq : List Nat} {w0 w : World} (h : LRows base gu gv gq L n M cu cv u V qq w0 w) {k : Nat} (hk : k < M) (hl : qq.length = M) : w.cell? ⟨gq,k,none⟩ = some (.int .u32 (gr qq k : Nat)) := by
  rw [h.q.cellAt _ (by omega)];exact cells32_get (by omega)
theorem LRows.su {base gu gv gq L n M cu cv : Nat} {u V qq : List Nat} {w0 w : World} (h : LRows base gu gv gq L n M cu cv u V qq w0 w) (h1 : gu ≠ gv) (h2 : gu ≠ gq) (h3 : base ≤ gu) (k x : Nat) : LRows base gu gv gq L n M cu cv (u.set k x) V qq w0 (w.setCell ⟨gu,k,none⟩ (.int .u32 (x : Nat))) := by
  have hst := h.u.stored k (.int .u32 (x : Nat))
  rw [cells32_set] at hst
  exact ⟨hst.1,owns_set_other h.v (by simp [Value.ownBlock];omega) _,owns_set_other h.q (by simp [Value.ownBlock];omega) _,h.b.setCell (p := ⟨gu,k,none⟩) h3 _⟩
theorem LRows.sq {base gu gv gq L n M cu cv : Nat} {u V qq : List Nat} {w0 w : World} (h : LRows base gu gv gq L n M cu cv u V qq w0 w) (h1 : gu ≠ gq) (h2 : gv ≠ gq) (h3 : base ≤ gq) (k x : Nat) : LRows base gu gv gq L n M cu cv u V (qq.set k x) w0 (w.setCell ⟨gq,k,none⟩ (.int .u32 (x : Nat))) := by
  have hst := h.q.stored k (.int .u32 (x : Nat))
  rw [cells32_set] at hst
  exact ⟨owns_set_other h.u (by simp [Value.ownBlock];omega) _,owns_set_other h.v (by simp [Value.ownBlock];omega) _,hst.1,h.b.setCell (p := ⟨gq,k,none⟩) h3 _⟩
theorem long_round (S : Nat) (V u qq : List Nat) (gu gv gq L n M cu cv j base : Nat) (wr w0 : World) (hVc : Canon V) (hVn : V.length = n) (hn2 : 2 ≤ n) (hL : L ≤ 2000000000) (hLM : M + n = L) (hcu : L ≤ cu)
    (hI : LongInv S (val V) n L u qq (j + 1)) (hj : j + 1 ≤ M) (hne1 : gu ≠ gv) (hne2 : gu ≠ gq) (hne3 : gv ≠ gq) (hb1 : base ≤ gu) (hb2 : base ≤ gq)
    (hu : wr.ownsRow base 118 1 (.slice (some ⟨gu,0,none⟩) L cu) L (cells32 u)) (hv : wr.ownsRow base 118 1 (.slice (some ⟨gv,0,none⟩) n cv) n (cells32 V)) (hq : wr.ownsRow base 118 1 (.slice (some ⟨gq,0,none⟩) M M) M (cells32 qq)) (hB : Below base w0 wr)
    (k0 k1 k5 k6 k23 k24 k25 k26 k27 k28 k29 k30 k31 k32 k33 k34 k35 k36 k37 k38 k39 k40 k41 k42 k43 k44 k45 k46 k47 k48 k49 k50 k51 k52 k53 k54 k55 k56 k57 k58 k59 k60 k61 k62 k63 : Value) (Q : Exit → Act → World → Prop)
    (hQ : ∀ (s11 s12 s13 s14 s15 s16 s17 s18 s19 s20 s21 s22 s64 s65 s66 s67 s68 s69 s70 s71 s72 s73 s74 s75 s76 s77 s78 s79 s80 s81 s82 s83 s84 s85 s86 s87 s88 s89 s90 s91 s92 s93 s94 s95 s96 s97 s98 s99 s100 s101 s102 s103 s104 s105 s106 s107 s108 s109 s110 s111 s112 s113 s114 s115 s116 s117 s118 s119 s120 s121 s122 s123 s124 s125 s126 s127 s128 s129 s130 s131 s132 s133 s134 s135 s136 s137 s138 s139 s140 s141 s142 s143 s144 s145 s146 s147 s148 s149 s150 s151 s152 s153 s154 s155 s156 s157 s158 s159 s160 s161 s162 s163 s164 s165 s166 s167 s168 s169 s170 s171 s172 s173 s174 s175 s176 s177 s178 s179 s180 s181 s182 s183 s184 s185 s186 s187 s188 s189 s190 s191 s192 s193 s194 s195 s196 s197 s198 s199 s200 s201 s202 s203 s204 s205 s206 s207 s208 s209 s210 s211 s212 s213 s214 s215 s216 s217 s218 s219 s220 s221 s222 s223 s224 s225 s226 s227 s228 s229 s230 s231 s232 s233 s234 s235 s236 s237 s238 s239 s240 s241 s242 s243 s244 s245 s246 s247 s248 s249 s250 s251 s252 s253 : Value) (u' qq' : List Nat) (w' : World),LongInv S (val V) n L u' qq' j → w'.ownsRow base 118 1 (.slice (some ⟨gu,0,none⟩) L cu) L (cells32 u') → w'.ownsRow base 118 1 (.slice (some ⟨gv,0,none⟩) n cv) n (cells32 V) → w'.ownsRow base 118 1 (.slice (some ⟨gq,0,none⟩) M M) M (cells32 qq') → Below base w0 w' →
      Q .normal ⟨#[k0,k1,undef,undef,.slice (some ⟨gq,0,none⟩) M M,k5,k6,(.slice (some ⟨gu,0,none⟩) L cu),(.slice (some ⟨gv,0,none⟩) n cv),.int .i64 (n : Nat),.int .i64 ((j : Int) - 1),s11,s12,s13,s14,s15,s16,s17,s18,s19,s20,s21,s22,k23,k24,k25,k26,k27,k28,k29,k30,k31,k32,k33,k34,k35,k36,k37,k38,k39,k40,k41,k42,k43,k44,k45,k46,k47,k48,k49,k50,k51,k52,k53,k54,k55,k56,k57,k58,k59,k60,k61,k62,k63,s64,s65,s66,s67,s68,s69,s70,s71,s72,s73,s74,s75,s76,s77,s78,s79,s80,s81,s82,s83,s84,s85,s86,s87,s88,s89,s90,s91,s92,s93,s94,s95,s96,s97,s98,s99,s100,s101,s102,s103,s104,s105,s106,s107,s108,s109,s110,s111,s112,s113,s114,s115,s116,s117,s118,s119,s120,s121,s122,s123,s124,s125,s126,s127,s128,s129,s130,s131,s132,s133,s134,s135,s136,s137,s138,s139,s140,s141,s142,s143,s144,s145,s146,s147,s148,s149,s150,s151,s152,s153,s154,s155,s156,s157,s158,s159,s160,s161,s162,s163,s164,s165,s166,s167,s168,s169,s170,s171,s172,s173,s174,s175,s176,s177,s178,s179,s180,s181,s182,s183,s184,s185,s186,s187,s188,s189,s190,s191,s192,s193,s194,s195,s196,s197,s198,s199,s200,s201,s202,s203,s204,s205,s206,s207,s208,s209,s210,s211,s212,s213,s214,s215,s216,s217,s218,s219,s220,s221,s222,s223,s224,s225,s226,s227,s228,s229,s230,s231,s232,s233,s234,s235,s236,s237,s238,s239,s240,s241,s242,s243,s244,s245,s246,s247,s248,s249,s250,s251,s252,s253,undef,undef,undef,undef,undef,undef,undef,undef,undef,undef,undef,undef],[]⟩ w')
    (s11 s12 s13 s14 s15 s16 s17 s18 s19 s20 s21 s22 s64 s65 s66 s67 s68 s69 s70 s71 s72 s73 s74 s75 s76 s77 s78 s79 s80 s81 s82 s83 s84 s85 s86 s87 s88 s89 s90 s91 s92 s93 s94 s95 s96 s97 s98 s99 s100 s101 s102 s103 s104 s105 s106 s107 s108 s109 s110 s111 s112 s113 s114 s115 s116 s117 s118 s119 s120 s121 s122 s123 s124 s125 s126 s127 s128 s129 s130 s131 s132 s133 s134 s135 s136 s137 s138 s139 s140 s141 s142 s143 s144 s145 s146 s147 s148 s149 s150 s151 s152 s153 s154 s155 s156 s157 s158 s159 s160 s161 s162 s163 s164 s165 s166 s167 s168 s169 s170 s171 s172 s173 s174 s175 s176 s177 s178 s179 s180 s181 s182 s183 s184 s185 s186 s187 s188 s189 s190 s191 s192 s193 s194 s195 s196 s197 s198 s199 s200 s201 s202 s203 s204 s205 s206 s207 s208 s209 s210 s211 s212 s213 s214 s215 s216 s217 s218 s219 s220 s221 s222 s223 s224 s225 s226 s227 s228 s229 s230 s231 s232 s233 s234 s235 s236 s237 s238 s239 s240 s241 s242 s243 s244 s245 s246 s247 s248 s249 s250 s251 s252 s253 : Value) :
    longBody.wp Tryz.prog Q ⟨#[k0,k1,undef,undef,.slice (some ⟨gq,0,none⟩) M M,k5,k6,(.slice (some ⟨gu,0,none⟩) L cu),(.slice (some ⟨gv,0,none⟩) n cv),.int .i64 (n : Nat),.int .i64 (j : Int),s11,s12,s13,s14,s15,s16,s17,s18,s19,s20,s21,s22,k23,k24,k25,k26,k27,k28,k29,k30,k31,k32,k33,k34,k35,k36,k37,k38,k39,k40,k41,k42,k43,k44,k45,k46,k47,k48,k49,k50,k51,k52,k53,k54,k55,k56,k57,k58,k59,k60,k61,k62,k63,s64,s65,s66,s67,s68,s69,s70,s71,s72,s73,s74,s75,s76,s77,s78,s79,s80,s81,s82,s83,s84,s85,s86,s87,s88,s89,s90,s91,s92,s93,s94,s95,s96,s97,s98,s99,s100,s101,s102,s103,s104,s105,s106,s107,s108,s109,s110,s111,s112,s113,s114,s115,s116,s117,s118,s119,s120,s121,s122,s123,s124,s125,s126,s127,s128,s129,s130,s131,s132,s133,s134,s135,s136,s137,s138,s139,s140,s141,s142,s143,s144,s145,s146,s147,s148,s149,s150,s151,s152,s153,s154,s155,s156,s157,s158,s159,s160,s161,s162,s163,s164,s165,s166,s167,s168,s169,s170,s171,s172,s173,s174,s175,s176,s177,s178,s179,s180,s181,s182,s183,s184,s185,s186,s187,s188,s189,s190,s191,s192,s193,s194,s195,s196,s197,s198,s199,s200,s201,s202,s203,s204,s205,s206,s207,s208,s209,s210,s211,s212,s213,s214,s215,s216,s217,s218,s219,s220,s221,s222,s223,s224,s225,s226,s227,s228,s229,s230,s231,s232,s233,s234,s235,s236,s237,s238,s239,s240,s241,s242,s243,s244,s245,s246,s247,s248,s249,s250,s251,s252,s253,undef,undef,undef,undef,undef,undef,undef,undef,undef,undef,undef,undef],[]⟩ wr := by
  conv => arg 2;whnf
  have hG := Lib.hid (hI.digs hVc hVn hn2)
  have lowu := hI.low
  have lenu := hI.lu
  have bh : gr u (j + n) ≤ 999999999 := gr_le lowu _
  have b1 : gr u (j + n - 1) ≤ 999999999 := gr_le lowu _
  have b2 : gr u (j + n - 2) ≤ 999999999 := gr_le lowu _
  have c1 : gr V (n - 1) ≤ 999999999 := gr_le hVc.1 _
  have c2 : gr V (n - 2) ≤ 999999999 := gr_le hVc.1 _
  have c0 : 1 ≤ gr V (n - 1) := hG.out.v1p
  have hRu : Rd wr (.slice (some ⟨gu,0,none⟩) L cu) u := by have := Rd.of_owns (l := u) (by rw [lenu];exact hu);exact this
  have l1 : wr.cell? ⟨gu,j + n - 1,none⟩ = some (.int .u32 (gr u (j + n - 1) : Nat)) := by
    rw [hu.cellAt _ (by omega)];exact cells32_get (by omega)
  have l2 : wr.cell? ⟨gu,j + n - 2,none⟩ = some (.int .u32 (gr u (j + n - 2) : Nat)) := by
    rw [hu.cellAt _ (by omega)];exact cells32_get (by omega)
  have m1 : wr.cell? ⟨gv,n - 1,none⟩ = some (.int .u32 (gr V (n - 1) : Nat)) := by
    rw [hv.cellAt _ (by omega)];exact cells32_get (by omega)
  have m2 : wr.cell? ⟨gv,n - 2,none⟩ = some (.int .u32 (gr V (n - 2) : Nat)) := by
    rw [hv.cellAt _ (by omega)];exact cells32_get (by omega)
  have hjn : ((j : Int) + n).toNat = j + n := by omega
  have hat := fun W h => at_any (.slice (some ⟨gu,0,none⟩) L cu) u ((j : Int) + n) W h (by omega)
  rw [hjn] at hat
  obtain ⟨xh,hxh⟩ : ∃ xh,gr u (j + n) = xh := ⟨_,rfl⟩
  obtain ⟨x1,hx1⟩ : ∃ x1,gr u (j + n - 1) = x1 := ⟨_,rfl⟩
  obtain ⟨x2,hx2⟩ : ∃ x2,gr u (j + n - 2) = x2 := ⟨_,rfl⟩
  obtain ⟨y1,hy1⟩ : ∃ y1,gr V (n - 1) = y1 := ⟨_,rfl⟩
  obtain ⟨y2,hy2⟩ : ∃ y2,gr V (n - 2) = y2 := ⟨_,rfl⟩
  rw [hxh] at hat bh hG
  rw [hx1] at b1 l1 hG
  rw [hx2] at b2 l2 hG
  rw [hy1] at c1 c0 m1 hG
  rw [hy2] at c2 m2 hG
  have HXH := Lib.hid (And.intro hxh (And.intro hx1 (And.intro hx2 (And.intro hy1 hy2))))
  have HR0 := Lib.hid (LRows.mk hu hv hq hB)
  have HAT := Lib.hid hat
  have HI := Lib.hid hI
  have HVC := Lib.hid hVc
  have HVN := Lib.hid hVn
  have HQ := Lib.hid hQ
  have HL := Lib.hid lowu
  have HLN := Lib.hid lenu
  clear hxh hx1 hx2 hy1 hy2 hat hI hVc hVn hQ lowu lenu hjn
  have t1 : ((j : Int) + n - 1).toNat = j + n - 1 := by omega
  have t2 : ((n : Int) - 1).toNat = n - 1 := by omega
  have rd1 := hRu.drew
  have HR1 := Lib.hid hRu
  have HR2 := Lib.hid rd1
  clear hRu rd1
  obtain ⟨T,hT0⟩ : ∃ T,xh * 1000000000 + x1 = T := ⟨_,rfl⟩
  have hT : (xh : Int) * 1000000000 + x1 = (T : Nat) := by omega
  have hT1 : T ≤ 999999999999999999 := by omega
  have hq0 := hG.out.start
  have hTB : xh * BB + x1 = T := by rw [BB_eq];exact hT0
  rw [hTB] at hq0
  have hgb : T / y1 ≤ 2000000000 := by have := hq0.le hG.out;rw [BB_eq] at this;omega
  have hrb : T % y1 ≤ 999999998 := by have := Nat.mod_lt T (show 0 < y1 by omega);omega
  obtain ⟨g0,hg0⟩ : ∃ g0,T / y1 = g0 := ⟨_,rfl⟩
  obtain ⟨r0,hr0⟩ : ∃ r0,T % y1 = r0 := ⟨_,rfl⟩
  have i1 : (T : Int) / y1 = g0 := by rw [← hg0];simp
  have i2 : (T : Int) % y1 = r0 := by rw [← hr0];simp
  rw [hg0] at hgb hq0
  rw [hr0] at hrb hq0
  have w1 : IntKind.u64.wrap (g0 : Int) = g0 := by exact wrap_u64 (by omega)
  have w2 : IntKind.u64.wrap (r0 : Int) = r0 := by exact wrap_u64 (by omega)
  have HG0 := Lib.hid hq0
  have HT0 := Lib.hid hT0
  have HTB := Lib.hid hTB
  clear hq0 hT0 hTB hg0 hr0
  go_wp2_with fail
  go_quiet ((go_at_call 170;exact Calls.quiet_of_same ((HAT.out _ (by first | exact HR1.out | exact HR2.out)).mono fun e w' h => ⟨h.1,h.2.symm⟩)))
  go_wp2_with fail
  go_quiet (fail)
  go_upto_block 2 with (fail)
  go_cut [12] from 100 to 135 (fun g wx => ∃ gg : Nat,g = .int .u64 (gg : Nat) ∧ gg ≤ 999999999 ∧ Hid (Guess (val u) (BB ^ j * val V) gg) ∧ Hid (LRows base gu gv gq L n M cu cv u V qq w0 wx))
  case first =>
    go_wp2_with fail
    go_loopg [12,13,100,101,102,103,104,105,106,107,108,109,110,111,112,113,114,115,116,117,118,119,120,121,122,123,124,125,126,127,128,129,130,131,132,133,134,135] g0 (fun k g r _ _ _ _ _ _ _ _ _ _ _ _ _ _ _ _ _ _ _ _ _ _ _ _ _ _ _ _ _ _ _ _ _ _ _ _ wr => g = .int .u64 (k : Nat) ∧ k ≤ 2000000000 ∧ ∃ rr : Nat,r = .int .u64 (rr : Nat) ∧ rr ≤ 999999999 ∧ Hid (GInv (val u) (BB ^ j * val V) y1 xh x1 k rr) ∧ Hid (LRows base gu gv gq L n M cu cv u V qq w0 wr))
    case atStart => exact ⟨rfl,hgb,r0,congrArg (Value.int IntKind.u64) i2,by omega,HG0,Lib.hid ((HR0.out.drewN _).drewN _)⟩
    case round =>
      obtain ⟨rfl,hk,rr,rfl,hrr,HG,HR⟩ := hrel
      clear l1 l2 m1 m2
      have HXB := HXH.out
      have t3 : ((j : Int) + n - 2).toNat = j + n - 2 := by omega
      have t4 : ((n : Int) - 2).toNat = n - 2 := by omega
      have l2 := HR.out.uc (k := j + n - 2) (by omega) HLN.out HXB.2.2.1
      have m1 := HR.out.vc (k := n - 1) (by omega) HVN.out HXB.2.2.2.1
      have m2 := HR.out.vc (k := n - 2) (by omega) HVN.out HXB.2.2.2.2
      clear HXB
      by_cases hb : 1000000000 ≤ gk
      · have hd : decide ((1000000000 : Int) ≤ (gk : Int)) = true := by simp;omega
        have hg1 : 1 ≤ gk := by omega
        have HBB := Lib.hid hb
        clear hb
        by_cases hb2 : 1000000000 ≤ rr + y1
        · have hd2 : decide ((1000000000 : Int) ≤ rr + y1) = true := by simp;omega
          have HB2 := Lib.hid hb2
          clear hb2
          go_wp2_with fail
          go_quiet (fail)
          go_wp2_with fail
          go_meet
          obtain ⟨s1,s2⟩ := GInv.step hG.out HG.out (.inl (by rw [BB_eq];exact HBB.out))
          obtain ⟨s3,s4⟩ := GInv.brk hG.out s2 (by rw [BB_eq];exact HB2.out)
          rw [BB_eq] at s3
          exact ⟨gk - 1,by rw [Int.ofNat_sub hg1];rfl,by omega,Lib.hid (GInv.done hG.out s2 (by rw [BB_eq];exact s3) s4),Lib.hid (HR.out.drewN _)⟩
        · have hd2 : decide ((1000000000 : Int) ≤ rr + y1) = false := by simp;omega
          have hb3 : rr + y1 ≤ 999999999 := by omega
          have HB2 := Lib.hid hb2
          clear hb2
          go_wp2_with fail
          go_quiet (fail)
          go_wp2_with fail
          go_roundg (gk - 1)
          case measure => omega
          case rel =>
            obtain ⟨s1,s2⟩ := GInv.step hG.out HG.out (.inl (by rw [BB_eq];exact HBB.out))
            exact ⟨by rw [Int.ofNat_sub hg1];rfl,by omega,rr + y1,by simp,hb3,Lib.hid s2,Lib.hid (HR.out.drewN _)⟩
      · have hd : decide ((1000000000 : Int) ≤ (gk : Int)) = false := by simp;omega
        have hb' : gk ≤ 999999999 := by omega
        clear hb
        have hgpb : gk * y2 ≤ 999999999 * 999999999 := Nat.mul_le_mul hb' c2
        obtain ⟨gp,hgp0⟩ : ∃ gp,gk * y2 = gp := ⟨_,rfl⟩
        have hgp : (gk : Int) * y2 = (gp : Nat) := by rw [← hgp0];simp
        rw [hgp0] at hgpb
        by_cases hc : rr * 1000000000 + x2 < gp
        · have hdc : decide ((rr : Int) * 1000000000 + x2 < gp) = true := by simp;omega
          have hg1 : 1 ≤ gk := by
            rcases Nat.eq_zero_or_pos gk with h | h
            · subst h;simp at hgp0;omega
            · exact h
          have HBB := Lib.hid (And.intro hc hgp0)
          clear hc hgp0
          by_cases hb2 : 1000000000 ≤ rr + y1
          · have hd2 : decide ((1000000000 : Int) ≤ rr + y1) = true := by simp;omega
            have HB2 := Lib.hid hb2
            clear hb2
            go_wp2_with fail
            go_quiet (fail)
            go_wp2_with fail
            go_meet
            obtain ⟨s1,s2⟩ := GInv.step hG.out HG.out (.inr (by rw [BB_eq,HBB.out.2];exact HBB.out.1))
            obtain ⟨s3,s4⟩ := GInv.brk hG.out s2 (by rw [BB_eq];exact HB2.out)
            rw [BB_eq] at s3
            exact ⟨gk - 1,by rw [Int.ofNat_sub hg1];rfl,by omega,Lib.hid (GInv.done hG.out s2 (by rw [BB_eq];exact s3) s4),Lib.hid (HR.out.drewN _)⟩
          · have hd2 : decide ((1000000000 : Int) ≤ rr + y1) = false := by simp;omega
            have hb3 : rr + y1 ≤ 999999999 := by omega
            have HB2 := Lib.hid hb2
            clear hb2
            go_wp2_with fail
            go_quiet (fail)
            go_wp2_with fail
            go_roundg (gk - 1)
            case measure => omega
            case rel =>
              obtain ⟨s1,s2⟩ := GInv.step hG.out HG.out (.inr (by rw [BB_eq,HBB.out.2];exact HBB.out.1))
              exact ⟨by rw [Int.ofNat_sub hg1];rfl,by omega,rr + y1,by simp,hb3,Lib.hid s2,Lib.hid (HR.out.drewN _)⟩
        · have hdc : decide ((rr : Int) * 1000000000 + x2 < gp) = false := by simp;omega
          have HBB := Lib.hid (And.intro hc hgp0)
          clear hc hgp0
          go_wp2_with fail
          go_quiet (fail)
          go_wp2_with fail
          go_meet
          exact ⟨gk,rfl,hb',Lib.hid (GInv.done hG.out HG.out (by rw [BB_eq];omega) (by rw [BB_eq,HBB.out.2];exact Nat.le_of_not_lt HBB.out.1)),Lib.hid (HR.out.drewN _)⟩
  case rest =>
    obtain ⟨g,rfl,hg,HGU,HR⟩ := hcut
    clear l1 l2 m1 m2 HAT HR1 HR2 HG0 hgb hrb i1 i2 w1 w2 hT hT1 HT0 HTB HR0
    go_wp2_with fail
    go_loopw [14,15,16,17,18,137,138,139,140,141,142,143,144,145,146,147,148,149,150,151,152,153,154,155,156,157,158,159,160,161,162,163,164,165,166,167,168,169,170,171,172,173,174,175] (fun b c _ _ _ i _ _ _ _ _ _ _ _ _ _ _ _ _ _ _ _ _ _ _ _ _ _ _ _ _ _ _ _ _ _ _ _ _ _ _ _ _ _ wr => ∃ (k bo ca : Nat) (o : List Nat),i = .int .i64 (k : Nat) ∧ k ≤ n ∧ b = .int .i64 (bo : Nat) ∧ c = .int .u64 (ca : Nat) ∧ Hid (SubInv u V o L g j k bo ca) ∧ Hid (LRows base gu gv gq L n M cu cv o V qq w0 wr)) (fun b c _ _ _ i _ _ _ _ _ _ _ _ _ _ _ _ _ _ _ _ _ _ _ _ _ _ _ _ _ _ _ _ _ _ _ _ _ _ _ _ _ _ wr => n - (intOf i).toNat)
    case atStart => exact ⟨0,0,0,u,rfl,by omega,rfl,rfl,Lib.hid (SubInv.start HLN.out HL.out),HR⟩
    case round =>
      obtain ⟨k,bo,ca,o,rfl,hk,rfl,rfl,HS,HR⟩ := hrel
      have hbo := HS.out.bor
      have hca : ca ≤ 999999999 := by have := HS.out.car;omega
      have hol := HS.out.len
      by_cases hkn : k < n
      · have hv1 : gr V k ≤ 999999999 := gr_le HVC.out.1 _
        have hv2 : gr o (j + k) ≤ 999999999 := gr_le HS.out.low _
        obtain ⟨y,hy⟩ : ∃ y,gr V k = y := ⟨_,rfl⟩
        obtain ⟨x,hx⟩ : ∃ x,gr o (j + k) = x := ⟨_,rfl⟩
        rw [hy] at hv1
        rw [hx] at hv2
        have cl1 := HR.out.vc hkn HVN.out hy
        have cl2 := HR.out.uc (k := j + k) (by omega) hol hx
        have cf := HR.out.u.frozenAt (j + k)
        have hti : ((k : Int) + j).toNat = j + k := by omega
        have hgpb : g * y ≤ 999999999 * 999999999 := Nat.mul_le_mul hg hv1
        obtain ⟨gp,hgp0⟩ : ∃ gp,g * y = gp := ⟨_,rfl⟩
        have hgp : (g : Int) * y = (gp : Nat) := by rw [← hgp0];simp
        rw [hgp0] at hgpb
        obtain ⟨r,hr⟩ : ∃ r,(gp + ca) % 1000000000 = r := ⟨_,rfl⟩
        obtain ⟨t,ht⟩ : ∃ t,(gp + ca) / 1000000000 = t := ⟨_,rfl⟩
        have hr2 : ((gp : Int) + ca) % 1000000000 = r := by omega
        have ht2 : ((gp : Int) + ca) / 1000000000 = t := by omega
        have hr3 : r ≤ 999999999 := by omega
        have ht3 : t ≤ 999999999 := by omega
        by_cases hc : x < bo + r
        · obtain ⟨d,hd0⟩ : ∃ d,x + 1000000000 - bo - r = d := ⟨_,rfl⟩
          have hd : (x : Int) - bo - r + 1000000000 = d := by omega
          have hd1 : d ≤ 999999999 := by omega
          have hdc : decide ((x : Int) - bo - r < 0) = true := by simp;omega
          have HN := Lib.hid (HS.out.step (d := d) (bo' := 1) (by omega) (by rw [hy];omega) (by omega) (by omega) (by omega) (by rw [hx,hy,hgp0,hr];omega))
          rw [hy,hgp0,ht] at HN
          have HC := Lib.hid hc
          clear hc hd0 hr ht hgp0 hx hy hol
          go_wp2_with fail
          go_roundw
          case rel => exact ⟨k + 1,1,t,_,by go_num,by omega,rfl,congrArg (Value.int IntKind.u64) ht2,HN,Lib.hid (HR.out.su hne1 hne2 hb1 _ _)⟩
          case measure => simp [intOf];omega
        · obtain ⟨d,hd0⟩ : ∃ d,x - bo - r = d := ⟨_,rfl⟩
          have hd : (x : Int) - bo - r = d := by omega
          have hd1 : d ≤ 999999999 := by omega
          have HN := Lib.hid (HS.out.step (d := d) (bo' := 0) (by omega) (by rw [hy];omega) (by omega) (by omega) (by omega) (by rw [hx,hy,hgp0,hr];omega))
          rw [hy,hgp0,ht] at HN
          clear hc hd0 hr ht hgp0 hx hy hol
          go_wp2_with fail
          go_roundw
          case rel => exact ⟨k + 1,0,t,_,by go_num,by omega,rfl,congrArg (Value.int IntKind.u64) ht2,HN,Lib.hid (HR.out.su hne1 hne2 hb1 _ _)⟩
          case measure => simp [intOf];omega
      · obtain rfl : k = n := by omega
        clear hkn
        have hsx : gr o (j + k) = xh := by rw [HS.out.same _ (by omega)];exact HXH.out.1
        have cl2 := HR.out.uc (k := j + k) (by omega) hol hsx
        have cf := HR.out.u.frozenAt (j + k)
        have hql : qq.length = M := by have := HI.out.lq;omega
        have cq := HR.out.qc (k := j) (by omega) hql
        have cqf := HR.out.q.frozenAt j
        have hti : ((j : Int) + k).toNat = j + k := by omega
        by_cases hc : bo + ca ≤ xh
        · have hN := long_right HI.out HVC.out.1 HVN.out (by omega) HGU.out (by rw [BB_eq];omega) HS.out (by rw [HXH.out.1];exact hc)
          rw [HXH.out.1] at hN
          have hz : (xh : Int) - bo - ca = 0 := by omega
          have HN := Lib.hid hN
          have HC := Lib.hid hc
          have HSX := Lib.hid hsx
          have HQL := Lib.hid hql
          have HOL := Lib.hid hol
          clear hc hN hsx hql hol
          go_wp2_with fail
          have hlr := (HR.out.su hne1 hne2 hb1 (j + k) 0).sq hne2 hne3 hb2 j g
          exact HQ.out _ _ _ _ _ _ _ _ _ _ _ _ _ _ _ _ _ _ _ _ _ _ _ _ _ _ _ _ _ _ _ _ _ _ _ _ _ _ _ _ _ _ _ _ _ _ _ _ _ _ _ _ _ _ _ _ _ _ _ _ _ _ _ _ _ _ _ _ _ _ _ _ _ _ _ _ _ _ _ _ _ _ _ _ _ _ _ _ _ _ _ _ _ _ _ _ _ _ _ _ _ _ _ _ _ _ _ _ _ _ _ _ _ _ _ _ _ _ _ _ _ _ _ _ _ _ _ _ _ _ _ _ _ _ _ _ _ _ _ _ _ _ _ _ _ _ _ _ _ _ _ _ _ _ _ _ _ _ _ _ _ _ _ _ _ _ _ _ _ _ _ _ _ _ _ _ _ _ _ _ _ _ _ _ _ _ _ _ _ _ _ _ _ _ _ _ _ _ _ _ _ _  _ _ _ HN.out.2 hlr.u hlr.v hlr.q hlr.b
        · have hN := long_wrong (c := 1) (o2 := []) HI.out HVC.out.1 HVN.out (by omega) HGU.out (by rw [BB_eq];omega) HS.out (by rw [HXH.out.1];omega)
          rw [HXH.out.1] at hN
          have hg1 : 1 ≤ g := hN.2.1
          have hz : (xh : Int) - bo - ca = -1 := by omega
          have HC := Lib.hid hc
          have HSX := Lib.hid hsx
          have HQL := Lib.hid hql
          have HOL := Lib.hid hol
          clear hc hN hsx hql
          go_wp2_with fail
          have hLR := HR.out.su hne1 hne2 hb1 (j + k) 999999999
          have HST := Lib.hid (AddInv.start (v := V) (j := j) (u := o.set (j + k) 999999999) (L := L) (by simpa using hol) (low_set HS.out.low (by omega)))
          clear hol cl2 cf cq cqf
          obtain ⟨n,hkn⟩ : ∃ n,n = k := ⟨_,rfl⟩
          subst hkn
          go_loopw [20,21,22,201,202,203,204,205,206,207,208,209,210,211,212,213,214,215,216,217,218,219,220,221,222,223,224,225,226,227] (fun c _ _ i _ _ _ _ _ _ _ _ _ _ _ _ _ _ _ _ _ _ _ _ _ _ _ _ _ _ wr => ∃ (k ca : Nat) (o2 : List Nat),i = .int .i64 (k : Nat) ∧ k ≤ n ∧ c = .int .u32 (ca : Nat) ∧ Hid (AddInv (o.set (j + n) 999999999) V o2 L j k ca) ∧ Hid (LRows base gu gv gq L n M cu cv o2 V qq w0 wr)) (fun c _ _ i _ _ _ _ _ _ _ _ _ _ _ _ _ _ _ _ _ _ _ _ _ _ _ _ _ _ wr => n - (intOf i).toNat)
          case atStart => exact ⟨0,0,_,rfl,by omega,rfl,HST,Lib.hid hLR⟩
          case round =>
            obtain ⟨k,c,o2,rfl,hk2,rfl,HA,HR⟩ := hrel
            have hca2 := HA.out.car
            have hol := HA.out.len
            by_cases hkn : k < n
            · have hv1 : gr V k ≤ 999999999 := gr_le HVC.out.1 _
              have hv2 : gr o2 (j + k) ≤ 999999999 := gr_le HA.out.low _
              obtain ⟨y,hy⟩ : ∃ y,gr V k = y := ⟨_,rfl⟩
              obtain ⟨x,hx⟩ : ∃ x,gr o2 (j + k) = x := ⟨_,rfl⟩
              rw [hy] at hv1
              rw [hx] at hv2
              have cl1 := HR.out.vc hkn HVN.out hy
              have cl2 := HR.out.uc (k := j + k) (by omega) hol hx
              have cf := HR.out.u.frozenAt (j + k)
              have hti : ((k : Int) + j).toNat = j + k := by omega
              by_cases hc : 1000000000 ≤ x + y + c
              · obtain ⟨d,hd0⟩ : ∃ d,x + y + c - 1000000000 = d := ⟨_,rfl⟩
                have hd : (x : Int) + y + c - 1000000000 = d := by omega
                have hd1 : d ≤ 999999999 := by omega
                have hdc : decide ((1000000000 : Int) ≤ x + y + c) = true := by simp;omega
                have HN := Lib.hid (HA.out.step (d := d) (c' := 1) (by omega) (by omega) (by omega) (by rw [hx,hy];omega))
                have HC2 := Lib.hid hc
                clear hc hd0 hx hy hol
                go_wp2_with fail
                go_quiet (fail)
                go_wp2_with fail
                go_roundw
                case rel => exact ⟨k + 1,1,_,by go_num,by omega,rfl,HN,Lib.hid (LRows.su (HR.out.drewN _) hne1 hne2 hb1 _ _)⟩
                case measure => simp [intOf];omega
              · obtain ⟨d,hd0⟩ : ∃ d,x + y + c = d := ⟨_,rfl⟩
                have hd : (x : Int) + y + c = d := by omega
                have hd1 : d ≤ 999999999 := by omega
                have hdc : decide ((1000000000 : Int) ≤ d) = false := by simp;omega
                have HN := Lib.hid (HA.out.step (d := d) (c' := 0) (by omega) (by omega) (by omega) (by rw [hx,hy];omega))
                clear hc hd0 hx hy hol
                go_wp2_with fail
                go_quiet (fail)
                go_wp2_with fail
                go_roundw
                case rel => exact ⟨k + 1,0,_,by go_num,by omega,rfl,HN,Lib.hid (LRows.su (HR.out.drewN _) hne1 hne2 hb1 _ _)⟩
                case measure => simp [intOf];omega
            · obtain rfl : k = n := by omega
              clear hkn
              have hN := (long_wrong HI.out HVC.out.1 HVN.out (by omega) HGU.out (by rw [BB_eq];omega) HS.out (by rw [HXH.out.1];have := HC.out;omega)).2.2 HA.out
              obtain ⟨rfl,e2,e3⟩ := hN
              have cl2 := HR.out.uc (k := j + k) (by omega) hol e2
              have cf := HR.out.u.frozenAt (j + k)
              have cq := HR.out.qc (k := j) (by omega) HQL.out
              have cqf := HR.out.q.frozenAt j
              have HN := Lib.hid e3
              have HE := Lib.hid e2
              have HOL2 := Lib.hid hol
              clear e2 e3 hol
              go_wp2_with fail
              have hlr := (HR.out.su hne1 hne2 hb1 (j + k) 0).sq hne2 hne3 hb2 j (g - 1)
              rw [show ((g - 1 : Nat) : Int) = (g : Int) - 1 from Int.ofNat_sub hg1] at hlr
              exact HQ.out _ _ _ _ _ _ _ _ _ _ _ _ _ _ _ _ _ _ _ _ _ _ _ _ _ _ _ _ _ _ _ _ _ _ _ _ _ _ _ _ _ _ _ _ _ _ _ _ _ _ _ _ _ _ _ _ _ _ _ _ _ _ _ _ _ _ _ _ _ _ _ _ _ _ _ _ _ _ _ _ _ _ _ _ _ _ _ _ _ _ _ _ _ _ _ _ _ _ _ _ _ _ _ _ _ _ _ _ _ _ _ _ _ _ _ _ _ _ _ _ _ _ _ _ _ _ _ _ _ _ _ _ _ _ _ _ _ _ _ _ _ _ _ _ _ _ _ _ _ _ _ _ _ _ _ _ _ _ _ _ _ _ _ _ _ _ _ _ _ _ _ _ _ _ _ _ _ _ _ _ _ _ _ _ _ _ _ _ _ _ _ _ _ _ _ _ _ _ _ _ _ _  _ _ _ HN.out hlr.u hlr.v hlr.q hlr.b
end Go.Proofs.YtidfgdchcpmnfaaGreat
namespace Go.Proofs.YtidfgdchcpmnfaaGreat
open Go.RowKit
set_option maxRecDepth 1000000
set_option maxHeartbeats 4000000
set_option linter.unusedSimpArgs false
set_option linter.unusedVariables false
theorem one_rd (w : World) (s : Nat) : Rd (w.alloc (.cells #[.int .u32 (s : Nat)] 118)) (.slice (some ⟨w.heap.size,0,none⟩) 1 1) [s] := by
  refine .inr ⟨w.heap.size,0,1,rfl,by simp,by omega,by simp,fun i hi => ?_⟩
  have : i = 0 := by simp at hi;exact hi
  subst this
  simp [gr,World.cell?_alloc_at]
theorem cells32_snoc (l : List Nat) (g : Nat) : cells32 (l ++ [g]) = cells32 l ++ [.int .u32 (g : Nat)] := by simp [cells32]
theorem long_any (s t : Value) (a b : List Nat) (w : World) (hs : Rd w s a) (ht : Rd w t b) (ha : Canon a) (hb : Canon b) (la : a.length ≤ 1000000000) (hb2 : 2 ≤ b.length) (hle : val b ≤ val a) :
    Calls Tryz.prog 169 #[s,t] w fun e w' => ∃ v1 v2,e = .returned (.tuple #[v1,v2]) ∧ Rd w' v1 (dig (val a / val b)) ∧ Rd w' v2 (dig (val a % val b)) ∧ Below w.heap.size w w' := by
  obtain ⟨i0,hi,hz0,hz1,hz2⟩ := info_parts infoU32
  obtain ⟨p,c,rfl,_,_⟩ := hs.form
  obtain ⟨q,d,rfl,_,_⟩ := ht.form
  have hbn : b ≠ [] := by intro e;subst e;simp at hb2
  obtain ⟨gb,ob,rfl,hgb,hcb⟩ := ht.at hbn
  have hlb : b.length ≤ a.length := by
    have := dig_length_mono hle
    rwa [dig_val ha,dig_val hb] at this
  have htop : gr b (b.length - 1) ≤ 999999999 := gr_le hb.1 _
  have hct := hcb (b.length - 1) (by omega)
  have htp : 1 ≤ gr b (b.length - 1) := by
    have := hb.2
    rw [last_gr hbn] at this
    have : gr b (b.length - 1) ≠ 0 := by simpa using this
    omega
  generalize gr b (b.length - 1) = tp at htop hct htp
  obtain ⟨sc,hsc⟩ : ∃ sc : Nat,(1000000000 : Int) / ((tp : Int) + 1) = sc := ⟨1000000000 / (tp + 1),by simp⟩
  have hsc2 : 1000000000 / (tp + 1) = sc := by
    have : ((1000000000 / (tp + 1) : Nat) : Int) = sc := by rw [← hsc];simp
    omega
  have hsc3 : 1 ≤ sc := by rw [← hsc2];exact (Nat.le_div_iff_mul_le (by omega)).2 (by omega)
  have hsc4 : sc ≤ 500000000 := by rw [← hsc2];exact Nat.le_trans (Nat.div_le_div_left (c := 2) (by omega) (by omega)) (by omega)
  have HSC := Lib.hid hsc2
  have HCB := Lib.hid hcb
  clear hsc2 hcb
  have HA := Lib.hid ha
  have HB := Lib.hid hb
  have HLE := Lib.hid hle
  clear ha hb hle
  have hw1 : IntKind.u32.wrap (sc : Int) = sc := by simp [IntKind.wrap,IntKind.bits,IntKind.signed];omega
  have hidx : ((b.length : Int) - 1).toNat = b.length - 1 := by omega
  go_enter Tryz.func169,Tryz.ntmps169
  go_wp2_with fail
  have hs1 := hs.alloc (.cells #[.int .u32 (sc : Nat)] 118)
  have lsc : Low [sc] := Low.cons.2 ⟨by rw [BB_eq];omega,Low.nil⟩
  have vsc : val [sc] = sc := by simp [val_cons]
  refine (times_any _ _ a [sc] _ hs1 (one_rd w sc) HA.out.1 lsc la (by simp)).mono ?_
  rw [vsc]
  rintro e w1 ⟨uv,rfl,hu1,hb1⟩
  go_wp2_with fail
  have ht1 : Rd (w1.alloc (.cells #[.int .u32 (sc : Nat)] 118)) (.slice (some ⟨gb,ob,none⟩) b.length d) b := ((ht.alloc _).below hb1).alloc _
  refine (times_any _ _ b [sc] _ ht1 (one_rd w1 sc) HB.out.1 lsc (by omega) (by simp)).mono ?_
  rw [vsc]
  rintro e w2 ⟨vv,rfl,hv2,hb2'⟩
  have U0 : a.length ≤ (dig (val a * sc)).length := by
    have := dig_length_mono (show val a ≤ val a * sc from Nat.le_mul_of_pos_right _ hsc3)
    rwa [dig_val HA.out] at this
  have U1 : (dig (val a * sc)).length ≤ 1000000001 := by
    have := nsz_mul (val a) sc
    have h2 : nsz sc ≤ 1 := dig_length_le (by rw [BB_eq];omega)
    unfold nsz at this h2
    rw [dig_val HA.out] at this
    omega
  have V0 : b.length ≤ (dig (val b * sc)).length := by
    have := dig_length_mono (show val b ≤ val b * sc from Nat.le_mul_of_pos_right _ hsc3)
    rwa [dig_val HB.out] at this
  have V1 : (dig (val b * sc)).length ≤ (dig (val a * sc)).length := dig_length_mono (Nat.mul_le_mul_right _ HLE.out)
  have hz1' : w.heap.size + 1 ≤ w1.heap.size := by have := hb1.size;simpa using this
  have hz2' : w1.heap.size + 1 ≤ w2.heap.size := by have := hb2'.size;simpa using this
  obtain ⟨gu,cu,hue,hgu1,hgu2,_⟩ := owns_form hu1 (by omega)
  obtain ⟨gv,cv,hve,hgv1,hgv2,hcv⟩ := owns_form hv2 (by omega)
  rw [hue] at hu1
  rw [hve] at hv2
  rw [hue,hve]
  simp only [World.size_alloc] at hgu1 hgv1
  have hu2 := owns_to (owns_to hu1 ((Below.refl _ w1).alloc (Nat.le_refl _) (.cells #[.int .u32 (sc : Nat)] 118))) hb2'
  have hB2 : Below w.heap.size w w2 := (((Below.refl _ _).alloc (Nat.le_refl _) _).trans (hb1.mono (by simp))).trans (((Below.refl _ _).alloc (by omega) _).trans (hb2'.mono (by simp;omega)))
  have HU := Lib.hid (show val (dig (val a * sc)) = val a * sc from val_dig _)
  have HV := Lib.hid (show val (dig (val b * sc)) = val b * sc from val_dig _)
  have HUc := Lib.hid (dig_canon (val a * sc))
  have HVc := Lib.hid (dig_canon (val b * sc))
  generalize dig (val a * sc) = U at *
  generalize dig (val b * sc) = V at *
  clear hue hve hu1 hb1 hb2' hs1 ht1 hct lsc vsc hidx hw1
  obtain ⟨lu,hlu⟩ : ∃ lu,U.length = lu := ⟨_,rfl⟩
  obtain ⟨n,hn⟩ : ∃ n,V.length = n := ⟨_,rfl⟩
  rw [hlu] at hu2 U0 U1 V1 ⊢
  rw [hn] at hv2 V0 V1 hcv ⊢
  have HLU := Lib.hid hlu
  have HN := Lib.hid hn
  clear hlu hn
  have hd1 : decide ((lu : Int) + 1 ≤ a.length) = false := by simp;omega
  go_wp2_with (at_builtin;refine wpList_append_lies rfl _ _ 26 rfl w.heap.size 118 i0 (.int .u32 0) 1 4 Tryz.underlying26 hi hz0 hz1 hz2 rfl (by decide) _ _ _ rfl ((owns_base hu2 (by simp)).alloc _) ⟨w2.heap.size,0,none⟩ 1 1 [.int .u32 (((0 : Nat)) : Int)] rfl rfl (cell_one_new _ _ _) (by simp [Value.oneCell']) (by omega) (by unfold maxLen;omega) (by omega) (by simp;omega) ?_)
  intro gu' cu' w3 hu3 hgr3 hgx hgl
  have hgu : gu' = gu ∨ gu' = w2.heap.size + 1 := by
    rcases hgx with h | h
    · left;simpa [Value.ownBlock] using h.symm
    · right;simpa using h
  have hne1 : gu' ≠ gv := by omega
  have hgu' : w.heap.size ≤ gu' := by omega
  have hv3 : w3.ownsRow w.heap.size 118 1 (.slice (some ⟨gv,0,none⟩) n cv) n (cells32 V) :=
    ((owns_base hv2 (by simp;omega)).alloc _).kept hgr3 (.inr (by simp [Value.ownBlock];omega))
  have hB3 : Below w.heap.size w w3 := (hB2.alloc (by omega) _).grown hgr3 (by simp;omega) (fun k e => by simp [Value.ownBlock] at e;omega)
  have hz3 : w2.heap.size + 1 ≤ w3.heap.size := by have := hgr3.size;simpa using this
  have hu3' : w3.ownsRow w.heap.size 118 1 (.slice (some ⟨gu',0,none⟩) (lu + 1) cu') (lu + 1) (cells32 (U ++ [0])) := by rw [cells32_snoc];exact hu3
  have hvb : gv < w3.heap.size := by omega
  clear hgx hgr3 hu2 hv2 hu3 hgu2 hgv2 hB2
  obtain ⟨M,hM⟩ : ∃ M : Nat,(lu : Int) + 1 - n = M := ⟨lu + 1 - n,by omega⟩
  have hM2 : M + n = lu + 1 := by omega
  go_wp2_with (at_make;refine wpList_make_full _ rfl _ _ 26 rfl w.heap.size 118 i0 (.int .u32 0) 1 Tryz.underlying26 hi hz0 hz1 _ _ _ _ M rfl rfl (by omega) (by omega) (by rw [hz2];omega) (by unfold maxLen;omega) (by omega) ?_)
  intro w4 hq4 hgr4
  rw [cells32_made] at hq4
  have hv4 := hv3.kept hgr4 (.inr (by simp [Value.ownBlock]))
  have hu4 := hu3'.kept hgr4 (.inr (by simp [Value.ownBlock]))
  have hB4 : Below w.heap.size w w4 := hB3.grown hgr4 (by omega) (fun k e => by cases e)
  obtain ⟨gq,hgq⟩ : ∃ gq,w3.heap.size = gq := ⟨_,rfl⟩
  rw [hgq] at hq4 hgl hvb ⊢
  have hgqw : w.heap.size ≤ gq := by omega
  have hne2 : gu' ≠ gq := by omega
  have hne3 : gv ≠ gq := by omega
  clear hv3 hu3' hB3 hgr4 hgq hz3 hgu
  go_wp2
  have hI0 : LongInv (val a * sc) (val V) n (lu + 1) (U ++ [0]) (List.replicate M 0) M := by
    have e1 := HLU.out
    have e2 := HN.out
    have e3 : val (U ++ [0]) = val a * sc := by rw [val_append,HU.out];simp [val_cons]
    refine ⟨by simp [e1],Low.append.2 ⟨HUc.out.1,Low.cons.2 ⟨BB_pos,Low.nil⟩⟩,by simp;omega,fun g hg => by rw [(List.mem_replicate.1 hg).2];exact BB_pos,fun m _ => gr_replicate _ _,by rw [e3,val_zeros];simp,?_⟩
    rw [e3,← HU.out]
    have h1 := val_lt HUc.out.1
    rw [e1] at h1
    have h2 : BB ^ (n - 1) ≤ val V := by
      have := le_of_dig_length (n := val V) (k := n - 1) (by rw [dig_val HVc.out];omega)
      exact this
    have h3 : BB ^ (n - 1) * BB ^ M ≤ val V * BB ^ M := Nat.mul_le_mul_right _ h2
    rw [← Nat.pow_add,show n - 1 + M = lu from by omega] at h3
    omega
  have HI0 := Lib.hid hI0
  have hn2 : 2 ≤ n := by omega
  have hcu : lu + 1 ≤ cu' := by
    obtain ⟨_,_,e1,_,_,e2⟩ := owns_form hu4 (by omega)
    cases e1;exact e2
  have HSC3 := Lib.hid hsc3
  have HNE := Lib.hid hne1
  clear hI0 hi hz0 hz1 hz2 hcv hne1 hM U0 V0 V1 hsc hsc3 hd1 hgu1 hgv1
  go_loopw [10,11,12,13,14,15,16,17,18,19,20,21,22,64,65,66,67,68,69,70,71,72,73,74,75,76,77,78,79,80,81,82,83,84,85,86,87,88,89,90,91,92,93,94,95,96,97,98,99,100,101,102,103,104,105,106,107,108,109,110,111,112,113,114,115,116,117,118,119,120,121,122,123,124,125,126,127,128,129,130,131,132,133,134,135,136,137,138,139,140,141,142,143,144,145,146,147,148,149,150,151,152,153,154,155,156,157,158,159,160,161,162,163,164,165,166,167,168,169,170,171,172,173,174,175,176,177,178,179,180,181,182,183,184,185,186,187,188,189,190,191,192,193,194,195,196,197,198,199,200,201,202,203,204,205,206,207,208,209,210,211,212,213,214,215,216,217,218,219,220,221,222,223,224,225,226,227,228,229,230,231,232,233,234,235,236,237,238,239,240,241,242,243,244,245,246,247,248,249,250,251,252,253] (fun i _ _ _ _ _ _ _ _ _ _ _ _ _ _ _ _ _ _ _ _ _ _ _ _ _ _ _ _ _ _ _ _ _ _ _ _ _ _ _ _ _ _ _ _ _ _ _ _ _ _ _ _ _ _ _ _ _ _ _ _ _ _ _ _ _ _ _ _ _ _ _ _ _ _ _ _ _ _ _ _ _ _ _ _ _ _ _ _ _ _ _ _ _ _ _ _ _ _ _ _ _ _ _ _ _ _ _ _ _ _ _ _ _ _ _ _ _ _ _ _ _ _ _ _ _ _ _ _ _ _ _ _ _ _ _ _ _ _ _ _ _ _ _ _ _ _ _ _ _ _ _ _ _ _ _ _ _ _ _ _ _ _ _ _ _ _ _ _ _ _ _ _ _ _ _ _ _ _ _ _ _ _ _ _ _ _ _ _ _ _ _ _ _ _ _ _ _ _ _ _ _ _ wr => ∃ (k : Nat) (i' : Int) (u qq : List Nat),i = .int .i64 i' ∧ Hid (i' = (k : Int) - 1) ∧ k ≤ M ∧ Hid (LongInv (val a * sc) (val V) n (lu + 1) u qq k) ∧ wr.ownsRow w.heap.size 118 1 (.slice (some ⟨gu',0,none⟩) (lu + 1) cu') (lu + 1) (cells32 u) ∧ wr.ownsRow w.heap.size 118 1 (.slice (some ⟨gv,0,none⟩) n cv) n (cells32 V) ∧ wr.ownsRow w.heap.size 118 1 (.slice (some ⟨gq,0,none⟩) M M) M (cells32 qq) ∧ Below w.heap.size w wr) (fun i _ _ _ _ _ _ _ _ _ _ _ _ _ _ _ _ _ _ _ _ _ _ _ _ _ _ _ _ _ _ _ _ _ _ _ _ _ _ _ _ _ _ _ _ _ _ _ _ _ _ _ _ _ _ _ _ _ _ _ _ _ _ _ _ _ _ _ _ _ _ _ _ _ _ _ _ _ _ _ _ _ _ _ _ _ _ _ _ _ _ _ _ _ _ _ _ _ _ _ _ _ _ _ _ _ _ _ _ _ _ _ _ _ _ _ _ _ _ _ _ _ _ _ _ _ _ _ _ _ _ _ _ _ _ _ _ _ _ _ _ _ _ _ _ _ _ _ _ _ _ _ _ _ _ _ _ _ _ _ _ _ _ _ _ _ _ _ _ _ _ _ _ _ _ _ _ _ _ _ _ _ _ _ _ _ _ _ _ _ _ _ _ _ _ _ _ _ _ _ _ _ _ wr => (intOf i + 1).toNat)
  case atStart => exact ⟨M,_,_,_,rfl,rfl,Nat.le_refl _,HI0,hu4,hv4,hq4,hB4⟩
  case round =>
    obtain ⟨k,i',u,qq,rfl,hk',hkM,hI,hu,hv,hq,hB⟩ := hrel
    clear hu4 hv4 hq4 hB4 HI0
    cases k with
    | zero =>
      obtain rfl : i' = -1 := by have := hk'.out;simpa using this
      go_wp2_with fail
      have hd := hI.out.done
      have hlt := hI.out.lt
      rw [HV.out] at hd hlt
      rw [Nat.mul_mod_mul_right,Nat.mul_div_mul_right _ _ (by have := HSC3.out;omega)] at hd
      have hlun := hI.out.lu
      have hlow := hI.out.low
      have hVlt := val_low_lt HVc.out.1 HN.out
      rw [HV.out] at hVlt
      have htk : val (u.take n) = val a % val b * sc := by
        rw [← val_top (fun m hm => gr_zero_of (k := n) (by simp at hlt;omega) hm)];exact hd.2
      have hown := ownsRow_take hu (m := n) (by omega)
      have hck : (cells32 u).take n = cells32 (u.take n) := by simp [cells32,List.map_take]
      rw [hck] at hown
      have hlt2 : (u.take n).length = n := by rw [List.length_take,hlun];omega
      have hlw2 : Low (u.take n) := fun g hg => hlow g (List.mem_of_mem_take hg)
      have hR := Rd.of_owns (l := u.take n) (by rw [hlt2];exact hown)
      refine (trim_n _ _ n _ _ hR hlw2 hlt2).mono ?_
      rintro e w' ⟨rfl,rfl⟩
      have hto := owns_trim hown hlw2 hlt2
      have hqd := hd.1
      have hqlow := hI.out.lowq
      have hql : qq.length = M := by have := hI.out.lq;omega
      have htz : trimz (u.take n) = dig (val a % val b * sc) := by unfold trimz;rw [htk]
      rw [htz] at hto ⊢
      have hlen3 : (dig (val a % val b * sc)).length ≤ 2000000000 := by
        have h1 := trimz_length hlw2
        rw [htz,hlt2] at h1
        omega
      have HD := Lib.hid hd
      have HTK := Lib.hid htk
      have HX := Lib.hid (And.intro hqd (And.intro hqlow (And.intro hql (And.intro hown hlow))))
      have hRt := Rd.of_owns hto
      clear hd htk hqd hqlow hql hown hlow hlt hlun hVlt hck hlt2 hlw2 hR hto htz
      go_wp2_with fail
      refine (short_any _ _ sc _ hRt (dig_low _) HSC3.out (by omega) hlen3).mono ?_
      rintro e w' ⟨v2,rfl,hv2,hbel⟩
      rw [val_dig,Nat.mul_div_cancel _ (show 0 < sc from HSC3.out)] at hv2
      have hq5 := owns_to hq hbel
      have hB5 := hB.trans (hbel.mono hB.size)
      have hR2 := Rd.of_owns (l := qq) (by rw [HX.out.2.2.1];exact hq5)
      have htq := trim_n _ _ M _ _ hR2 HX.out.2.1 HX.out.2.2.1
      have hoq := owns_trim hq5 HX.out.2.1 HX.out.2.2.1
      have hR3 := Rd.of_owns hv2
      have hR4 := Rd.of_owns hoq
      have htz : trimz qq = dig (val a / val b) := by unfold trimz;rw [HX.out.1]
      rw [htz] at hR4
      have HR4 := Lib.hid hR4
      have HTZ := Lib.hid htz
      clear hoq hR4 htz
      go_wp2_with fail
      refine htq.mono ?_
      rintro e w' ⟨rfl,rfl⟩
      rw [HTZ.out]
      go_wp2_with fail
      go_ret2
      exact ⟨_,_,rfl,HR4.out,hR3,hB5⟩
    | succ j =>
      obtain rfl : i' = (j : Int) := by have := hk'.out;simp at this;omega
      refine long_round (val a * sc) V u qq gu' gv gq (lu + 1) n M cu' cv j w.heap.size wr w HVc.out HN.out hn2 (by omega) hM2 hcu hI.out hkM HNE.out hne2 hne3 hgu' hgqw hu hv hq hB _ _ _ _ _ _ _ _ _ _ _ _ _ _ _ _ _ _ _ _ _ _ _ _ _ _ _ _ _ _ _ _ _ _ _ _ _ _ _ _ _ _ _ _ _  _ ?_ _ _ _ _ _ _ _ _ _ _ _ _ _ _ _ _ _ _ _ _ _ _ _ _ _ _ _ _ _ _ _ _ _ _ _ _ _ _ _ _ _ _ _ _ _ _ _ _ _ _ _ _ _ _ _ _ _ _ _ _ _ _ _ _ _ _ _ _ _ _ _ _ _ _ _ _ _ _ _ _ _ _ _ _ _ _ _ _ _ _ _ _ _ _ _ _ _ _ _ _ _ _ _ _ _ _ _ _ _ _ _ _ _ _ _ _ _ _ _ _ _ _ _ _ _ _ _ _ _ _ _ _ _ _ _ _ _ _ _ _ _ _ _ _ _ _ _ _ _ _ _ _ _ _ _ _ _ _ _ _ _ _ _ _ _ _ _ _ _ _ _ _ _ _ _ _ _ _ _ _ _ _ _ _ _ _ _ _ _ _ _ _ _ _ _ _ _ _ _ _ _ _
      intro _ _ _ _ _ _ _ _ _ _ _ _ _ _ _ _ _ _ _ _ _ _ _ _ _ _ _ _ _ _ _ _ _ _ _ _ _ _ _ _ _ _ _ _ _ _ _ _ _ _ _ _ _ _ _ _ _ _ _ _ _ _ _ _ _ _ _ _ _ _ _ _ _ _ _ _ _ _ _ _ _ _ _ _ _ _ _ _ _ _ _ _ _ _ _ _ _ _ _ _ _ _ _ _ _ _ _ _ _ _ _ _ _ _ _ _ _ _ _ _ _ _ _ _ _ _ _ _ _ _ _ _ _ _ _ _ _ _ _ _ _ _ _ _ _ _ _ _ _ _ _ _ _ _ _ _ _ _ _ _ _ _ _ _ _ _ _ _ _ _ _ _ _ _ _ _ _ _ _ _ _ _ _ _ _ _ _ _ _ _ _ _ _ _ _ _ _ _ _ _ _ _  u' qq' w' hI' hu' hv' hq' hB'
      go_wp2_with fail
      go_roundw
      case rel =>
        (repeat apply Exists.intro)
        exact ⟨⟨j,_,u',qq',rfl,rfl,by omega,Lib.hid hI',hu',hv',hq',hB'⟩,rfl⟩
      case measure => simp [intOf]
end Go.Proofs.YtidfgdchcpmnfaaGreat
