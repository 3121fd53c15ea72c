/-
  Lemmas for the statements about rotations, part 7 of 51.
-/
import Derived.Test.YtidfgdchcpmnfaaGreatZb02
namespace Go.Proofs.YtidfgdchcpmnfaaGreat
set_option linter.unusedVariables false
theorem val_set {l : List Nat} {k v : Nat} (h : k < l.length) : val (l.set k v) + BB ^ k * gr l k = val l + BB ^ k * v := by
  induction l generalizing k with
  | nil => simp at h
  | cons g l ih =>
    cases k with
    | zero => simp [val_cons,gr];omega
    | succ k =>
      have := ih (k := k) (by simpa using h)
      have e : gr (g :: l) (k + 1) = gr l k := by simp [gr]
      rw [List.set_cons_succ,val_cons,val_cons,e,Nat.pow_succ]
      generalize val (l.set k v) = a at *
      generalize BB ^ k = p at *
      grind
theorem guess_hi {X D P T m g xl : Nat} (hX : X = T * P + xl) (hxl : xl < P) (hD : m * P ≤ D) (h : T < g * m) : X < g * D := by
  have h1 : (T + 1) * P ≤ g * m * P := Nat.mul_le_mul_right _ h
  have h2 : g * (m * P) ≤ g * D := Nat.mul_le_mul_left _ hD
  rw [Nat.mul_assoc] at h1
  have h3 : (T + 1) * P = T * P + P := by rw [Nat.add_mul,Nat.one_mul]
  omega
theorem guess_lo {X D P T m g : Nat} (hX : T * P ≤ X) (hD : D < (m + 1) * P) (hg : g ≤ m + 1) (h : g * m ≤ T) : g * D ≤ X + D := by
  cases g with
  | zero => simp
  | succ g =>
    have h1 : g * D ≤ g * ((m + 1) * P) := Nat.mul_le_mul_left _ (by omega)
    have h2 : g * (m + 1) ≤ T := by
      have : (g + 1) * m = g * m + m := by rw [Nat.add_mul,Nat.one_mul]
      have : g * (m + 1) = g * m + g := by rw [Nat.mul_add,Nat.mul_one]
      omega
    have h3 : g * (m + 1) * P ≤ T * P := Nat.mul_le_mul_right _ h2
    rw [Nat.mul_assoc] at h3
    have h4 : (g + 1) * D = g * D + D := by rw [Nat.add_mul,Nat.one_mul]
    omega
structure LongInv (S V n L : Nat) (u q : List Nat) (k : Nat) : Prop where
  lu : u.length = L
  low : Low u
  lq : q.length + n = L
  lowq : Low q
  zero : ∀ m,m < k → gr q m = 0
  eq : val u + V * val q = S
  lt : val u < V * BB ^ k
structure Guess (X D g : Nat) : Prop where
  hi : X < (g + 1) * D
  lo : g * D ≤ X + D
theorem val_split' (l : List Nat) (k : Nat) : val l = val (l.take k) + BB ^ (min k l.length) * val (l.drop k) := by
  conv => lhs;rw [← List.take_append_drop k l]
  rw [val_append,List.length_take]
theorem last_gr' {l : List Nat} (h : l ≠ []) : l.getLast? = some (gr l (l.length - 1)) := by
  have : 0 < l.length := List.length_pos_iff.2 h
  rw [List.getLast?_eq_getElem?,gr_in (by omega)]
  exact List.getElem?_eq_getElem _
theorem val_top {l : List Nat} {k : Nat} (h : ∀ m,k ≤ m → gr l m = 0) : val l = val (l.take k) := by
  by_cases hk : k < l.length
  · rw [val_split' l k]
    have : val (l.drop k) = 0 := by
      suffices ∀ r : List Nat,(∀ m,gr r m = 0) → val r = 0 by
        refine this _ (fun m => ?_)
        have := h (k + m) (by omega)
        simpa [gr,List.getElem?_drop] using this
      intro r
      induction r with
      | nil => intro _;rfl
      | cons g r ih =>
        intro hz
        have h0 := hz 0
        have h1 := ih (fun m => by have := hz (m + 1);simpa [gr] using this)
        simp [gr] at h0
        rw [val_cons,h0,h1];simp
    rw [this];simp
  · rw [List.take_of_length_le (by omega)]
structure SubInv (u v o : List Nat) (L g j i bo ca : Nat) : Prop where
  len : o.length = L
  low : Low o
  same : ∀ m,j + i ≤ m → gr o m = gr u m
  vl : val (o.take (j + i)) + BB ^ j * (g * val (v.take i)) = val (u.take (j + i)) + BB ^ (j + i) * (bo + ca)
  bor : bo ≤ 1
  car : ca < 1000000000
theorem SubInv.start {u v : List Nat} {L g j : Nat} (h1 : u.length = L) (h2 : Low u) : SubInv u v u L g j 0 0 0 := ⟨h1,h2,fun _ _ => rfl,by simp,by omega,by omega⟩
theorem SubInv.step {u v o : List Nat} {L g j i bo ca d bo' : Nat} (h : SubInv u v o L g j i bo ca) (hg : g < 1000000000) (hv : gr v i < 1000000000) (hk : j + i < L)
    (hd : d < 1000000000) (hb : bo' ≤ 1) (he : gr o (j + i) + 1000000000 * bo' = d + bo + (g * gr v i + ca) % 1000000000) :
    SubInv u v (o.set (j + i) d) L g j (i + 1) bo' ((g * gr v i + ca) / 1000000000) := by
  have hl : j + i < o.length := by rw [h.len];exact hk
  have hc := h.car
  have hm : g * gr v i ≤ 999999999 * 999999999 := Nat.mul_le_mul (by omega) (by omega)
  refine ⟨by simp [h.len],low_set h.low hd,?_,?_,hb,by omega⟩
  · intro m hm
    rw [gr_set hl,if_neg (by omega)]
    exact h.same m (by omega)
  · have e1 := h.vl
    have e2 := h.same (j + i) (Nat.le_refl _)
    have e3 := val_take_succ u (j + i)
    have e4 := val_take_succ v i
    rw [show j + (i + 1) = (j + i) + 1 from by omega,take_set_succ hl,val_append,List.length_take,Nat.min_eq_left (by omega),e3,e4,← e2]
    simp only [val_cons,val_nil]
    have e5 := Nat.mod_add_div (g * gr v i + ca) 1000000000
    generalize (g * gr v i + ca) % 1000000000 = r at *
    generalize (g * gr v i + ca) / 1000000000 = c' at *
    rw [Nat.pow_succ,Nat.pow_add] at *
    rw [BB_eq] at *
    have e6 : 1000000000 ^ j * 1000000000 ^ i * (r + 1000000000 * c') = 1000000000 ^ j * 1000000000 ^ i * (g * gr v i + ca) := by rw [e5]
    have e7 : 1000000000 ^ j * 1000000000 ^ i * (gr o (j + i) + 1000000000 * bo') = 1000000000 ^ j * 1000000000 ^ i * (d + bo + r) := by rw [he]
    grind
structure AddInv (u v o : List Nat) (L j i c : Nat) : Prop where
  len : o.length = L
  low : Low o
  same : ∀ m,j + i ≤ m → gr o m = gr u m
  vl : val (o.take (j + i)) + BB ^ (j + i) * c = val (u.take (j + i)) + BB ^ j * val (v.take i)
  car : c ≤ 1
theorem AddInv.start {u v : List Nat} {L j : Nat} (h1 : u.length = L) (h2 : Low u) : AddInv u v u L j 0 0 := ⟨h1,h2,fun _ _ => rfl,by simp,by omega⟩
theorem AddInv.step {u v o : List Nat} {L j i c d c' : Nat} (h : AddInv u v o L j i c) (hk : j + i < L) (hd : d < 1000000000) (hc : c' ≤ 1) (he : gr o (j + i) + gr v i + c = d + 1000000000 * c') :
    AddInv u v (o.set (j + i) d) L j (i + 1) c' := by
  have hl : j + i < o.length := by rw [h.len];exact hk
  refine ⟨by simp [h.len],low_set h.low hd,?_,?_,hc⟩
  · intro m hm
    rw [gr_set hl,if_neg (by omega)]
    exact h.same m (by omega)
  · have e1 := h.vl
    have e2 := h.same (j + i) (Nat.le_refl _)
    have e3 := val_take_succ u (j + i)
    have e4 := val_take_succ v i
    rw [show j + (i + 1) = (j + i) + 1 from by omega,take_set_succ hl,val_append,List.length_take,Nat.min_eq_left (by omega),e3,e4,← e2]
    simp only [val_cons,val_nil]
    rw [Nat.pow_succ,Nat.pow_add] at *
    rw [BB_eq] at *
    have e7 : 1000000000 ^ j * 1000000000 ^ i * (gr o (j + i) + gr v i + c) = 1000000000 ^ j * 1000000000 ^ i * (d + 1000000000 * c') := by rw [he]
    grind
theorem gr_zero_of {l : List Nat} {k m : Nat} (hv : val l < BB ^ k) (hk : k ≤ m) : gr l m = 0 := by
  rcases Nat.eq_zero_or_pos (gr l m) with h | h
  · exact h
  · exfalso
    have h1 := val_take_succ l m
    have h2 : val (l.take (m + 1)) ≤ val l := by rw [val_split' l (m + 1)];omega
    have h3 : BB ^ m * 1 ≤ BB ^ m * gr l m := Nat.mul_le_mul_left _ h
    have h4 : BB ^ k ≤ BB ^ m := Nat.pow_le_pow_right BB_pos hk
    omega
theorem val_take_lt {l : List Nat} (h : Low l) (k : Nat) : val (l.take k) < BB ^ k :=
  Nat.lt_of_lt_of_le (val_lt (h.take k)) (Nat.pow_le_pow_right BB_pos (by rw [List.length_take];omega))
theorem val_low_lt {v : List Nat} {n : Nat} (h : Low v) (hn : v.length = n) : val v < BB ^ n := by subst hn;exact val_lt h
theorem LongInv.bound {S n L j : Nat} {u q v : List Nat} (h : LongInv S (val v) n L u q (j + 1)) (hv : Low v) (hn : v.length = n) : val u < BB ^ (j + n + 1) := by
  have h1 := h.lt
  have h2 := val_low_lt hv hn
  have h3 : val v * BB ^ (j + 1) ≤ BB ^ n * BB ^ (j + 1) := Nat.mul_le_mul_right _ (by omega)
  rw [← Nat.pow_add] at h3
  rw [show j + n + 1 = n + (j + 1) from by omega]
  omega
theorem LongInv.top {S n L j : Nat} {u q v : List Nat} (h : LongInv S (val v) n L u q (j + 1)) (hv : Low v) (hn : v.length = n) : val u = val (u.take (j + n)) + BB ^ (j + n) * gr u (j + n) := by
  rw [← val_take_succ]
  exact val_top (fun m hm => gr_zero_of (h.bound hv hn) hm)
structure Digs (X D v1 v2 uh u1 u2 P : Nat) : Prop where
  x : ∃ xl,X = ((uh * BB + u1) * BB + u2) * P + xl ∧ xl < P
  d1 : (v1 * BB + v2) * P ≤ D
  d2 : D < (v1 * BB + v2 + 1) * P
  xb : X < BB * D
  uv : uh ≤ v1
  v1p : 1 ≤ v1
  b1 : v1 < 1000000000
  b2 : v2 < 1000000000
  b3 : u1 < 1000000000
  b4 : u2 < 1000000000
theorem LongInv.digs {S n L j : Nat} {u q v : List Nat} (h : LongInv S (val v) n L u q (j + 1)) (hv : Canon v) (hn : v.length = n) (h2 : 2 ≤ n) :
    Digs (val u) (BB ^ j * val v) (gr v (n - 1)) (gr v (n - 2)) (gr u (j + n)) (gr u (j + n - 1)) (gr u (j + n - 2)) (BB ^ (j + n - 2)) := by
  obtain ⟨m,rfl⟩ : ∃ m,n = m + 2 := ⟨n - 2,by omega⟩
  have hne : v ≠ [] := by intro e;subst e;simp at hn
  have hp : 1 ≤ gr v (m + 1) := by
    have := hv.2
    rw [last_gr' hne,hn] at this
    have h3 : gr v (m + 2 - 1) ≠ 0 := by simpa using this
    have : m + 2 - 1 = m + 1 := by omega
    rw [this] at h3
    omega
  have e1 : m + 2 - 1 = m + 1 := by omega
  have e2 : m + 2 - 2 = m := by omega
  have e3 : j + (m + 2) - 1 = j + m + 1 := by omega
  have e4 : j + (m + 2) - 2 = j + m := by omega
  have e5 : j + (m + 2) = j + m + 2 := by omega
  have hV : val v = val (v.take m) + BB ^ m * gr v m + BB ^ (m + 1) * gr v (m + 1) := by
    rw [← val_take_succ,← val_take_succ,val_take_all (by omega)]
  have hX : val u = val (u.take (j + m)) + BB ^ (j + m) * gr u (j + m) + BB ^ (j + m + 1) * gr u (j + m + 1) + BB ^ (j + m + 2) * gr u (j + m + 2) := by
    rw [← val_take_succ,← val_take_succ,← val_take_succ]
    exact val_top (fun k hk => gr_zero_of (h.bound hv.1 hn) (by omega))
  have hvl := val_take_lt hv.1 m
  have hul := val_take_lt h.low (j + m)
  have hlt := h.lt
  rw [e1,e2,e3,e4,e5]
  have hP : BB ^ (j + m) = BB ^ j * BB ^ m := Nat.pow_add _ _ _
  have hd : BB ^ j * val v = (gr v (m + 1) * BB + gr v m) * BB ^ (j + m) + BB ^ j * val (v.take m) := by
    rw [hV,hP,Nat.pow_succ]
    grind
  have hd2 : BB ^ j * val (v.take m) < BB ^ (j + m) := by
    rw [hP]
    exact Nat.mul_lt_mul_of_pos_left hvl (Nat.pow_pos BB_pos)
  refine ⟨⟨val (u.take (j + m)),?_,hul⟩,?_,?_,?_,?_,hp,gr_low hv.1 _,gr_low hv.1 _,gr_low h.low _,gr_low h.low _⟩
  · rw [hX,Nat.pow_succ,Nat.pow_succ]
    grind
  · rw [hd];omega
  · rw [hd,Nat.add_mul _ 1,Nat.one_mul]
    omega
  · rw [Nat.pow_succ] at hlt
    have : BB * (BB ^ j * val v) = val v * (BB ^ j * BB) := by grind
    omega
  ·
    rcases Nat.lt_or_ge (gr v (m + 1)) (gr u (j + m + 2)) with h4 | h4
    · exfalso
      have h5 : BB ^ (j + m + 2) * (gr v (m + 1) + 1) ≤ BB ^ (j + m + 2) * gr u (j + m + 2) := Nat.mul_le_mul_left _ h4
      have h6 : val v < BB ^ (m + 1) * (gr v (m + 1) + 1) := by
        have := val_take_lt hv.1 (m + 1)
        have h7 := val_take_succ v (m + 1)
        rw [val_take_all (by omega)] at h7
        rw [Nat.mul_add,Nat.mul_one]
        omega
      have h8 : val v * BB ^ (j + 1) < BB ^ (m + 1) * (gr v (m + 1) + 1) * BB ^ (j + 1) := Nat.mul_lt_mul_of_pos_right h6 (Nat.pow_pos BB_pos)
      have h9 : BB ^ (m + 1) * (gr v (m + 1) + 1) * BB ^ (j + 1) = BB ^ (j + m + 2) * (gr v (m + 1) + 1) := by
        rw [show j + m + 2 = (m + 1) + (j + 1) from by omega,Nat.pow_add]
        grind
      omega
    · exact h4
structure GInv (X D v1 uh u1 g r : Nat) : Prop where
  eq : g * v1 + r = uh * BB + u1
  hi : X < (g + 1) * D
theorem Digs.start {X D v1 v2 uh u1 u2 P : Nat} (h : Digs X D v1 v2 uh u1 u2 P) : GInv X D v1 uh u1 ((uh * BB + u1) / v1) ((uh * BB + u1) % v1) := by
  have hp := h.v1p
  have e := Nat.mod_add_div (uh * BB + u1) v1
  have hm := Nat.mod_lt (uh * BB + u1) (show 0 < v1 by omega)
  refine ⟨by rw [Nat.mul_comm];omega,?_⟩
  obtain ⟨xl,hx,hxl⟩ := h.x
  refine guess_hi hx hxl h.d1 ?_
  generalize (uh * BB + u1) / v1 = g at *
  generalize (uh * BB + u1) % v1 = r at *
  have h1 : uh * BB + u1 + 1 ≤ (g + 1) * v1 := by rw [Nat.add_mul,Nat.mul_comm g];omega
  have h2 : (uh * BB + u1 + 1) * BB ≤ (g + 1) * v1 * BB := Nat.mul_le_mul_right _ h1
  have h3 := h.b4
  have h4 : (g + 1) * (v1 * BB + v2) = (g + 1) * v1 * BB + (g + 1) * v2 := by grind
  rw [h4]
  rw [BB_eq] at *
  omega
theorem GInv.le {X D v1 v2 uh u1 u2 P g r : Nat} (h : Digs X D v1 v2 uh u1 u2 P) (k : GInv X D v1 uh u1 g r) : g ≤ 2 * BB := by
  rcases Nat.lt_or_ge (2 * BB) g with h1 | h1
  · exfalso
    have e := k.eq
    have h2 : (2 * BB + 1) * v1 ≤ g * v1 := Nat.mul_le_mul_right _ h1
    have h3 : uh * BB ≤ v1 * BB := Nat.mul_le_mul_right _ h.uv
    have h4 := h.b3
    have h5 := h.v1p
    rw [BB_eq] at *
    omega
  · exact h1
theorem GInv.step {X D v1 v2 uh u1 u2 P g r : Nat} (h : Digs X D v1 v2 uh u1 u2 P) (k : GInv X D v1 uh u1 g r) (hc : BB ≤ g ∨ r * BB + u2 < g * v2) : 1 ≤ g ∧ GInv X D v1 uh u1 (g - 1) (r + v1) := by
  have hg : 1 ≤ g := by
    rcases hc with hc | hc
    · rw [BB_eq] at hc;omega
    · rcases Nat.eq_zero_or_pos g with e | e
      · subst e;omega
      · exact e
  obtain ⟨g',rfl⟩ : ∃ g',g = g' + 1 := ⟨g - 1,by omega⟩
  refine ⟨hg,?_,?_⟩
  · have := k.eq
    rw [Nat.add_mul,Nat.one_mul] at this
    rw [Nat.add_sub_cancel]
    omega
  · rw [Nat.add_sub_cancel]
    rcases hc with hc | hc
    · exact Nat.lt_of_lt_of_le h.xb (Nat.mul_le_mul_right _ hc)
    · obtain ⟨xl,hx,hxl⟩ := h.x
      refine guess_hi hx hxl h.d1 ?_
      have e := k.eq
      have e2 : (uh * BB + u1) * BB = ((g' + 1) * v1 + r) * BB := by rw [e]
      rw [e2]
      have : (g' + 1) * (v1 * BB + v2) = (g' + 1) * v1 * BB + (g' + 1) * v2 := by grind
      rw [this,Nat.add_mul]
      omega
theorem GInv.done {X D v1 v2 uh u1 u2 P g r : Nat} (h : Digs X D v1 v2 uh u1 u2 P) (k : GInv X D v1 uh u1 g r) (hg : g < BB) (hr : g * v2 ≤ r * BB + u2) : Guess X D g := by
  refine ⟨k.hi,?_⟩
  obtain ⟨xl,hx,hxl⟩ := h.x
  have hp := h.v1p
  refine guess_lo (T := (uh * BB + u1) * BB + u2) (by omega) h.d2 ?_ ?_
  · have : 1 * BB ≤ v1 * BB := Nat.mul_le_mul_right _ hp
    omega
  · have e := k.eq
    have e2 : (uh * BB + u1) * BB = (g * v1 + r) * BB := by rw [e]
    rw [e2]
    have : g * (v1 * BB + v2) = g * v1 * BB + g * v2 := by grind
    rw [this,Nat.add_mul]
    omega
theorem GInv.brk {X D v1 v2 uh u1 u2 P g r : Nat} (h : Digs X D v1 v2 uh u1 u2 P) (k : GInv X D v1 uh u1 g r) (hr : BB ≤ r) : g < BB ∧ g * v2 ≤ r * BB + u2 := by
  have e := k.eq
  have h3 : uh * BB ≤ v1 * BB := Nat.mul_le_mul_right _ h.uv
  have h4 := h.b3
  have hg : g < BB := by
    rcases Nat.lt_or_ge g BB with h1 | h1
    · exact h1
    · exfalso
      have h2 : BB * v1 ≤ g * v1 := Nat.mul_le_mul_right _ h1
      rw [Nat.mul_comm BB v1] at h2
      rw [BB_eq] at *
      omega
  refine ⟨hg,?_⟩
  have h5 : g * v2 ≤ BB * BB := Nat.mul_le_mul (by omega) (by have := h.b2;rw [BB_eq];omega)
  have h6 : BB * BB ≤ r * BB := Nat.mul_le_mul_right _ hr
  omega
theorem val_top_set {o : List Nat} {k d X : Nat} (hl : k < o.length) (hz : ∀ m,k + 1 ≤ m → gr o m = 0) : val (o.set k d) = val (o.take k) + BB ^ k * d := by
  have h1 := val_set (l := o) (k := k) (v := d) hl
  have h2 : val o = val (o.take k) + BB ^ k * gr o k := by
    rw [← val_take_succ];exact val_top hz
  omega
theorem long_right {S n L j g bo ca : Nat} {u q v o : List Nat} (h : LongInv S (val v) n L u q (j + 1)) (hv : Low v) (hn : v.length = n) (hj : j + n < L) (hG : Guess (val u) (BB ^ j * val v) g) (hg : g < BB)
    (hS : SubInv u v o L g j n bo ca) (hd : bo + ca ≤ gr u (j + n)) :
    gr u (j + n) = bo + ca ∧ LongInv S (val v) n L (o.set (j + n) 0) (q.set j g) j := by
  have e1 := hS.vl
  rw [val_take_all (show v.length ≤ n by omega)] at e1
  have e2 := h.top hv hn
  have e3 := val_take_lt hS.low (j + n)
  have e4 := hG.hi
  have e5 : BB ^ j * val v < BB ^ (j + n) := by
    rw [Nat.pow_add];exact Nat.mul_lt_mul_of_pos_left (val_low_lt hv hn) (Nat.pow_pos BB_pos)
  obtain ⟨d,hdd⟩ : ∃ d,gr u (j + n) = bo + ca + d := ⟨gr u (j + n) - (bo + ca),by omega⟩
  have e6 : BB ^ j * (g * val v) = g * (BB ^ j * val v) := by grind
  rw [e6] at e1
  have e7 : (g + 1) * (BB ^ j * val v) = g * (BB ^ j * val v) + BB ^ j * val v := by rw [Nat.add_mul,Nat.one_mul]
  rw [e7] at e4
  have e8 : BB ^ (j + n) * (bo + ca + d) = BB ^ (j + n) * (bo + ca) + BB ^ (j + n) * d := Nat.mul_add _ _ _
  rw [hdd,e8] at e2
  have hd0 : d = 0 := by
    rcases Nat.eq_zero_or_pos d with e | e
    · exact e
    · exfalso
      have : BB ^ (j + n) * 1 ≤ BB ^ (j + n) * d := Nat.mul_le_mul_left _ e
      omega
  subst hd0
  refine ⟨by omega,?_⟩
  have hol : j + n < o.length := by rw [hS.len];exact hj
  have hz : ∀ m,j + n + 1 ≤ m → gr o m = 0 := fun m hm => by
    rw [hS.same m (by omega)];exact gr_zero_of (h.bound hv hn) hm
  have e9 := val_top_set (X := 0) (d := 0) hol hz
  have hjq : j < q.length := by have := h.lq;omega
  have e10 := val_set (l := q) (k := j) (v := g) hjq
  rw [h.zero j (by omega)] at e10
  have e11 := h.eq
  refine ⟨by simp [hS.len],low_set hS.low (by omega),by simpa using h.lq,low_set h.lowq (by rw [BB_eq] at hg;exact hg),?_,?_,?_⟩
  · intro m hm
    rw [gr_set hjq,if_neg (by omega)]
    exact h.zero m (by omega)
  · rw [e9]
    have e12 : val (q.set j g) = val q + BB ^ j * g := by omega
    rw [e12]
    have e13 : val v * (val q + BB ^ j * g) = val v * val q + g * (BB ^ j * val v) := by grind
    rw [e13]
    omega
  · rw [e9,Nat.mul_comm (val v)]
    omega
theorem long_wrong {S n L j g bo ca c : Nat} {u q v o o2 : List Nat} (h : LongInv S (val v) n L u q (j + 1)) (hv : Low v) (hn : v.length = n) (hj : j + n < L) (hG : Guess (val u) (BB ^ j * val v) g) (hg : g < BB)
    (hS : SubInv u v o L g j n bo ca) (hd : gr u (j + n) < bo + ca) :
    bo + ca = gr u (j + n) + 1 ∧ 1 ≤ g ∧ (AddInv (o.set (j + n) 999999999) v o2 L j n c → c = 1 ∧ gr o2 (j + n) = 999999999 ∧ LongInv S (val v) n L (o2.set (j + n) 0) (q.set j (g - 1)) j) := by
  have e1 := hS.vl
  rw [val_take_all (show v.length ≤ n by omega)] at e1
  have e2 := h.top hv hn
  have e3 := val_take_lt hS.low (j + n)
  have e4 := hG.lo
  have e5 : BB ^ j * val v < BB ^ (j + n) := by
    rw [Nat.pow_add];exact Nat.mul_lt_mul_of_pos_left (val_low_lt hv hn) (Nat.pow_pos BB_pos)
  obtain ⟨d,hdd⟩ : ∃ d,bo + ca = gr u (j + n) + 1 + d := ⟨bo + ca - gr u (j + n) - 1,by omega⟩
  have e6 : BB ^ j * (g * val v) = g * (BB ^ j * val v) := by grind
  rw [e6] at e1
  have e8 : BB ^ (j + n) * (gr u (j + n) + 1 + d) = BB ^ (j + n) * gr u (j + n) + BB ^ (j + n) + BB ^ (j + n) * d := by rw [Nat.mul_add,Nat.mul_add,Nat.mul_one]
  rw [hdd,e8] at e1
  have hd0 : d = 0 := by
    rcases Nat.eq_zero_or_pos d with e | e
    · exact e
    · exfalso
      have : BB ^ (j + n) * 1 ≤ BB ^ (j + n) * d := Nat.mul_le_mul_left _ e
      omega
  subst hd0
  have hg1 : 1 ≤ g := by
    rcases Nat.eq_zero_or_pos g with e | e
    · subst e;simp at e1;omega
    · exact e
  refine ⟨by omega,hg1,fun hA => ?_⟩
  have hol : j + n < o.length := by rw [hS.len];exact hj
  have ho2 : j + n < o2.length := by rw [hA.len];exact hj
  have a1 := hA.vl
  rw [val_take_all (show v.length ≤ n by omega),take_set_ge (Nat.le_refl _)] at a1
  have a3 := val_take_lt hA.low (j + n)
  have hc : c = 0 ∨ c = 1 := by have := hA.car;omega
  have hc1 : c = 1 := by
    rcases hc with rfl | rfl
    · exfalso;simp at e1 a1;omega
    · rfl
  subst hc1
  have g2 : gr o2 (j + n) = 999999999 := by
    rw [hA.same _ (Nat.le_refl _),gr_set hol,if_pos rfl]
  refine ⟨rfl,g2,?_⟩
  have hz : ∀ m,j + n + 1 ≤ m → gr o2 m = 0 := fun m hm => by
    rw [hA.same m (by omega),gr_set hol,if_neg (by omega),hS.same m (by omega)]
    exact gr_zero_of (h.bound hv hn) hm
  have e9 := val_top_set (X := 0) (d := 0) ho2 hz
  have hjq : j < q.length := by have := h.lq;omega
  have e10 := val_set (l := q) (k := j) (v := g - 1) hjq
  rw [h.zero j (by omega)] at e10
  have e11 := h.eq
  obtain ⟨g',rfl⟩ : ∃ g',g = g' + 1 := ⟨g - 1,by omega⟩
  rw [Nat.add_sub_cancel] at *
  have e7 : (g' + 1) * (BB ^ j * val v) = g' * (BB ^ j * val v) + BB ^ j * val v := by rw [Nat.add_mul,Nat.one_mul]
  rw [e7] at e1 e4
  refine ⟨by simp [hA.len],low_set hA.low (by omega),by simpa using h.lq,low_set h.lowq (by rw [BB_eq] at hg;omega),?_,?_,?_⟩
  · intro m hm
    rw [gr_set hjq,if_neg (by omega)]
    exact h.zero m (by omega)
  · rw [e9]
    have e12 : val (q.set j g') = val q + BB ^ j * g' := by omega
    rw [e12]
    have e13 : val v * (val q + BB ^ j * g') = val v * val q + g' * (BB ^ j * val v) := by grind
    rw [e13]
    simp only [Nat.mul_one,Nat.mul_zero,Nat.add_zero] at *
    omega
  · rw [e9,Nat.mul_comm (val v)]
    simp only [Nat.mul_one,Nat.mul_zero,Nat.add_zero] at *
    omega
theorem LongInv.done {S n L : Nat} {u q v : List Nat} (h : LongInv S (val v) n L u q 0) : val q = S / val v ∧ val u = S % val v := by
  have h1 := h.lt
  have h2 := h.eq
  simp at h1
  have hp : 0 < val v := by omega
  have h3 : S = val u + val v * val q := h2.symm
  constructor
  · rw [h3,Nat.add_mul_div_left _ _ hp,Nat.div_eq_of_lt h1];omega
  · rw [h3,Nat.add_mul_mod_self_left,Nat.mod_eq_of_lt h1]
end Go.Proofs.YtidfgdchcpmnfaaGreat
