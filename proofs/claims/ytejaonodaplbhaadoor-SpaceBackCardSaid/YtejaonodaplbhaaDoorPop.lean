import Derived.Test.YtejaonodaplbhaaDoorHp
/- how many bits are set: the sum by fields -/
namespace Go.Proofs.YtejaonodaplbhaaDoor.Pop
/-- a list of digits -/
def od (B : Nat) : List Nat → Nat
  | [] => 0
  | d :: ds => d + B * od B ds
def ev : List Nat → List Nat
  | a :: _ :: t => a :: ev t
  | _ => []
def odds : List Nat → List Nat
  | _ :: b :: t => b :: odds t
  | _ => []
def ps : List Nat → List Nat
  | a :: b :: t => (a + b) :: ps t
  | _ => []
def msk (B : Nat) : Nat → Nat
  | 0 => 0
  | n + 1 => (B - 1) + B * B * msk B n

theorem land_digit {k d e r s : Nat} (hd : d < 2 ^ k) (he : e < 2 ^ k) : (d + 2 ^ k * r) &&& (e + 2 ^ k * s) = (d &&& e) + 2 ^ k * (r &&& s) := by
  have hde : d &&& e < 2 ^ k := Nat.lt_of_le_of_lt Nat.and_le_left hd
  apply Nat.eq_of_testBit_eq
  intro i
  rw [Nat.testBit_and, Nat.add_comm d, Nat.add_comm e, Nat.add_comm (d &&& e), Nat.testBit_two_pow_mul_add _ hd, Nat.testBit_two_pow_mul_add _ he, Nat.testBit_two_pow_mul_add _ hde]
  by_cases h : i < k <;> simp [h]

theorem digit_two {k a b : Nat} (ha : a < 2 ^ k) (hb : b < 2 ^ k) : a + 2 ^ k * b < 2 ^ (k + k) := by
  rw [Nat.pow_add]
  have : 2 ^ k * (b + 1) ≤ 2 ^ k * 2 ^ k := Nat.mul_le_mul_left _ hb
  rw [Nat.mul_add] at this
  omega
theorem land_low {k a b : Nat} (ha : a < 2 ^ k) : (a + 2 ^ k * b) &&& (2 ^ k - 1) = a := by
  rw [Nat.and_two_pow_sub_one_eq_mod, Nat.add_mul_mod_self_left, Nat.mod_eq_of_lt ha]
theorem msk_lt {k : Nat} : 2 ^ k - 1 < 2 ^ (k + k) := by
  have h1 : 0 < 2 ^ k := Nat.two_pow_pos k
  have h2 : 2 ^ k ≤ 2 ^ (k + k) := Nat.pow_le_pow_right (by omega) (by omega)
  omega

theorem land_ev {k : Nat} : ∀ (n : Nat) (ds : List Nat), ds.length = 2 * n → (∀ d ∈ ds, d < 2 ^ k) → od (2 ^ k) ds &&& msk (2 ^ k) n = od (2 ^ k * 2 ^ k) (ev ds)
  | 0, ds, h, _ => by
    have : ds = [] := List.eq_nil_of_length_eq_zero (by omega)
    subst this
    simp [od, msk, ev]
  | n + 1, a :: b :: t, h, hd => by
    have ha := hd a (by simp)
    have hb := hd b (by simp)
    have ih := land_ev n t (by simp at h; omega) (fun x hx => hd x (by simp [hx]))
    show (a + 2 ^ k * (b + 2 ^ k * od (2 ^ k) t)) &&& ((2 ^ k - 1) + 2 ^ k * 2 ^ k * msk (2 ^ k) n) = a + 2 ^ k * 2 ^ k * od (2 ^ k * 2 ^ k) (ev t)
    rw [← ih, Nat.mul_add, ← Nat.add_assoc, ← Nat.mul_assoc, ← Nat.pow_add, land_digit (digit_two ha hb) msk_lt, land_low ha]
  | n + 1, [], h, _ => by simp at h
  | n + 1, [a], h, _ => by simp at h; omega

theorem land_odd {k : Nat} : ∀ (n b : Nat) (t : List Nat), t.length = 2 * n → b < 2 ^ k → (∀ d ∈ t, d < 2 ^ k) → (b + 2 ^ k * od (2 ^ k) t) &&& msk (2 ^ k) (n + 1) = b + 2 ^ k * 2 ^ k * od (2 ^ k * 2 ^ k) (odds t)
  | 0, b, t, h, hb, _ => by
    have : t = [] := List.eq_nil_of_length_eq_zero (by omega)
    subst this
    have := land_low (k := k) (b := 0) hb
    simp only [Nat.mul_zero, Nat.add_zero] at this
    simp [od, msk, odds, this]
  | n + 1, b, a2 :: b2 :: t, h, hb, hd => by
    have ha2 := hd a2 (by simp)
    have hb2 := hd b2 (by simp)
    have ih := land_odd n b2 t (by simp at h; omega) hb2 (fun x hx => hd x (by simp [hx]))
    show (b + 2 ^ k * (a2 + 2 ^ k * (b2 + 2 ^ k * od (2 ^ k) t))) &&& ((2 ^ k - 1) + 2 ^ k * 2 ^ k * msk (2 ^ k) (n + 1)) = b + 2 ^ k * 2 ^ k * (b2 + 2 ^ k * 2 ^ k * od (2 ^ k * 2 ^ k) (odds t))
    rw [← ih, Nat.mul_add (2 ^ k) a2, ← Nat.add_assoc, ← Nat.mul_assoc, ← Nat.pow_add, land_digit (digit_two hb ha2) msk_lt, land_low hb]
  | n + 1, b, [], h, _, _ => by simp at h
  | n + 1, b, [a], h, _, _ => by simp at h; omega

theorem od_add (B : Nat) : ∀ ds : List Nat, od B (ev ds) + od B (odds ds) = od B (ps ds)
  | a :: b :: t => by
    have := od_add B t
    show (a + B * od B (ev t)) + (b + B * od B (odds t)) = (a + b) + B * od B (ps t)
    rw [← this, Nat.mul_add]
    omega
  | [] => rfl
  | [_] => rfl
theorem sum_ps : ∀ (n : Nat) (ds : List Nat), ds.length = 2 * n → (ps ds).sum = ds.sum
  | 0, ds, h => by
    have : ds = [] := List.eq_nil_of_length_eq_zero (by omega)
    subst this; rfl
  | n + 1, a :: b :: t, h => by
    have := sum_ps n t (by simp at h; omega)
    simp only [ps, List.sum_cons, this]; omega
  | n + 1, [], h => by simp at h
  | n + 1, [a], h => by simp at h; omega
theorem len_ps : ∀ (n : Nat) (ds : List Nat), ds.length = 2 * n → (ps ds).length = n
  | 0, ds, h => by
    have : ds = [] := List.eq_nil_of_length_eq_zero (by omega)
    subst this; rfl
  | n + 1, a :: b :: t, h => by
    have := len_ps n t (by simp at h; omega)
    simp [ps, this]
  | n + 1, [], h => by simp at h
  | n + 1, [a], h => by simp at h; omega
theorem le_ps {m : Nat} : ∀ (ds : List Nat), (∀ d ∈ ds, d ≤ m) → ∀ d ∈ ps ds, d ≤ m + m
  | a :: b :: t, h, d, hd => by
    simp only [ps, List.mem_cons] at hd
    rcases hd with rfl | hd
    · have := h a (by simp); have := h b (by simp); omega
    · exact le_ps t (fun x hx => h x (by simp [hx])) d hd
  | [], _, d, hd => by simp [ps] at hd
  | [_], _, d, hd => by simp [ps] at hd

/-- one step: neighbours are added -/
theorem step {k n m : Nat} {ds : List Nat} (hl : ds.length = 2 * (n + 1)) (hm : m < 2 ^ k) (hd : ∀ d ∈ ds, d ≤ m) :
    ((od (2 ^ k) ds / 2 ^ k) &&& msk (2 ^ k) (n + 1)) + (od (2 ^ k) ds &&& msk (2 ^ k) (n + 1)) = od (2 ^ k * 2 ^ k) (ps ds) := by
  have hd' : ∀ d ∈ ds, d < 2 ^ k := fun d h => Nat.lt_of_le_of_lt (hd d h) hm
  rw [land_ev (n + 1) ds hl hd', ← od_add, Nat.add_comm]
  congr 1
  match ds, hl, hd' with
  | a :: b :: t, hl, hd' =>
    have ha := hd' a (by simp)
    have e : od (2 ^ k) (a :: b :: t) / 2 ^ k = b + 2 ^ k * od (2 ^ k) t := by
      show (a + 2 ^ k * (b + 2 ^ k * od (2 ^ k) t)) / 2 ^ k = _
      rw [Nat.add_mul_div_left _ _ (Nat.two_pow_pos k), Nat.div_eq_of_lt ha, Nat.zero_add]
    rw [e, land_odd n b t (by simp at hl; omega) (hd' b (by simp)) (fun x hx => hd' x (by simp [hx]))]
    rfl
  | [], hl, _ => simp at hl
  | [_], hl, _ => simp at hl; omega

/-- the sums of neighbours, all of them -/
def nb : List Nat → List Nat
  | a :: b :: t => (a + b) :: nb (b :: t)
  | [a] => [a]
  | [] => []
theorem od_nb (B : Nat) : ∀ (a : Nat) (t : List Nat), od B t + od B (a :: t) = od B (nb (a :: t))
  | a, [] => by simp [od, nb]
  | a, b :: t => by
    have := od_nb B b t
    show (b + B * od B t) + (a + B * od B (b :: t)) = (a + b) + B * od B (nb (b :: t))
    rw [← this, Nat.mul_add]; omega
theorem ev_nb : ∀ (n : Nat) (ds : List Nat), ds.length = 2 * n → ev (nb ds) = ps ds
  | 0, ds, h => by
    have : ds = [] := List.eq_nil_of_length_eq_zero (by omega)
    subst this; rfl
  | 1, [a, b], _ => rfl
  | n + 2, a :: b :: c :: t, h => by
    have := ev_nb (n + 1) (c :: t) (by simp at h ⊢; omega)
    show (a + b) :: ev (nb (c :: t)) = (a + b) :: ps (c :: t)
    rw [this]
  | 1, [], h => by simp at h
  | 1, [_], h => by simp at h
  | 1, _ :: _ :: _ :: _, h => by simp at h
  | n + 2, [], h => by simp at h
  | n + 2, [_], h => by simp at h; omega
  | n + 2, [_, _], h => by simp at h; omega
theorem len_nb : ∀ ds : List Nat, (nb ds).length = ds.length
  | [] => rfl
  | [_] => rfl
  | a :: b :: t => by
    have := len_nb (b :: t)
    simp only [nb, List.length_cons] at this ⊢
    omega
theorem le_nb {m : Nat} : ∀ (ds : List Nat), (∀ d ∈ ds, d ≤ m) → ∀ d ∈ nb ds, d ≤ m + m
  | [], _, d, hd => by simp [nb] at hd
  | [a], h, d, hd => by simp [nb] at hd; subst hd; have := h d (by simp); omega
  | a :: b :: t, h, d, hd => by
    simp only [nb, List.mem_cons] at hd
    rcases hd with rfl | hd
    · have := h a (by simp); have := h b (by simp); omega
    · exact le_nb (b :: t) (fun x hx => h x (by simp at hx ⊢; right; exact hx)) d hd

theorem step3 {k n m : Nat} {ds : List Nat} (hl : ds.length = 2 * (n + 1)) (hm : m + m < 2 ^ k) (hd : ∀ d ∈ ds, d ≤ m) :
    (od (2 ^ k) ds / 2 ^ k + od (2 ^ k) ds) &&& msk (2 ^ k) (n + 1) = od (2 ^ k * 2 ^ k) (ps ds) := by
  match ds, hl, hd with
  | a :: t, hl, hd =>
    have ha : a < 2 ^ k := by have := hd a (by simp); omega
    have e : od (2 ^ k) (a :: t) / 2 ^ k = od (2 ^ k) t := by
      show (a + 2 ^ k * od (2 ^ k) t) / 2 ^ k = _
      rw [Nat.add_mul_div_left _ _ (Nat.two_pow_pos k), Nat.div_eq_of_lt ha, Nat.zero_add]
    rw [e, od_nb, land_ev (n + 1) _ (by rw [len_nb]; exact hl) (fun d h => Nat.lt_of_le_of_lt (le_nb _ hd d h) hm), ev_nb (n + 1) _ hl]
  | [], hl, _ => simp at hl

def bits : Nat → Nat → List Nat
  | 0, _ => []
  | n + 1, x => x % 2 :: bits n (x / 2)
theorem od_bits : ∀ (n x : Nat), x < 2 ^ n → od (2 ^ 1) (bits n x) = x
  | 0, x, h => by simp at h; subst h; rfl
  | n + 1, x, h => by
    have := od_bits n (x / 2) (by rw [Nat.pow_succ] at h; omega)
    show x % 2 + 2 ^ 1 * od (2 ^ 1) (bits n (x / 2)) = x
    rw [this]; omega
theorem len_bits : ∀ (n x : Nat), (bits n x).length = n
  | 0, _ => rfl
  | n + 1, x => by simp [bits, len_bits n]
theorem le_bits : ∀ (n x : Nat), ∀ d ∈ bits n x, d ≤ 1
  | 0, _, d, h => by simp [bits] at h
  | n + 1, x, d, h => by
    simp only [bits, List.mem_cons] at h
    rcases h with rfl | h
    · omega
    · exact le_bits n _ d h

theorem q1 {c0 T1 : Nat} (h0 : c0 ≤ 8) : (c0 + 256 * T1) / 256 = T1 := by omega
theorem q2 {c0 c1 c2 T1 T2 T3 : Nat} (h0 : c0 ≤ 8) (h1 : c1 ≤ 8) (h2 : c2 ≤ 8) (e1 : T1 = c1 + 256 * T2) (e2 : T2 = c2 + 256 * T3) : c0 + 256 * T1 + T1 = (c0 + c1) + 256 * (c1 + c2) + 65536 * (T2 + T3) ∧ (c0 + 256 * T1 + T1) / 65536 = T2 + T3 := by
  have e : c0 + 256 * T1 + T1 = (c0 + c1) + 256 * (c1 + c2) + 65536 * (T2 + T3) := by omega
  refine ⟨e, ?_⟩
  rw [e]
  clear e e1 e2
  generalize T2 + T3 = V
  omega
theorem q3 {a b V S2 S3 R : Nat} (ha : a ≤ 16) (hb : b ≤ 16) {s0 s1 U : Nat} (h0 : s0 ≤ 16) (h1 : s1 ≤ 16) (e1 : V = s0 + 256 * (s1 + 256 * U)) (e2 : V + U = S2 + 256 * S3 + 65536 * R) (h2 : S2 ≤ 32) (h3 : S3 ≤ 32) :
    a + 256 * b + 65536 * V + V = (a + s0) + 256 * (b + s1) + 65536 * S2 + 16777216 * S3 + 4294967296 * R ∧ (a + 256 * b + 65536 * V + V) / 4294967296 = R := by
  have e : a + 256 * b + 65536 * V + V = (a + s0) + 256 * (b + s1) + 65536 * (V + U) := by omega
  rw [e, e2]
  clear e e1 e2
  constructor <;> omega
theorem q4 {p0 p1 S2 S3 R t R' : Nat} (e : R = t + 256 * R') (h : p0 + t ≤ 64) : (p0 + 256 * p1 + 65536 * S2 + 16777216 * S3 + 4294967296 * R + R) % 128 = p0 + t := by
  subst e
  omega
theorem last {c : List Nat} (hl : c.length = 8) (hc : ∀ d ∈ c, d ≤ 8) : let x := od (2 ^ 4 * 2 ^ 4) c; let y := x + x / 256; let z := y + y / 65536; let u := z + z / 4294967296; u % 128 = c.sum ∧ x ≤ 578721382704613384 := by
  match c, hl with
  | [c0, c1, c2, c3, c4, c5, c6, c7], _ =>
    have h0 := hc c0 (by simp); have h1 := hc c1 (by simp); have h2 := hc c2 (by simp); have h3 := hc c3 (by simp)
    have h4 := hc c4 (by simp); have h5 := hc c5 (by simp); have h6 := hc c6 (by simp); have h7 := hc c7 (by simp)
    clear hc
    obtain ⟨T6, e6⟩ : ∃ T, T = c6 + 256 * c7 := ⟨_, rfl⟩
    obtain ⟨T5, e5⟩ : ∃ T, T = c5 + 256 * T6 := ⟨_, rfl⟩
    obtain ⟨T4, e4⟩ : ∃ T, T = c4 + 256 * T5 := ⟨_, rfl⟩
    obtain ⟨T3, e3⟩ : ∃ T, T = c3 + 256 * T4 := ⟨_, rfl⟩
    obtain ⟨T2, e2⟩ : ∃ T, T = c2 + 256 * T3 := ⟨_, rfl⟩
    obtain ⟨T1, e1⟩ : ∃ T, T = c1 + 256 * T2 := ⟨_, rfl⟩
    have hx : od (2 ^ 4 * 2 ^ 4) [c0, c1, c2, c3, c4, c5, c6, c7] = c0 + 256 * T1 := by
      rw [e1, e2, e3, e4, e5, e6]; rfl
    have hsum : [c0, c1, c2, c3, c4, c5, c6, c7].sum = c0 + c1 + (c2 + c3) + (c4 + c5 + c6 + c7) := by simp only [List.sum_cons, List.sum_nil]; omega
    simp only [hx, q1 h0, hsum]
    have g2 := q2 h0 h1 h2 e1 e2
    rw [g2.2]
    have k1 : T2 + T3 = (c2 + c3) + 256 * ((c3 + c4) + 256 * (T4 + T5)) := by clear g2 hx; omega
    have k2 : (T2 + T3) + (T4 + T5) = (c2 + c3 + c4 + c5) + 256 * (c3 + c4 + c5 + c6) + 65536 * (T4 + T5 + T6 + c7) := by clear g2 hx k1; omega
    have g3 := q3 (a := c0 + c1) (b := c1 + c2) (by omega) (by omega) (by omega) (by omega) k1 k2 (by omega) (by omega)
    rw [g2.1, g3.2, g3.1]
    have k3 : T4 + T5 + T6 + c7 = (c4 + c5 + c6 + c7) + 256 * (T5 + T6 + c7) := by clear g2 g3 hx k1 k2; omega
    refine ⟨q4 k3 (by clear g2 g3 k1 k2 k3; omega), ?_⟩
    clear g2 g3 k1 k2 k3 hx
    omega

/-- how many bits of a word are set -/
def pc (x : BitVec 64) : Nat := (bits 64 x.toNat).sum
def m0 : BitVec 64 := 6148914691236517205#64
def m1 : BitVec 64 := 3689348814741910323#64
def m2 : BitVec 64 := 1085102592571150095#64
def x1 (x : BitVec 64) : BitVec 64 := ((x >>> 1) &&& m0) + (x &&& m0)
def x2 (x : BitVec 64) : BitVec 64 := ((x >>> 2) &&& m1) + (x &&& m1)
def x3 (x : BitVec 64) : BitVec 64 := ((x >>> 4) + x) &&& m2
def x4 (x : BitVec 64) : BitVec 64 := x + (x >>> 8)
def x5 (x : BitVec 64) : BitVec 64 := x + (x >>> 16)
def x6 (x : BitVec 64) : BitVec 64 := x + (x >>> 32)
theorem bv_step {x : BitVec 64} {j y a b : Nat} {m : BitVec 64} (hm : m.toNat = a) (hb : ((x.toNat / 2 ^ j) &&& a) + (x.toNat &&& a) = b) (hy : b < 18446744073709551616) (_ : y = b) : (((x >>> j) &&& m) + (x &&& m)).toNat = b := by
  rw [BitVec.toNat_add, BitVec.toNat_and, BitVec.toNat_and, BitVec.toNat_ushiftRight, Nat.shiftRight_eq_div_pow, hm, hb, Nat.mod_eq_of_lt hy]
theorem od_lt (B : Nat) : ∀ (ds : List Nat), (∀ d ∈ ds, d < B) → od B ds < B ^ ds.length
  | [], _ => by simp [od]
  | d :: ds, h => by
    have h1 := h d (by simp)
    have h2 := od_lt B ds (fun x hx => h x (by simp [hx]))
    have h3 : B * (od B ds + 1) ≤ B * B ^ ds.length := Nat.mul_le_mul_left _ h2
    rw [Nat.mul_add] at h3
    simp only [List.length_cons, Nat.pow_succ, od]
    rw [Nat.mul_comm (B ^ ds.length)]
    omega
theorem step3_lt {k m : Nat} {ds : List Nat} (hl : 0 < ds.length) (hm : m + m < 2 ^ k) (hd : ∀ d ∈ ds, d ≤ m) : od (2 ^ k) ds / 2 ^ k + od (2 ^ k) ds < (2 ^ k) ^ ds.length := by
  match ds, hl, hd with
  | a :: t, _, hd =>
    have ha : a < 2 ^ k := by have := hd a (by simp); omega
    have e : od (2 ^ k) (a :: t) / 2 ^ k = od (2 ^ k) t := by
      show (a + 2 ^ k * od (2 ^ k) t) / 2 ^ k = _
      rw [Nat.add_mul_div_left _ _ (Nat.two_pow_pos k), Nat.div_eq_of_lt ha, Nat.zero_add]
    rw [e, od_nb]
    have := od_lt (2 ^ k) (nb (a :: t)) (fun d h => Nat.lt_of_le_of_lt (le_nb _ hd d h) hm)
    rwa [len_nb] at this
theorem count_ok (x : BitVec 64) : (x6 (x5 (x4 (x3 (x2 (x1 x)))))).toNat % 128 = pc x ∧ (x6 (x5 (x4 (x3 (x2 (x1 x)))))).toNat < 9223372036854775808 := by
  have hx := x.isLt
  have e0 := od_bits 64 x.toNat hx
  have l0 := len_bits 64 x.toNat
  have b0 := le_bits 64 x.toNat
  have s1 := step (k := 1) (n := 31) (m := 1) (ds := bits 64 x.toNat) l0 (by decide) b0
  rw [e0] at s1
  have l1 := len_ps 32 _ l0
  have b1 := le_ps _ b0
  have y1 : (x1 x).toNat = od (2 ^ 2) (ps (bits 64 x.toNat)) := by
    have hlt := od_lt (2 ^ 2) (ps (bits 64 x.toNat)) (fun d h => by have := b1 d h; omega)
    rw [l1] at hlt
    exact bv_step (j := 1) (m := m0) (by decide) s1 hlt rfl
  have s2 := step (k := 2) (n := 15) (m := 1 + 1) (ds := ps (bits 64 x.toNat)) l1 (by decide) b1
  rw [← y1] at s2
  have l2 := len_ps 16 _ l1
  have b2 := le_ps _ b1
  have y2 : (x2 (x1 x)).toNat = od (2 ^ 4) (ps (ps (bits 64 x.toNat))) := by
    have hlt := od_lt (2 ^ 4) (ps (ps (bits 64 x.toNat))) (fun d h => by have := b2 d h; omega)
    rw [l2] at hlt
    exact bv_step (j := 2) (m := m1) (by decide) s2 hlt rfl
  have s3 := step3 (k := 4) (n := 7) (m := 1 + 1 + (1 + 1)) (ds := ps (ps (bits 64 x.toNat))) l2 (by decide) b2
  rw [← y2] at s3
  have l3 := len_ps 8 _ l2
  have b3 := le_ps _ b2
  have hl := last l3 b3
  have hd8 : od (2 ^ 4 * 2 ^ 4) (ps (ps (ps (bits 64 x.toNat)))) ≤ 578721382704613384 := hl.2
  have y3 : (x3 (x2 (x1 x))).toNat = od (2 ^ 4 * 2 ^ 4) (ps (ps (ps (bits 64 x.toNat)))) := by
    have hs := step3_lt (k := 4) (m := 1 + 1 + (1 + 1)) (ds := ps (ps (bits 64 x.toNat))) (by rw [l2]; decide) (by decide) b2
    rw [← y2, l2] at hs
    replace hs : ((x2 (x1 x)).toNat / 2 ^ 4 + (x2 (x1 x)).toNat) < 18446744073709551616 := hs
    show ((((x2 (x1 x)) >>> 4) + (x2 (x1 x))) &&& m2).toNat = _
    rw [BitVec.toNat_and, BitVec.toNat_add, BitVec.toNat_ushiftRight, Nat.shiftRight_eq_div_pow, Nat.mod_eq_of_lt hs, ← s3]
    rfl
  have hsum : (ps (ps (ps (bits 64 x.toNat)))).sum = pc x := by
    rw [sum_ps 8 _ l2, sum_ps 16 _ l1, sum_ps 32 _ l0]; rfl
  have hl1 := hl.1
  rw [hsum, ← y3] at hl1
  rw [← y3] at hd8
  generalize x3 (x2 (x1 x)) = v at hl1 hd8
  have z4 : (x4 v).toNat = v.toNat + v.toNat / 256 := by
    show (v + (v >>> 8)).toNat = _
    rw [BitVec.toNat_add, BitVec.toNat_ushiftRight, Nat.shiftRight_eq_div_pow]; omega
  have z5 : (x5 (x4 v)).toNat = (x4 v).toNat + (x4 v).toNat / 65536 := by
    show (x4 v + (x4 v >>> 16)).toNat = _
    rw [BitVec.toNat_add, BitVec.toNat_ushiftRight, Nat.shiftRight_eq_div_pow]; omega
  have z6 : (x6 (x5 (x4 v))).toNat = (x5 (x4 v)).toNat + (x5 (x4 v)).toNat / 4294967296 := by
    show (x5 (x4 v) + (x5 (x4 v) >>> 32)).toNat = _
    rw [BitVec.toNat_add, BitVec.toNat_ushiftRight, Nat.shiftRight_eq_div_pow]; omega
  refine ⟨?_, by omega⟩
  rw [z6, z5, z4]
  exact hl1
end Go.Proofs.YtejaonodaplbhaaDoor.Pop
