/- Steps shared by the proofs of this seat's statements (part 3). -/
import Derived.Test.YtngpmpmhpggpgaaGreatDoorM2
import Derived.Laws.BitsAllLaws
import Derived.Test.YtngpmpmhpggpgaaGreatDoorM1
section
/- Numbers of the field, sums and cells of keys. -/
namespace Go.Proofs.YtngpmpmhpggpgaaGreatDoorF
open Go Go.Proofs.Vm

theorem u64w (x : Int) : IntKind.u64.wrap x = x % 18446744073709551616 := by simp [IntKind.wrap, IntKind.bits, IntKind.signed]
theorem u64_id {x : Int} (h0 : 0 ≤ x) (h1 : x < 18446744073709551616) : IntKind.u64.wrap x = x := by rw [u64w]; omega
theorem and_low (x : Int) (n : Nat) (hn : n ≤ 63) (h0 : 0 ≤ x) (h1 : x < 18446744073709551616) : Go.bits .and .u64 x ((2 ^ n - 1 : Nat) : Int) = x % ((2 ^ n : Nat) : Int) := by
  have hp : 2 ^ n ≤ 2 ^ 63 := Nat.pow_le_pow_right (by omega) hn
  have hq : 2 ^ 63 = 9223372036854775808 := by decide
  rw [u64_and x _ h0 h1 (by omega) (by omega)]
  rw [show ((2 ^ n - 1 : Nat) : Int).toNat = 2 ^ n - 1 by omega, Nat.and_two_pow_sub_one_eq_mod]
  obtain ⟨m, rfl⟩ := Int.eq_ofNat_of_zero_le h0
  simp
theorem and_P (x : Int) (h0 : 0 ≤ x) (h1 : x < 18446744073709551616) : Go.bits .and .u64 x 2305843009213693951 = x % 2305843009213693952 := and_low x 61 (by omega) h0 h1
theorem and_32 (x : Int) (h0 : 0 ≤ x) (h1 : x < 18446744073709551616) : Go.bits .and .u64 x 4294967295 = x % 4294967296 := and_low x 32 (by omega) h0 h1
theorem and_1 (x : Int) (h0 : 0 ≤ x) (h1 : x < 18446744073709551616) : Go.bits .and .u64 x 1 = x % 2 := and_low x 1 (by omega) h0 h1

theorem or_join' (x y : Int) (n : Nat) (hx0 : 0 ≤ x) (hx1 : x < 18446744073709551616) (hx : x % ((2 ^ n : Nat) : Int) = 0) (hy0 : 0 ≤ y) (hy1 : y < ((2 ^ n : Nat) : Int)) (hy2 : y < 18446744073709551616) : Go.bits .or .u64 y x = y + x := by
  rw [u64_or y x hy0 hy2 hx0 hx1]
  obtain ⟨a, rfl⟩ := Int.eq_ofNat_of_zero_le hx0
  obtain ⟨b, rfl⟩ := Int.eq_ofNat_of_zero_le hy0
  have h := nat_join n a b (by omega) (by omega)
  simp only [Int.toNat_natCast]
  rw [Nat.or_comm, h]
  simp; omega
theorem mul_bound {x y : Int} (n : Int) (h0 : 0 ≤ x) (h1 : x ≤ n) (h2 : 0 ≤ y) (h3 : y ≤ n) : 0 ≤ x * y ∧ x * y ≤ n * n :=
  ⟨Int.mul_nonneg h0 h2, Int.mul_le_mul h1 h3 h2 (by omega)⟩

theorem field_Of {a : Int} (h0 : 0 ≤ a) (h1 : a < 18446744073709551616) : TV.pu 87 [cI .u64 a] = some (cI .u64 (a % 2305843009213693951)) := by
  refine run87 (by simp) ?_
  simp [Tryz.f87, bin_shr, and_P a h0 h1, IntKind.bits]
  rw [u64_id (x := a % 2305843009213693952 + a / 2305843009213693952) (by omega) (by omega)]
  split
  · rw [u64_id (by omega) (by omega)]; omega
  · omega

theorem field_Add {a b : Int} (h0 : 0 ≤ a) (h1 : a < 18446744073709551616) (h2 : 0 ≤ b) (h3 : b < 18446744073709551616) : TV.pu 61 [cI .u64 a, cI .u64 b] = some (cI .u64 ((a + b) % 2305843009213693951)) := by
  refine run61 (by simp) ?_
  have e : IntKind.u64.wrap (a % 2305843009213693951 + b % 2305843009213693951) = a % 2305843009213693951 + b % 2305843009213693951 := u64_id (by omega) (by omega)
  simp [Tryz.f61, field_Of h0 h1, field_Of h2 h3, e, field_Of (a := a % 2305843009213693951 + b % 2305843009213693951) (by omega) (by omega)]

theorem Mul64 {x y : Int} (h0 : 0 ≤ x) (h1 : x < 18446744073709551616) (h2 : 0 ≤ y) (h3 : y < 18446744073709551616) : TV.pu 88 [cI .u64 x, cI .u64 y] = some (.tup [(false, [.v (.int .u64 (x * y / 18446744073709551616))]), (false, [.v (.int .u64 (x * y % 18446744073709551616))])]) := by
  refine run88 (by simp) ?_
  simp [Tryz.f88, bin_shr, IntKind.bits, and_32 x h0 h1, and_32 y h2 h3]
  obtain ⟨x1, hx1⟩ : ∃ z, z = x / 4294967296 := ⟨_, rfl⟩
  obtain ⟨x0, hx0⟩ : ∃ z, z = x % 4294967296 := ⟨_, rfl⟩
  obtain ⟨y1, hy1⟩ : ∃ z, z = y / 4294967296 := ⟨_, rfl⟩
  obtain ⟨y0, hy0⟩ : ∃ z, z = y % 4294967296 := ⟨_, rfl⟩
  rw [← hx1, ← hx0, ← hy1, ← hy0]
  have ex : x = x1 * 4294967296 + x0 := by omega
  have ey : y = y1 * 4294967296 + y0 := by omega
  have b11 := mul_bound (x := x1) (y := y1) 4294967295 (by omega) (by omega) (by omega) (by omega)
  have b10 := mul_bound (x := x1) (y := y0) 4294967295 (by omega) (by omega) (by omega) (by omega)
  have b01 := mul_bound (x := x0) (y := y1) 4294967295 (by omega) (by omega) (by omega) (by omega)
  have b00 := mul_bound (x := x0) (y := y0) 4294967295 (by omega) (by omega) (by omega) (by omega)
  have exy : x * y = x1 * y1 * 18446744073709551616 + (x1 * y0 + x0 * y1) * 4294967296 + x0 * y0 := by rw [ex, ey]; grind
  rw [exy]
  generalize x1 * y1 = p11 at *
  generalize x1 * y0 = p10 at *
  generalize x0 * y1 = p01 at *
  generalize x0 * y0 = p00 at *
  clear hx1 hx0 hy1 hy0 ex ey exy h0 h1 h2 h3
  rw [u64_id (x := p11) (by omega) (by omega), u64_id (x := p10) (by omega) (by omega), u64_id (x := p01) (by omega) (by omega), u64_id (x := p00) (by omega) (by omega)]
  rw [u64_id (x := p10 + p00 / 4294967296) (by omega) (by omega)]
  rw [and_32 _ (by omega) (by omega)]
  rw [u64_id (x := (p10 + p00 / 4294967296) % 4294967296 + p01) (by omega) (by omega)]
  rw [u64_id (x := p11 + (p10 + p00 / 4294967296) / 4294967296) (by omega) (by omega)]
  rw [u64_id (x := p11 + (p10 + p00 / 4294967296) / 4294967296 + ((p10 + p00 / 4294967296) % 4294967296 + p01) / 4294967296) (by omega) (by omega)]
  rw [u64w]
  omega

theorem field_Mul {a b : Int} (h0 : 0 ≤ a) (h1 : a < 18446744073709551616) (h2 : 0 ≤ b) (h3 : b < 18446744073709551616) : TV.pu 62 [cI .u64 a, cI .u64 b] = some (cI .u64 (a * b % 2305843009213693951)) := by
  refine run62 (by simp) ?_
  have hb := mul_bound (x := a % 2305843009213693951) (y := b % 2305843009213693951) 2305843009213693950 (by omega) (by omega) (by omega) (by omega)
  have hm := Mul64 (x := a % 2305843009213693951) (y := b % 2305843009213693951) (by omega) (by omega) (by omega) (by omega)
  rw [Int.mul_emod a b]
  generalize a % 2305843009213693951 * (b % 2305843009213693951) = N at hb hm ⊢
  simp [Tryz.f62, field_Of h0 h1, field_Of h2 h3, hm, bin_shr, bin_shl, IntKind.bits]
  rw [and_P _ (by omega) (by omega)]
  rw [u64_id (x := N / 18446744073709551616 * 8) (by omega) (by omega)]
  rw [or_join' (N / 18446744073709551616 * 8) (N % 18446744073709551616 / 2305843009213693952) 3 (by omega) (by omega) (by omega) (by omega) (by omega) (by omega)]
  rw [u64_id (by omega) (by omega), field_Of (by omega) (by omega)]
  simp
  omega
theorem int_sq (x : Int) : x ^ 2 = x * x := by rw [Int.pow_succ, Int.pow_succ, Int.pow_zero, Int.one_mul]
theorem emod_pow (a n : Int) (k : Nat) : (a % n) ^ k % n = a ^ k % n := by
  induction k with
  | zero => simp
  | succ k ih => rw [Int.pow_succ, Int.pow_succ, Int.mul_emod, ih, Int.emod_emod_of_dvd _ (Int.dvd_refl n), ← Int.mul_emod]

theorem field_Pow {x : Int} {n : Nat} (h0 : 0 ≤ x) (h1 : x < 18446744073709551616) (hn : (n : Int) < 18446744073709551616) : TV.pu 103 [cI .u64 x, cI .u64 n] = some (cI .u64 (x ^ n % 2305843009213693951)) := by
  refine run103 (by simp) ?_
  simp [Tryz.f103, field_Of h0 h1]
  obtain ⟨I, hI⟩ : ∃ I : Nat → St → Prop, ∀ k s, I k s ↔ (∃ e y o, s = ⟨e, []⟩ ∧ e 0 = vI .u64 y ∧ e 1 = vI .u64 (k : Nat) ∧ e 5 = vI .u64 o ∧ 0 ≤ y ∧ y < 2305843009213693951 ∧ 0 ≤ o ∧ o < 2305843009213693951 ∧ (k : Int) < 18446744073709551616 ∧ o * y ^ k % 2305843009213693951 = x ^ n % 2305843009213693951) := ⟨_, fun _ _ => Iff.rfl⟩
  refine wpL_ind I ?_ n _ ((hI _ _).2 ⟨_, x % 2305843009213693951, 1, rfl, by simp, by simp, by simp, by omega, by omega, by omega, by omega, hn, by rw [Int.one_mul, emod_pow]⟩)
  intro k s hs
  obtain ⟨e, y, o, rfl, e0, e1, e5, y0, y1, o0, o1, k1, hk⟩ := (hI _ _).1 hs
  have hm := field_Mul (a := y) (b := y) y0 (by omega) y0 (by omega)
  have ho := field_Mul (a := o) (b := y) o0 (by omega) y0 (by omega)
  have key : ∀ o : Int, (o * (y * y % 2305843009213693951) ^ (k / 2)) % 2305843009213693951 = (o * y ^ (2 * (k / 2))) % 2305843009213693951 := by
    intro o
    rw [Int.mul_emod, emod_pow, ← Int.mul_emod, ← int_sq, ← Int.pow_mul]
  simp [e0, e1, e5, hm, ho, bin_shr, IntKind.bits, and_1 (k : Int) (by omega) (by omega)]
  by_cases hz : k = 0
  · subst hz
    rw [if_neg (by omega)]
    simp at hk
    rw [← hk]
    omega
  · rw [if_pos (by omega)]
    split
    · refine ⟨k / 2, by omega, (hI _ _).2 ⟨_, y * y % 2305843009213693951, o * y % 2305843009213693951, rfl, by simp, by simp, by simp, by omega, by omega, by omega, by omega, by omega, ?_⟩⟩
      rw [key, ← hk]
      have e2 : y ^ k = y * y ^ (2 * (k / 2)) := by
        rw [Int.mul_comm, ← Int.pow_succ]; congr 1; omega
      rw [e2, ← Int.mul_assoc, Int.mul_emod, Int.emod_emod_of_dvd _ (Int.dvd_refl _), ← Int.mul_emod]
    · refine ⟨k / 2, by omega, (hI _ _).2 ⟨_, y * y % 2305843009213693951, o, rfl, by simp, by simp, by simp [e5], by omega, by omega, by omega, by omega, by omega, ?_⟩⟩
      rw [key, ← hk, show 2 * (k / 2) = k by omega]
theorem byt_range (s : ByteArray) (i : Int) : 0 ≤ byt s i ∧ byt s i < 256 := by
  unfold byt
  split
  · rename_i b _
    have := b.toNat_lt
    omega
  · omega
theorem byt_out (s : ByteArray) (i : Int) (h0 : 0 ≤ i) (h : (s.size : Int) ≤ i) : byt s i = 0 := by
  unfold byt
  have : s[i.toNat]? = none := by simp; omega
  rw [this]
def fP : Int := 2305843009213693951
/-- Four bytes as a number; noughts behind the end. -/
def hword (s : ByteArray) (i : Int) : Int := ((byt s i * 256 + byt s (i + 1)) * 256 + byt s (i + 2)) * 256 + byt s (i + 3)
/-- What is reckoned of the first n words. -/
def hpoly (a : Int) (s : ByteArray) : Nat → Int
  | 0 => (s.size : Int) % 2305843009213693951
  | n + 1 => (hpoly a s n * a + (hword s (4 * (n : Int)) + 1)) % 2305843009213693951
def nwords (s : ByteArray) : Nat := (s.size + 3) / 4
def hsum (seed : Int) (s : ByteArray) : Int := (hpoly ((seed + 2) % 2305843009213693951) s (nwords s) * ((seed + 2) % 2305843009213693951) % 2305843009213693951) ^ 17 % 2305843009213693951
def hrow (seed i : Int) : Int := (((seed + 3) * ((if i < 0 then 0 else i) + 2) + 5) % 2305843009213693951) ^ 2 % 2305843009213693951
def hcell (seed : Int) (s : ByteArray) (n : Int) : Int := if n < 1 then 0 else hsum seed s % n
def hsign (seed : Int) (s : ByteArray) : Int := hsum seed s % 2 * 2 - 1

theorem hsum_range (seed : Int) (s : ByteArray) : 0 ≤ hsum seed s ∧ hsum seed s < 2305843009213693951 := by
  unfold hsum; omega
theorem hrow_range (seed i : Int) : 0 ≤ hrow seed i ∧ hrow seed i < 2305843009213693951 := by
  unfold hrow; omega
theorem hcell_range (seed : Int) (s : ByteArray) (n : Int) (h : 1 ≤ n) : 0 ≤ hcell seed s n ∧ hcell seed s n < n := by
  unfold hcell
  rw [if_neg (by omega)]
  exact ⟨Int.emod_nonneg _ (by omega), Int.emod_lt_of_pos _ (by omega)⟩
theorem hsign_or (seed : Int) (s : ByteArray) : hsign seed s = 1 ∨ hsign seed s = -1 := by
  unfold hsign; omega
theorem hword_range (s : ByteArray) (i : Int) : 0 ≤ hword s i ∧ hword s i < 4294967296 := by
  have a := byt_range s i; have b := byt_range s (i + 1); have c := byt_range s (i + 2); have d := byt_range s (i + 3)
  unfold hword; omega
theorem hpoly_range (a : Int) (s : ByteArray) (n : Nat) : 0 ≤ hpoly a s n ∧ hpoly a s n < 2305843009213693951 := by
  cases n with
  | zero => unfold hpoly; omega
  | succ n => unfold hpoly; omega

theorem or_join (x y : Int) (n : Nat) (hx0 : 0 ≤ x) (hx1 : x < 18446744073709551616) (hx : x % ((2 ^ n : Nat) : Int) = 0) (hy0 : 0 ≤ y) (hy1 : y < ((2 ^ n : Nat) : Int)) (hy2 : y < 18446744073709551616) : Go.bits .or .u64 x y = x + y := by
  rw [u64_or x y hx0 hx1 hy0 hy2]
  obtain ⟨a, rfl⟩ := Int.eq_ofNat_of_zero_le hx0
  obtain ⟨b, rfl⟩ := Int.eq_ofNat_of_zero_le hy0
  have h := nat_join n a b (by omega) (by omega)
  simp only [Int.toNat_natCast]
  rw [h]
  simp

theorem hash_Row {s i : Int} (h0 : 0 ≤ s) (h1 : s < 18446744073709551616) (h2 : i < 9223372036854775808) (h3 : -9223372036854775808 ≤ i) : TV.pu 36 [cI .u64 s, cI .i64 i] = some (cI .u64 (hrow s i)) := by
  refine run36 (by simp) ?_
  obtain ⟨j, hj⟩ : ∃ j, j = if i < 0 then 0 else i := ⟨_, rfl⟩
  have hj0 : 0 ≤ j := by rw [hj]; split <;> omega
  have hj1 : j < 9223372036854775808 := by rw [hj]; split <;> omega
  obtain ⟨v1, h1'⟩ : ∃ v, v = (s + 3) % 2305843009213693951 := ⟨_, rfl⟩
  obtain ⟨v2, h2'⟩ : ∃ v, v = (j + 2) % 2305843009213693951 := ⟨_, rfl⟩
  obtain ⟨v3, h3'⟩ : ∃ v, v = v1 * v2 % 2305843009213693951 := ⟨_, rfl⟩
  obtain ⟨v4, h4'⟩ : ∃ v, v = (v3 + 5) % 2305843009213693951 := ⟨_, rfl⟩
  have e1 := field_Add (a := s) (b := 3) h0 h1 (by omega) (by omega)
  have e2 := field_Add (a := j) (b := 2) hj0 (by omega) (by omega) (by omega)
  have e3 := field_Mul (a := v1) (b := v2) (by omega) (by omega) (by omega) (by omega)
  have e4 := field_Add (a := v3) (b := 5) (by omega) (by omega) (by omega) (by omega)
  have e5 := field_Mul (a := v4) (b := v4) (by omega) (by omega) (by omega) (by omega)
  rw [← h1'] at e1
  rw [← h2'] at e2
  rw [← h3'] at e3
  rw [← h4'] at e4
  have ew : IntKind.u64.wrap j = j := u64_id hj0 (by omega)
  have em : (if i < 0 then 0 else i) = j := hj.symm
  simp [Tryz.f36, e1, em, ew, e2, e3, e4, e5]
  unfold hrow
  rw [em, int_sq]
  have hv : v4 = ((s + 3) * (j + 2) + 5) % 2305843009213693951 := by
    have : v3 = (s + 3) * (j + 2) % 2305843009213693951 := by rw [h3', h1', h2', ← Int.mul_emod]
    omega
  rw [hv]

/-- The first bytes of a word. -/
def hwp (s : ByteArray) (i : Int) : Nat → Int
  | 0 => 0
  | j + 1 => hwp s i j * 256 + byt s (i + j)
theorem hwp_range (s : ByteArray) (i : Int) : ∀ j : Nat, 0 ≤ hwp s i j ∧ hwp s i j < 256 ^ j
  | 0 => by simp [hwp]
  | j + 1 => by
    have := hwp_range s i j
    have := byt_range s (i + j)
    simp only [hwp]
    rw [Int.pow_succ]
    omega
theorem hwp_word (s : ByteArray) (i : Int) : hwp s i 4 = hword s i := by
  simp [hwp, hword]

theorem hash_Sum {seed : Int} {s : ByteArray} (h0 : 0 ≤ seed) (h1 : seed < 18446744073709551616) (hs : s.size ≤ 140737488351232) : TV.pu 89 [cI .u64 seed, cS s] = some (cI .u64 (hsum seed s)) := by
  refine run89 (by simp) ?_
  have ha := field_Add (a := seed) (b := 2) h0 h1 (by omega) (by omega)
  have ew : IntKind.u64.wrap (s.size : Int) = s.size := u64_id (by omega) (by omega)
  obtain ⟨a, hae⟩ : ∃ a, a = (seed + 2) % 2305843009213693951 := ⟨_, rfl⟩
  have ha0 : 0 ≤ a := by omega
  have ha1 : a < 2305843009213693951 := by omega
  rw [← hae] at ha
  simp [Tryz.f89, ha, ew]
  obtain ⟨I, hI⟩ : ∃ I : Nat → St → Prop, ∀ k s', I k s' ↔ (∃ e n, s' = ⟨e, []⟩ ∧ e 1 = vS s ∧ e 5 = vI .u64 a ∧ e 6 = vI .u64 (hpoly a s n) ∧ e 7 = vI .i64 (4 * (n : Nat) : Int) ∧ n + k = nwords s) := ⟨_, fun _ _ => Iff.rfl⟩
  have e0 : hpoly a s 0 = (s.size : Int) := by
    show (s.size : Int) % 2305843009213693951 = _
    omega
  refine wpL_ind I ?_ (nwords s) _ ((hI _ _).2 ⟨_, 0, rfl, by simp, by simp, by simp [e0], by simp, by omega⟩)
  intro k st hst
  obtain ⟨e, n, rfl, e1, e5, e6, e7, hk⟩ := (hI _ _).1 hst
  have hp := hpoly_range a s n
  simp [e1, e5, e6, e7]
  by_cases c : k = 0
  · have hsz : ¬ 4 * (n : Int) < (s.size : Int) := by unfold nwords at hk; omega
    have hn : n = nwords s := by omega
    rw [if_neg hsz]
    have hm := field_Mul (a := hpoly a s n) (b := a) hp.1 (by omega) ha0 (by omega)
    have hw := field_Pow (x := hpoly a s n * a % 2305843009213693951) (n := 17) (by omega) (by omega) (by omega)
    simp at hw
    simp [hm, hw]
    unfold hsum
    rw [← hae, ← hn]
  · have hsz : 4 * (n : Int) < (s.size : Int) := by unfold nwords at hk; omega
    rw [if_pos hsz]
    obtain ⟨J, hJ⟩ : ∃ J : Nat → St → Prop, ∀ k s', J k s' ↔ (∃ e j, s' = ⟨e, []⟩ ∧ e 1 = vS s ∧ e 5 = vI .u64 a ∧ e 6 = vI .u64 (hpoly a s n) ∧ e 7 = vI .i64 (4 * (n : Nat) : Int) ∧ e 8 = vI .u64 (hwp s (4 * (n : Nat) : Int) j) ∧ e 21 = vI .i64 (j : Nat) ∧ j + k = 4) := ⟨_, fun _ _ => Iff.rfl⟩
    refine wpL_ind J ?_ 4 _ ((hJ _ _).2 ⟨_, 0, rfl, by simp [e1], by simp [e5], by simp [e6], by simp [e7], by simp [hwp], by simp, by omega⟩)
    intro q st hst
    obtain ⟨e', j, rfl, f1, f5, f6, f7, f8, f21, hq⟩ := (hJ _ _).1 hst
    have hr := hwp_range s (4 * (n : Int)) j
    have hb := byt_range s (4 * (n : Int) + j)
    have w1 : IntKind.i64.wrap (4 * (n : Int) + j) = 4 * (n : Int) + j := w64_id (by omega) (by omega)
    have w2 : IntKind.u64.wrap (byt s (4 * (n : Int) + j)) = byt s (4 * (n : Int) + j) := u64_id hb.1 (by omega)
    have w3 : IntKind.i64.wrap ((j : Int) + 1) = ((j + 1 : Nat) : Int) := by rw [w64_id (by omega) (by omega)]; omega
    by_cases hj : j < 4
    · have hr2 : hwp s (4 * (n : Int)) j < 16777216 := by
        have : (256 : Int) ^ j ≤ 256 ^ 3 := by
          have : j = 0 ∨ j = 1 ∨ j = 2 ∨ j = 3 := by omega
          rcases this with rfl | rfl | rfl | rfl <;> decide
        omega
      have w4 : IntKind.u64.wrap (hwp s (4 * (n : Int)) j * 256) = hwp s (4 * (n : Int)) j * 256 := u64_id (by omega) (by omega)
      have hj' : ((j : Int) < 4) := by omega
      by_cases hc : 4 * (n : Int) + j < s.size
      · have hx := idx_str us9 (s := s) (k := .i64) (i := 4 * (n : Int) + j) (by omega) hc
        have ho := or_join (hwp s (4 * (n : Int)) j * 256) (byt s (4 * (n : Int) + j)) 8 (by omega) (by omega) (by omega) (by omega) (by omega) (by omega)
        simp [f1, f5, f6, f7, f8, f21, bin_shl, IntKind.bits, w1, w2, w3, w4, hj', hc, hx, ho]
        exact ⟨q - 1, by omega, (hJ _ _).2 ⟨_, j + 1, rfl, by simp [f1], by simp [f5], by simp [f6], by simp [f7], by simp [hwp], by simp, by omega⟩⟩
      · have hx := byt_out s (4 * (n : Int) + j) (by omega) (by omega)
        simp [f1, f5, f6, f7, f8, f21, bin_shl, IntKind.bits, w1, w3, w4, hj', hc]
        exact ⟨q - 1, by omega, (hJ _ _).2 ⟨_, j + 1, rfl, by simp [f1], by simp [f5], by simp [f6], by simp [f7], by simp [hwp, hx], by simp, by omega⟩⟩
    · have hj4 : j = 4 := by omega
      subst hj4
      have hw := hword_range s (4 * (n : Int))
      rw [hwp_word] at f8
      have w5 : IntKind.u64.wrap (hword s (4 * (n : Int)) + 1) = hword s (4 * (n : Int)) + 1 := u64_id (by omega) (by omega)
      have hm := field_Mul (a := hpoly a s n) (b := a) hp.1 (by omega) ha0 (by omega)
      obtain ⟨v, hv⟩ : ∃ v, v = hpoly a s n * a % 2305843009213693951 := ⟨_, rfl⟩
      rw [← hv] at hm
      have had := field_Add (a := v) (b := hword s (4 * (n : Int)) + 1) (by omega) (by omega) (by omega) (by omega)
      have w6 : IntKind.i64.wrap (4 * (n : Int) + 4) = 4 * (n : Int) + 4 := w64_id (by omega) (by omega)
      simp [f5, f6, f7, f8, f21, hm, w5, had, w6]
      refine ⟨k - 1, by omega, (hI _ _).2 ⟨_, n + 1, rfl, by simp [f1], by simp [f5], ?_, ?_, by omega⟩⟩
      · simp [hpoly, hv]
      · simp; omega

theorem hash_Cell {seed n : Int} {s : ByteArray} (h0 : 0 ≤ seed) (h1 : seed < 18446744073709551616) (hs : s.size ≤ 140737488351232) (hn : n < 9223372036854775808) : TV.pu 92 [cI .u64 seed, cS s, cI .i64 n] = some (cI .i64 (hcell seed s n)) := by
  refine run92 (by simp) ?_
  have hr := hsum_range seed s
  by_cases c : n < 1
  · simp [Tryz.f92, c, hcell]
  · have h2 := Int.emod_nonneg (hsum seed s) (show n ≠ 0 by omega)
    have h3 := Int.emod_lt_of_pos (hsum seed s) (show 0 < n by omega)
    have e1 : IntKind.u64.wrap n = n := u64_id (by omega) (by omega)
    have e2 : (hsum seed s).tmod n = hsum seed s % n := Int.tmod_eq_emod_of_nonneg hr.1
    have e3 : IntKind.i64.wrap (hsum seed s % n) = hsum seed s % n := w64_id (by omega) (by omega)
    have e4 : n ≠ 0 := by omega
    simp [Tryz.f92, c, hcell, hash_Sum h0 h1 hs, e1, bin_rem e4, e2, e3]

end Go.Proofs.YtngpmpmhpggpgaaGreatDoorF
end

section
/- A heap in memory: above, swap. -/
set_option maxRecDepth 8192
set_option maxHeartbeats 2000000
namespace Go.Proofs.YtngpmpmhpggpgaaGreatDoorF
open Go Go.Proofs.Vm

/-- A heap in its three places. -/
def hH (K : Hp) (hi si mi : Nat) (room : Int) (l : List Itm) (M : MS) (L : Hp) : Hp :=
  hq K si mi hi (.clo (l.map cItm) false) M.ent (.opn [[.c (.v (.int .i64 room)), .sl si 0 l.length l.length, .mp mi]] false) L
def hP (hi : Nat) : AV := .one (.ptr ⟨hi, 0, 0, 1⟩)

theorem wr_item (l : List Itm) (i : Nat) (a : ByteArray) (n : Int) : Ent.wrC (l.map cItm) i 0 [.v (.string a), .v (.int .i64 n)] = (l.set i (a, n)).map cItm := by
  unfold Ent.wrC
  apply List.ext_getElem?
  intro j
  rw [List.getElem?_modify, List.getElem?_map, List.getElem?_map, List.getElem?_set]
  by_cases h : i = j
  · subst h
    cases hl : l[i]? with
    | none =>
      have := List.getElem?_eq_none_iff.1 hl
      simp; omega
    | some x =>
      have := (List.getElem?_eq_some_iff.1 hl).1
      simp [cItm, wr, this]
  · simp [h]
theorem wr_count {l : List Itm} {i : Nat} (h : i < l.length) (n : Int) : Ent.wrC (l.map cItm) i 1 [.v (.int .i64 n)] = (l.set i (l[i].1, n)).map cItm := by
  unfold Ent.wrC
  apply List.ext_getElem?
  intro j
  rw [List.getElem?_modify, List.getElem?_map, List.getElem?_map, List.getElem?_set]
  by_cases hj : i = j
  · subst hj
    simp [cItm, wr, h]
  · simp [hj]

section
variable {K : Hp} {hi si mi : Nat} (t : Three K si mi hi) {room : Int} {l : List Itm} {M : MS} {L : Hp}
include t

theorem above {i k : Nat} (h1 : i < l.length) (h2 : k < l.length) :
    TV.S 94 [hP hi, vI .i64 i, vI .i64 k] (hH K hi si mi room l M L) = some (vB (decide (ordI l[i] l[k] > 0)), hH K hi si mi room l M L) := by
  refine run94 (by simp) (by simp) ?_
  have ga := fun x y z L => hq_a t x y z L
  have gb := fun x y z L => hq_b t x y z L
  have gc := fun x y z L => hq_c t x y z L
  have ho := horder l[i] l[k]
  simp only [cItm] at ho
  simp -implicitDefEqProofs [Tryz.f94, vnil, isPtr, fresh, cellsAt, cItm, hP, hH, ga, gc, h1, h2, ho]
theorem swap {i k : Nat} (h1 : i < l.length) (h2 : k < l.length) (hx : Ix l M.m) (ok : M.Ok) :
    TV.S 95 [hP hi, vI .i64 i, vI .i64 k] (hH K hi si mi room l M L) = some (und, hH K hi si mi room (swp l i k) ((M.put l[k].1 i).put l[i].1 k) L) := by
  refine run95 (by simp) (by simp [hH, hq_len]) ?_
  have ga := fun x y z L => hq_a t x y z L
  have gb := fun x y z L => hq_b t x y z L
  have gc := fun x y z L => hq_c t x y z L
  have sa := fun x y z u L => hq_sa t x y z u L
  have sb := fun x y z u L => hq_sb t x y z u L
  have sc := fun x y z u L => hq_sc t x y z u L
  have g1 := hx.at_ i h1
  have g2 := hx.at_ k h2
  have ok1 := MS.put_ok ok l[k].1 i
  have e1 : mget l[i].1 (mput l[k].1 (i : Int) M.m) = some (i : Int) := by rw [mget_put]; split <;> simp [g1]
  have hsw : (l.set i l[k]).set k l[i] = swp l i k := by unfold swp; rw [List.getElem?_eq_getElem h1, List.getElem?_eq_getElem h2]
  have s1 : ∀ h, (swp l i k)[i]'h = l[k] := fun h => by
    rw [swp_at h1 h2 i h1]
    split
    · rename_i e; subst e; rfl
    · rw [if_pos rfl]
  have s2 : ∀ h, (swp l i k)[k]'h = l[i] := fun h => by rw [swp_at h1 h2 k h2, if_pos rfl]
  have i1 : (mget l[k].1 M.m).isSome = true := by rw [g2]; rfl
  have i2 : (mget l[i].1 (M.put l[k].1 i).m).isSome = true := by rw [MS.put_m, e1]; rfl
  have m1 := fun (H : Hp) h => me_eq (H := H) (mi := mi) mty112 ok h i1
  have m2 := fun (H : Hp) h => es_eq (H := H) (mi := mi) (v := (i : Int)) ok h i1
  have m3 := fun (H : Hp) h => me_eq (H := H) (mi := mi) mty112 ok1 h i2
  have m4 := fun (H : Hp) h => es_eq (H := H) (mi := mi) (v := (k : Int)) ok1 h i2
  simp -implicitDefEqProofs [-List.map_set, s1, s2, Tryz.f95, vnil, isPtr, fresh, cellsAt, cItm, hP, hH, ga, gb, gc, sa, sb, h1, h2, vstore, cellsOf?, mapO, fzc, rch, frzAll, wr_item, hsw, swp_len, g2, m1, m2, m3, m4]
  rfl
end
end Go.Proofs.YtngpmpmhpggpgaaGreatDoorF
end

section
/- One rises, one sinks. -/
set_option maxRecDepth 8192
set_option maxHeartbeats 2000000
namespace Go.Proofs.YtngpmpmhpggpgaaGreatDoorF
open Go Go.Proofs.Vm

/-- One stands not behind another. -/
def Ah (x y : Itm) : Prop := ordI x y ≤ 0

section
variable {K : Hp} {hi si mi : Nat} (t : Three K si mi hi) {room : Int} {l : List Itm} {M : MS} {L : Hp}
include t

theorem up {i : Nat} (h1 : i < l.length) (hx : Ix l M.m) (ok : M.Ok) (ha : Almost Ah l i) (hl : l.length < 1000) :
    ∃ a K', TV.S 70 [hP hi, vI .i64 i] (hH K hi si mi room l M L) = some (a, K') ∧ ∃ (r : Nat) (l' : List Itm) (M' : MS), a = vI .i64 r ∧ K' = hH K hi si mi room l' M' L ∧ l'.Perm l ∧ Ix l' M'.m ∧ M'.Ok ∧ r < l'.length ∧ Almost Ah l' r ∧ Vm.Edge Ah l' r := by
  refine runX70 (by simp) (by rintro a K' ⟨r, l', M', -, rfl, -⟩; simp [hH, hq_len]) ?_
  simp -implicitDefEqProofs [Tryz.f70]
  obtain ⟨I, hI⟩ : ∃ I : Nat → St → Prop, ∀ k s', I k s' ↔ (∃ e l' M', s' = ⟨e, hH K hi si mi room l' M' L⟩ ∧ e 0 = hP hi ∧ e 1 = vI .i64 (k : Nat) ∧ l'.Perm l ∧ Ix l' M'.m ∧ M'.Ok ∧ k < l'.length ∧ Almost Ah l' k) := ⟨_, fun _ _ => Iff.rfl⟩
  refine wpL_ind I ?_ i _ ((hI _ _).2 ⟨_, l, M, rfl, by simp, by simp, .refl _, hx, ok, h1, ha⟩)
  intro k st hst
  obtain ⟨e, l', M', rfl, e0, e1, hp, hx', ok', hk, hal⟩ := (hI _ _).1 hst
  have hlen : l'.length = l.length := hp.length_eq
  by_cases c : k = 0
  · subst c
    simp -implicitDefEqProofs [e1]
    exact ⟨0, rfl, l', M', rfl, hp, hx', ok', hk, hal, fun h => absurd h (Nat.lt_irrefl _)⟩
  · have c' : 0 < (k : Int) := by omega
    have c2 : 0 < k := by omega
    have hq2 := fun (H : Hp) (t : TypeId) (x y : Operand) => bin_half (P := Tryz.prog) (H := H) (t := t) (x := x) (y := y) (k := k - 1) (by omega)
    have w1 : IntKind.i64.wrap ((k : Int) - 1) = ((k - 1 : Nat) : Int) := by rw [w64_id (by omega) (by omega)]; omega
    have hpar : (k - 1) / 2 < l'.length := by omega
    have hst' := fun (hlt : Ah (l'[(k - 1) / 2]'hpar) l'[k]) => up_step (A := Ah) ordI_le_trans hal c2 hk hlt
    have hdn : ¬ Ah l'[k] (l'[(k - 1) / 2]'hpar) ∨ Vm.Edge Ah l' k := by
      by_cases hh : Ah l'[k] (l'[(k - 1) / 2]'hpar)
      · exact .inr fun _ _ => hh
      · exact .inl hh
    have hle : (k - 1) / 2 < k := by omega
    generalize hpd : (k - 1) / 2 = p at *
    have hab := above t (room := room) (M := M') (L := L) hk hpar
    have hsw := swap t (room := room) (L := L) hk hpar hx' ok'
    by_cases d : ordI l'[k] l'[p] > 0
    · have d' : 0 < ordI l'[k] l'[p] := d
      simp -implicitDefEqProofs [e0, e1, c2, w1, hq2, hab, hsw, d']
      have hn := ordI_neg l'[k] l'[p]
      exact ⟨p, hle, (hI _ _).2 ⟨_, swp l' k p, _, rfl, by simp [e0], by simp, (swp_perm hk hpar).trans hp, by rw [MS.put_m, MS.put_m]; exact ix_swp hx' hk hpar, MS.put_ok (MS.put_ok ok' _ _) _ _, by rw [swp_len]; exact hpar, hst' (by unfold Ah; omega)⟩⟩
    · have d' : ¬ 0 < ordI l'[k] l'[p] := d
      simp -implicitDefEqProofs [e0, e1, c2, w1, hq2, hab, d']
      have he : Vm.Edge Ah l' k := by
        rcases hdn with hdn | hdn
        · exact absurd (show Ah l'[k] l'[p] by unfold Ah; omega) hdn
        · exact hdn
      exact ⟨k, rfl, l', M', rfl, hp, hx', ok', hk, hal, he⟩
theorem down {i : Nat} (h1 : i < l.length) (hx : Ix l M.m) (ok : M.Ok) (ha : Almost Ah l i) (hed : Vm.Edge Ah l i) (hl : l.length < 1000) :
    ∃ a K', TV.S 69 [hP hi, vI .i64 i] (hH K hi si mi room l M L) = some (a, K') ∧ ∃ (l' : List Itm) (M' : MS), a = und ∧ K' = hH K hi si mi room l' M' L ∧ l'.Perm l ∧ Ix l' M'.m ∧ M'.Ok ∧ HeapOk Ah l' := by
  refine runX69 (by simp) (by rintro a K' ⟨l', M', -, rfl, -⟩; simp [hH, hq_len]) ?_
  simp -implicitDefEqProofs [Tryz.f69]
  obtain ⟨I, hI⟩ : ∃ I : Nat → St → Prop, ∀ k s', I k s' ↔ (∃ e l' M' i, s' = ⟨e, hH K hi si mi room l' M' L⟩ ∧ e 0 = hP hi ∧ e 1 = vI .i64 (i : Nat) ∧ l'.Perm l ∧ Ix l' M'.m ∧ M'.Ok ∧ i < l'.length ∧ k = l.length - i ∧ Almost Ah l' i ∧ Vm.Edge Ah l' i) := ⟨_, fun _ _ => Iff.rfl⟩
  refine wpL_ind I ?_ (l.length - i) _ ((hI _ _).2 ⟨_, l, M, i, rfl, by simp, by simp, .refl _, hx, ok, h1, rfl, ha, hed⟩)
  intro k st hst
  obtain ⟨e, l', M', i, rfl, e0, e1, hp, hx', ok', hk, rfl, hal, he⟩ := (hI _ _).1 hst
  have hlen : l'.length = l.length := hp.length_eq
  have w1 : IntKind.i64.wrap (2 * (i : Int)) = ((2 * i : Nat) : Int) := by rw [w64_id (by omega) (by omega)]; omega
  have w2 : IntKind.i64.wrap (2 * (i : Int) + 1) = ((2 * i + 1 : Nat) : Int) := by rw [w64_id (by omega) (by omega)]; omega
  have w3 : IntKind.i64.wrap (2 * (i : Int) + 2) = ((2 * i + 2 : Nat) : Int) := by rw [w64_id (by omega) (by omega)]; omega
  have hdi := ordI_neg
  have htop : ∀ t' : Nat, ∀ ht : t' < l'.length, t' ≠ i → (t' - 1) / 2 = i → 0 < t' → Ah l'[i] l'[t'] → (∀ c, 0 < c → (c - 1) / 2 = i → ∀ hc : c < l'.length, Ah l'[c] l'[t']) → Almost Ah (swp l' i t') t' ∧ Vm.Edge Ah (swp l' i t') t' := fun t' ht _ hp0 h0 hlt hoth => down_step hal he hk ht h0 hp0 hlt fun c c0 cp _ hc => hoth c c0 cp hc
  have hend : (∀ c, 0 < c → (c - 1) / 2 = i → ∀ hc : c < l'.length, Ah l'[c] l'[i]) → HeapOk Ah l' := fun h => down_end hal he fun c c0 cp h0 hc => by
    have := h c c0 cp hc
    simp only [cp]
    exact this
  simp -implicitDefEqProofs [e1, w1, w2]
  obtain ⟨J, hJ⟩ : ∃ J : Nat → St → Prop, ∀ k s', J k s' ↔ (∃ e' t' kk, s' = ⟨e', hH K hi si mi room l' M' L⟩ ∧ e' 0 = hP hi ∧ e' 1 = vI .i64 (i : Nat) ∧ e' 4 = vI .i64 (t' : Nat) ∧ e' 5 = vI .i64 (kk : Nat) ∧ k = 2 * i + 3 - kk ∧ 2 * i + 1 ≤ kk ∧ kk ≤ 2 * i + 3 ∧ (t' = i ∨ 0 < t' ∧ (t' - 1) / 2 = i) ∧
      ∃ ht : t' < l'.length, Ah l'[i] l'[t'] ∧ ∀ c, 2 * i + 1 ≤ c → c < kk → ∀ hc : c < l'.length, Ah l'[c] l'[t']) := ⟨_, fun _ _ => Iff.rfl⟩
  have hrefl : Ah l'[i] l'[i] := by unfold Ah; rw [ordI_eq.2 rfl]; decide
  refine wpL_ind J ?_ 2 _ ((hJ _ _).2 ⟨_, i, 2 * i + 1, rfl, by simp [e0], by simp [e1], by simp, by simp, by omega, by omega, by omega, .inl rfl, hk, hrefl, fun c h1 h2 => by omega⟩)
  intro k st hst
  obtain ⟨e', t', kk, rfl, f0, f1, f4, f5, rfl, k1, k2, htp, htl, hit, hall⟩ := (hJ _ _).1 hst
  have w4 : IntKind.i64.wrap ((kk : Int) + 1) = ((kk + 1 : Nat) : Int) := by rw [w64_id (by omega) (by omega)]; omega
  have ga := fun x y z L => hq_a t x y z L
  have gc := fun x y z L => hq_c t x y z L
  by_cases hgo : kk ≤ 2 * i + 2 ∧ kk < l'.length
  · obtain ⟨c1, c2⟩ := hgo
    have c1' : (kk : Int) ≤ 2 * (i : Int) + 2 := by omega
    have hab := above t (room := room) (M := M') (L := L) c2 htl
    simp only [hH, hP] at hab
    by_cases d : 0 < ordI l'[kk] l'[t']
    · simp -implicitDefEqProofs [f0, f1, f4, f5, hP, hH, vnil, isPtr, fresh, cellsAt, ga, gc, w1, w3, c1', c2, hab, d, w4]
      have hn := ordI_neg l'[kk] l'[t']
      have hle : Ah l'[t'] l'[kk] := by unfold Ah; omega
      refine ⟨2 * i + 3 - (kk + 1), by omega, (hJ _ _).2 ⟨_, kk, kk + 1, rfl, by simp [f0, hP], by simp [f1], by simp, by simp, rfl, by omega, by omega, .inr ⟨by omega, by omega⟩, c2, ordI_le_trans _ _ _ hit hle, fun c h1 h2 hc => ?_⟩⟩
      by_cases hck : c = kk
      · subst hck; unfold Ah; rw [ordI_eq.2 rfl]; decide
      · exact ordI_le_trans _ _ _ (hall c h1 (by omega) hc) hle
    · simp -implicitDefEqProofs [f0, f1, f4, f5, hP, hH, vnil, isPtr, fresh, cellsAt, ga, gc, w1, w3, c1', c2, hab, d, w4]
      refine ⟨2 * i + 3 - (kk + 1), by omega, (hJ _ _).2 ⟨_, t', kk + 1, rfl, by simp [f0, hP], by simp [f1], by simp [f4], by simp, rfl, by omega, by omega, htp, htl, hit, fun c h1 h2 hc => ?_⟩⟩
      by_cases hck : c = kk
      · subst hck; unfold Ah; omega
      · exact hall c h1 (by omega) hc
  · have hlast : ∀ c, 0 < c → (c - 1) / 2 = i → ∀ hc : c < l'.length, Ah l'[c] l'[t'] := fun c c0 cp hc => hall c (by omega) (by omega) hc
    have hsw := swap t (room := room) (L := L) hk htl hx' ok'
    simp only [hH, hP] at hsw
    by_cases d : t' = i
    · subst d
      by_cases c1 : (kk : Int) ≤ 2 * (t' : Int) + 2
      · have c2 : ¬ kk < l'.length := fun h => hgo ⟨by omega, h⟩
        simp -implicitDefEqProofs [f0, f1, f4, f5, hP, hH, vnil, isPtr, fresh, cellsAt, ga, gc, w1, w3, c1, c2]
        exact ⟨rfl, l', M', rfl, hp, hx', ok', hend hlast⟩
      · simp -implicitDefEqProofs [f1, f4, f5, hH, w1, w3, c1]
        exact ⟨rfl, l', M', rfl, hp, hx', ok', hend hlast⟩
    · have d' : ¬ (t' : Int) = (i : Int) := by omega
      have d2 : 0 < t' ∧ (t' - 1) / 2 = i := by rcases htp with h | h; · exact absurd h d
                                                exact h
      have hnew := htop t' htl d d2.2 d2.1 hit hlast
      by_cases c1 : (kk : Int) ≤ 2 * (i : Int) + 2
      · have c2 : ¬ kk < l'.length := fun h => hgo ⟨by omega, h⟩
        simp -implicitDefEqProofs [f0, f1, f4, f5, hP, hH, vnil, isPtr, fresh, cellsAt, ga, gc, w1, w3, c1, c2, d', hsw]
        exact ⟨l.length - t', by omega, (hI _ _).2 ⟨_, swp l' i t', _, t', rfl, by simp [f0, hP], by simp, (swp_perm hk htl).trans hp, by rw [MS.put_m, MS.put_m]; exact ix_swp hx' hk htl, MS.put_ok (MS.put_ok ok' _ _) _ _, by rw [swp_len]; exact htl, rfl, hnew.1, hnew.2⟩⟩
      · simp -implicitDefEqProofs [f0, f1, f4, f5, hP, hH, w1, w3, c1, d', hsw]
        exact ⟨l.length - t', by omega, (hI _ _).2 ⟨_, swp l' i t', _, t', rfl, by simp [f0, hP], by simp, (swp_perm hk htl).trans hp, by rw [MS.put_m, MS.put_m]; exact ix_swp hx' hk htl, MS.put_ok (MS.put_ok ok' _ _) _ _, by rw [swp_len]; exact htl, rfl, hnew.1, hnew.2⟩⟩
end
end Go.Proofs.YtngpmpmhpggpgaaGreatDoorF
end

section
/- An offer. -/
set_option maxRecDepth 8192
set_option maxHeartbeats 2000000
namespace Go.Proofs.YtngpmpmhpggpgaaGreatDoorF
open Go Go.Proofs.Vm

structure Inv (l : List Itm) (M : MS) : Prop where
  ix : Ix l M.m
  ok : M.Ok
  hp : HeapOk Ah l

/-- What an offer does to the items, but for where they lie. -/
def OfferR (room : Int) (l : List Itm) (key : ByteArray) (count : Int) (b : Bool) (l' : List Itm) : Prop :=
  (∃ i, ∃ h : i < l.length, l[i].1 = key ∧ b = true ∧ l'.Perm (l.set i (key, count))) ∨
  ((∀ i, ∀ h : i < l.length, l[i].1 ≠ key) ∧ (((l.length : Int) < room ∧ b = true ∧ l'.Perm (l ++ [(key, count)])) ∨
    (¬ (l.length : Int) < room ∧ ∃ h0 : 0 < l.length, (l[0].2 < count ∧ b = true ∧ l'.Perm (l.set 0 (key, count))) ∨ (¬ l[0].2 < count ∧ b = false ∧ l' = l))))

section
variable {K : Hp} {hi si mi : Nat} (t : Three K si mi hi) {room : Int} {l : List Itm} {M : MS} {L : Hp}
include t

theorem settle {i : Nat} (h1 : i < l.length) (hx : Ix l M.m) (ok : M.Ok) (ha : Almost Ah l i) (hl : l.length < 1000) :
    ∃ (r : Nat) (l1 : List Itm) (M1 : MS) (l' : List Itm) (M' : MS), TV.S 70 [hP hi, vI .i64 i] (hH K hi si mi room l M L) = some (vI .i64 r, hH K hi si mi room l1 M1 L) ∧
      TV.S 69 [hP hi, vI .i64 r] (hH K hi si mi room l1 M1 L) = some (und, hH K hi si mi room l' M' L) ∧ l'.Perm l ∧ Inv l' M' := by
  obtain ⟨a, K', e1, r, l1, M1, rfl, rfl, p1, x1, o1, hr, al1, ed1⟩ := up t (room := room) (L := L) h1 hx ok ha hl
  obtain ⟨a, K', e2, l', M', rfl, rfl, p2, x2, o2, hp⟩ := down t (room := room) (L := L) hr x1 o1 al1 ed1 (by rw [p1.length_eq]; exact hl)
  exact ⟨r, l1, M1, l', M', e1, e2, p2.trans p1, x2, o2, hp⟩

set_option maxRecDepth 20000 in
theorem offer (hr1 : 1 ≤ room) (hv : Inv l M) (hl : l.length < 500) (key : ByteArray) (count : Int) :
    ∃ a K', TV.S 44 [hP hi, vS key, vI .i64 count] (hH K hi si mi room l M L) = some (a, K') ∧ ∃ b l' M' G, a = vB b ∧ K' = hH K hi si mi room l' M' (L ++ G) ∧ Inv l' M' ∧ OfferR room l key count b l' := by
  refine runX44 (by simp) (by rintro a K' ⟨b, l', M', G, -, rfl, -⟩; simp [hH, hq_len]) ?_
  obtain ⟨hx, ok, hh⟩ := hv
  have ga := fun x y z L => hq_a t x y z L
  have gb := fun x y z L => hq_b t x y z L
  have gc := fun x y z L => hq_c t x y z L
  have sa := fun x y z u L => hq_sa t x y z u L
  have sb := fun x y z u L => hq_sb t x y z u L
  have sc := fun x y z u L => hq_sc t x y z u L
  have hlk := fun (H : Hp) h => lk_eq (H := H) (mi := mi) (k := key) mty112 ok h
  cases hg : mget key M.m with
  | some v =>
    obtain ⟨i, hi', hk, rfl⟩ := ix_some hx hg
    subst hk
    obtain ⟨r, l1, M1, l', M', e1, e2, p1, v1⟩ := settle t (room := room) (L := L) (l := l.set i (l[i].1, count)) (M := M) (i := i) (by rw [List.length_set]; exact hi') (ix_count hx hi' count) ok (almost_set ordI_le_trans hh) (by rw [List.length_set]; omega)
    simp only [hH, hP, List.length_set] at e1 e2
    have hi0 : 0 ≤ (i : Int) := by omega
    simp -implicitDefEqProofs [-List.map_set, Tryz.f44, hP, hH, vnil, isPtr, fresh, cellsAt, ga, gb, gc, sa, hlk, hg, hi', hi0, bin_pne up85, vstore, cellsOf?, wr_count hi', e1, e2]
    exact ⟨rfl, Nat.le_refl _, l', M', ⟨[], by rw [List.append_nil]⟩, v1, .inl ⟨i, hi', rfl, rfl, p1⟩⟩
  | none =>
    have hno : ∀ i, ∀ h : i < l.length, l[i].1 ≠ key := fun i h e => by have := hx.at_ i h; rw [e, hg] at this; cases this
    by_cases hr : (l.length : Int) < room
    · have hl2 : (l ++ [(key, count)]).length = l.length + 1 := by simp
      obtain ⟨r, l1, M1, l', M', e1, e2, p1, v1⟩ := settle t (room := room) (L := L ++ [.clo [cItm (key, count)] false]) (l := l ++ [(key, count)]) (M := M.put key l.length) (i := l.length) (by rw [hl2]; omega) (by rw [MS.put_m]; exact ix_push hx hg) (MS.put_ok ok _ _) (almost_push hh) (by rw [hl2]; omega)
      simp only [hH, hP, hl2, cItm, List.map_append, List.map_cons, List.map_nil] at e1 e2
      have hmu := fun (H : Hp) h => mu_eq (H := H) (mi := mi) (k := key) (v := (l.length : Int)) mty112 ok h
      have w1 : IntKind.i64.wrap ((l.length : Int) + 1) = ((l.length + 1 : Nat) : Int) := by rw [w64_id (by omega) (by omega)]; omega
      have b1 : 24 * (l.length + 1) ≤ 140737488355328 := by omega
      have b2 : l.length + 1 ≤ 4611686018427387904 := by omega
      have hal : AllLen (l.map cItm) 2 := by intro x hx; obtain ⟨y, _, rfl⟩ := List.mem_map.1 hx; rfl
      simp -implicitDefEqProofs [Tryz.f44, hP, hH, vnil, isPtr, fresh, cellsAt, ga, gb, gc, sa, sb, sc, hlk, hg, hr, bin_pne up85, wr, vstore, Ent.wrO, cellsOf?, hmu, vappend_sp es29 es29 el34, vbuildSlice_eq es29 el34, fzParts, setAll, rchParts, elemsOf, b1, b2, hal, hq_app, hq_len, hq_gete, e1, e2]
      exact ⟨l', M', ⟨_, rfl⟩, v1, .inr ⟨hno, .inl ⟨hr, rfl, p1⟩⟩⟩
    · have hne : 0 < l.length := by omega
      by_cases hc : l[0].2 < count
      · obtain ⟨r, l1, M1, l', M', e1, e2, p1, v1⟩ := settle t (room := room) (L := L) (l := l.set 0 (key, count)) (M := (M.del l[0].1).put key 0) (i := 0) (by rw [List.length_set]; exact hne) (by rw [MS.put_m, MS.del_m]; exact ix_top hx hne hg) (MS.put_ok (MS.del_ok ok _) _ _) (almost_set ordI_le_trans hh) (by rw [List.length_set]; omega)
        simp only [hH, hP, List.length_set, Int.natCast_zero] at e1 e2
        have hmd := fun (H : Hp) (k : ByteArray) h => md_eq (H := H) (mi := mi) (k := k) mty112 ok h
        have okd := MS.del_ok ok l[0].1
        have hmu := fun (H : Hp) (h : H[mi]? = some (M.del l[0].1).ent) => mu_eq (k := key) (v := 0) mty112 okd h
        simp -implicitDefEqProofs [-List.map_set, Tryz.f44, hP, hH, vnil, isPtr, fresh, cellsAt, ga, gb, gc, sa, sb, hlk, hg, hr, hc, hne, bin_pne up85, wr, vstore, wr_item, cItm, cellsOf?, mapO, fzc, rch, frzAll, hmd, hmu, e1, e2]
        exact ⟨l', M', ⟨[], by rw [List.append_nil]⟩, v1, .inr ⟨hno, .inr ⟨hr, hne, .inl ⟨hc, rfl, p1⟩⟩⟩⟩
      · simp -implicitDefEqProofs [Tryz.f44, hP, hH, vnil, isPtr, fresh, cellsAt, ga, gb, gc, hlk, hg, hr, hc, hne, cItm, bin_pne up85]
        exact ⟨l, M, ⟨[], by rw [List.append_nil]⟩, ⟨hx, ok, hh⟩, .inr ⟨hno, .inr ⟨hr, hne, .inr ⟨hc, rfl, rfl⟩⟩⟩⟩
end

theorem ix_nil : Ix [] [] := ⟨List.nodup_nil, rfl, fun i h => absurd h (Nat.not_lt_zero _), fun k v h => by cases h⟩
theorem heap_nil : HeapOk Ah [] := fun _j _ h => absurd h (Nat.not_lt_zero _)

end Go.Proofs.YtngpmpmhpggpgaaGreatDoorF
end

section
/- A heap made, and its list. -/
set_option maxRecDepth 8192
set_option maxHeartbeats 2000000
namespace Go.Proofs.YtngpmpmhpggpgaaGreatDoorF
open Go Go.Proofs.Vm

def hN : AV := .one (.c (.v (.pointer none)))

theorem new_no {room : Int} {H : Hp} (h : room < 1 ∨ 64 < room) : TV.S 68 [vI .i64 room] H = some (hN, H) := by
  refine run68 (by simp) (by simp) ?_
  by_cases h1 : room < 1
  · simp -implicitDefEqProofs [Tryz.f68, h1, hN]
  · have h2 : 64 < room := by omega
    simp -implicitDefEqProofs [Tryz.f68, h1, h2, hN]
theorem new_yes {room : Int} {H : Hp} (h1 : 1 ≤ room) (h2 : room ≤ 64) : TV.S 68 [vI .i64 room] H = some (hP (H.length + 2), H ++ [MS.empty.ent, .clo [] false, .opn [[.c (.v (.int .i64 room)), .sl (H.length + 1) 0 0 0, .mp H.length]] false]) := by
  refine run68 (by simp) (by simp) ?_
  have c1 : ¬ room < 1 := by omega
  have c2 : ¬ 64 < room := by omega
  simp -implicitDefEqProofs [Tryz.f68, c1, c2, hP, MS.empty_ent, wr, vmakeMap, cellsOf?, ownz]

end Go.Proofs.YtngpmpmhpggpgaaGreatDoorF
namespace Go.Proofs.YtngpmpmhpggpgaaGreatDoorF
open Go Go.Proofs.Vm

theorem sort_ {H : Hp} {id : Nat} {xs : List Itm} (h : H[id]? = some (.clo (xs.map cItm) false)) (hl : xs.length < 1000) :
    TV.S 72 [.one (.sl id 0 xs.length xs.length), .one (.fn 73 [])] H = some (und, H.set id (.clo ((isort ordI xs).map cItm) false)) := by
  refine TT_baseS ?_
  have h2 : xs.length < 4611686018427387904 := by omega
  simp [cfg, orTab, tzTab, sortTab, cloTab, itmTab, sortFRun, h, mapO_itm, h2]

theorem clone00 {H : Hp} {id : Nat} (h : H[id]? = some (.clo [] false)) : TV.S 48 [.one (.sl id 0 0 0)] H = some (.one (.sl (H.length + 1) 0 0 0), H ++ [.clo [] false, .clo [] false]) := by
  refine TT_baseS ?_
  simp [cfg, orTab, tzTab, sortTab, cloTab, cloRun, itmTab, clone0Run, h]

section
variable {K : Hp} {hi si mi : Nat} (t : Three K si mi hi) {room : Int} {l : List Itm} {M : MS} {L : Hp}
include t

theorem clone_ (hl : l.length < 1000) :
    TV.S 48 [.one (.sl si 0 l.length l.length)] (hH K hi si mi room l M L) = some (.one (.sl (K.length + (L.length + 1)) 0 l.length l.length), hH K hi si mi room l M (L ++ [.clo [] false, .clo (l.map cItm) false])) := by
  have ga := fun x y z L => hq_a t x y z L
  cases hl0 : l with
  | nil =>
    have := clone00 (H := hH K hi si mi room [] M L) (id := si) (by unfold hH; rw [ga]; rfl)
    simp only [List.length_nil]
    rw [this]
    simp [hH, hq_app, hq_len, Nat.add_assoc]
  | cons x r =>
    rw [← hl0]
    have hne : l.length ≠ 0 := by rw [hl0]; simp
    have hb : cfg.base.S 48 [.one (.sl si 0 l.length l.length)] (hH K hi si mi room l M L) = none := by
      show clone0Run _ _ = none
      unfold clone0Run
      split
      · rename_i heq
        have : l.length = 0 := by injection heq with h1; injection h1 with h1; injection h1
        exact absurd this hne
      · rfl
    refine run48 hb (by simp) (by refine ⟨by simp [hH, hq_len], fun _ => ?_⟩; simp only [hH]; rw [← hq_app]; exact List.prefix_append _ _) ?_
    have hll : lenIs (hq K si mi hi (.clo (l.map cItm) false) M.ent (.opn [[.c (.v (.int .i64 room)), .sl si 0 l.length l.length, .mp mi]] false) (L ++ [.clo [] false])) si l.length = true := by simp [ga]
    have hsl := fun (t : TypeId) (e : TypeId) (he : elemOfSlice Tryz.prog t = some e) (x y : Operand) => bin_slo he (x := x) (y := y) (o := 0) hne hll
    have b1 : 24 * l.length ≤ 140737488355328 := by omega
    have b2 : l.length ≤ 4611686018427387904 := by omega
    have hal : AllLen (l.map cItm) 2 := by intro x hx; obtain ⟨y, _, rfl⟩ := List.mem_map.1 hx; rfl
    have htk : (l.map cItm).take l.length = l.map cItm := List.take_of_length_le (by simp)
    simp -implicitDefEqProofs [Tryz.f48, hH, ga, vmove, isNil, hsl 29 34 es29, bs_zero es29 el34, vappend_sp es29 es29 el34, elemsOf, hq_app, hq_len, hq_gete, hq_set, b1, b2, hal, htk]

theorem list_ (hl : l.length < 1000) :
    TV.S 46 [hP hi] (hH K hi si mi room l M L) = some (.one (.sl (K.length + (L.length + 2)) 0 l.length l.length), hH K hi si mi room l M (L ++ [.clo [] false, .clo [] false, .clo ((isort ordI l).map cItm) false])) := by
  refine run46 (by simp) (by simp [hH, hq_len]) ?_
  have ga := fun x y z L => hq_a t x y z L
  have gc := fun x y z L => hq_c t x y z L
  have hcl := clone_ t (room := room) (M := M) (L := L ++ [.clo [] false]) hl
  have hso := sort_ (H := hH K hi si mi room l M (L ++ [.clo [] false, .clo [] false, .clo (l.map cItm) false])) (id := K.length + (L.length + 2)) (xs := l) (by unfold hH; rw [hq_get]; simp) hl
  simp only [hH, List.append_assoc, List.length_append, List.length_cons, List.length_nil, List.cons_append, List.nil_append, hq_set, Nat.add_assoc, Nat.zero_add, Nat.reduceAdd] at hcl hso
  simp -implicitDefEqProofs [Tryz.f46, hH, hP, vnil, isPtr, fresh, cellsAt, gc, vmove, isNil, bin_pne up85, hq_app, hq_len, hcl, hso]
end
end Go.Proofs.YtngpmpmhpggpgaaGreatDoorF
end

section
/- The document's items. -/
set_option maxRecDepth 8192
set_option maxHeartbeats 1000000
namespace Go.Proofs.YtngpmpmhpggpgaaGreatDoorF
open Go Go.Proofs.Vm

def cItms (l : List Itm) : CV := .arr (l.map cItm)
def aheadB (a b : Itm) : Bool := decide (ordI a b < 0)
theorem Ahead (a b : Itm) : TV.pu 38 [.agg (cItm a), .agg (cItm b)] = some (cB (aheadB a b)) := by
  refine run38 (by simp) ?_
  have hb := bl_cmpB a.1 b.1
  have ho := ordI_lt (a := a) (b := b)
  by_cases c1 : b.2 < a.2
  · have hf : aheadB a b = true := decide_eq_true (ho.2 (.inl c1))
    simp -implicitDefEqProofs [Tryz.f38, cItm, c1, hf]
  · have c1' : a.2 ≤ b.2 := by omega
    by_cases c2 : a.2 = b.2
    · have hf : aheadB a b = decide (cmpB a.1 b.1 < 0) := by
        unfold aheadB
        congr 1
        refine propext (ho.trans ⟨fun h => ?_, fun h => .inr ⟨c2.symm, h⟩⟩)
        rcases h with h | h
        · exact absurd h c1
        · exact h.2
      simp -implicitDefEqProofs [Tryz.f38, cItm, c2, hf, sbin_lss, hb]
    · have hf : aheadB a b = false := decide_eq_false (fun h => by rcases ho.1 h with h | h; · exact c1 h
                                                                   exact c2 h.1.symm)
      simp -implicitDefEqProofs [Tryz.f38, cItm, c1, c2, hf]

/-- The document's list with one more. -/
def insL (x : Itm) : List Itm → List Itm
  | [] => [x]
  | y :: r => if aheadB x y = true then x :: y :: r else y :: insL x r
theorem insL_len (x : Itm) : ∀ l, (insL x l).length = l.length + 1
  | [] => rfl
  | y :: r => by
    unfold insL
    split
    · rfl
    · simp [insL_len x r]
def notK (k : ByteArray) (l : List Itm) : List Itm := l.filter fun x => decide (x.1 ≠ k)
theorem notK_step {k : ByteArray} {l : List Itm} {i : Nat} (c : i < l.length) : notK k (l.take (i + 1)) = if l[i].1 = k then notK k (l.take i) else notK k (l.take i) ++ [l[i]] := by
  rw [List.take_add_one, List.getElem?_eq_getElem c]
  show (l.take i ++ [l[i]]).filter _ = _
  rw [List.filter_append]
  unfold notK
  by_cases d : l[i].1 = k <;> simp [d]
theorem take_itm (l : List Itm) : (l.map cItm).take l.length = l.map cItm := List.take_of_length_le (by simp)
theorem cItm_all (l : List Itm) : AllLen (l.map cItm) 2 := by intro x hx; obtain ⟨y, _, rfl⟩ := List.mem_map.1 hx; rfl

theorem Put (l : List Itm) (x : Itm) (hl : l.length < 1000) : TV.pu 83 [.one (cItms l), .agg (cItm x)] = some (.one (cItms (insL x l))) := by
  refine run83 (by simp) ?_
  simp -implicitDefEqProofs [Tryz.f83, cItms, cItm, vmove, isNil]
  obtain ⟨I, hI⟩ : ∃ I : Nat → St → Prop, ∀ n s', I n s' ↔ (∃ e i out put E L, s' = ⟨e, .opn [[.c (.v (.string x.1)), .c (.v (.int .i64 x.2))]] false :: E :: .clo (out.map cItm) false :: L⟩ ∧ e 0 = .one (.c (.arr (l.map cItm))) ∧ e 3 = .one (.ptr ⟨0, 0, 0, 1⟩) ∧ e 5 = .one (.sl 2 0 out.length out.length) ∧ e 6 = vB put ∧ e 7 = vI .i64 (i : Nat) ∧ i + n = l.length ∧ (put = true → out.length = i + 1 ∧ out ++ l.drop i = insL x l) ∧ (put = false → out.length = i ∧ out ++ insL x (l.drop i) = insL x l)) := ⟨_, fun _ _ => Iff.rfl⟩
  refine wpL_ind I ?_ l.length _ ((hI _ _).2 ⟨_, 0, [], false, _, _, rfl, by simp, by simp, by simp, by simp, by simp, by omega, by simp, by simp⟩)
  intro n st hst
  obtain ⟨e, i, out, put, E, L, rfl, e0, e3, e5, e6, e7, hn, hp1, hp2⟩ := (hI _ _).1 hst
  by_cases c : i < l.length
  · have w1 : IntKind.i64.wrap ((i : Int) + 1) = ((i + 1 : Nat) : Int) := by rw [w64_id (by omega) (by omega)]; omega
    have hd : l.drop i = l[i] :: l.drop (i + 1) := List.drop_eq_getElem_cons c
    have hal := cItm_all out
    have hA := Ahead x l[i]
    simp only [cItm] at hA
    cases put with
    | true =>
      obtain ⟨g1, g2⟩ := hp1 rfl
      have b1 : 24 * (out.length + 1) ≤ 140737488355328 := by omega
      have b2 : out.length + 1 ≤ 4611686018427387904 := by omega
      simp -implicitDefEqProofs [e0, e5, e6, e7, c, cItm, w1, vmove, isNil, vappend_sp es62 es62 el66, vbuildSlice_eq es62 el66, cellsOf?, fzParts, setAll, rchParts, rch, elemsOf, b1, b2, hal]
      exact ⟨n - 1, by omega, (hI _ _).2 ⟨_, i + 1, out ++ [l[i]], true, _, _, by simp only [List.map_append, List.map_cons, List.map_nil, cItm]; rfl, by simp [e0], by simp [e3], by simp, by simp [e6], by simp, by omega, fun _ => ⟨by simp [g1], by rw [← g2, hd]; simp⟩, by simp⟩⟩
    | false =>
      obtain ⟨g1, g2⟩ := hp2 rfl
      have b1 : 24 * (out.length + 1) ≤ 140737488355328 := by omega
      have b2 : out.length + 1 ≤ 4611686018427387904 := by omega
      have b3 : 24 * (out.length + 1 + 1) ≤ 140737488355328 := by omega
      have b4 : out.length + 1 + 1 ≤ 4611686018427387904 := by omega
      have hal2 := cItm_all (out ++ [x])
      simp only [List.map_append, List.map_cons, List.map_nil, cItm] at hal2
      cases ha : aheadB x l[i] with
      | true =>
        rw [ha] at hA
        simp -implicitDefEqProofs [e0, e3, e5, e6, e7, c, cItm, w1, hA, vmove, isNil, cellsAt, vappend_sp es62 es62 el66, vbuildSlice_eq es62 el66, cellsOf?, fzParts, setAll, rchParts, rch, elemsOf, b1, b2, b3, b4, hal, hal2, mapO, fzc, frzAll]
        exact ⟨n - 1, by omega, (hI _ _).2 ⟨_, i + 1, out ++ [x, l[i]], true, _, _, by simp only [List.map_append, List.map_cons, List.map_nil, cItm]; rfl, by simp [e0], by simp [e3], by simp, by simp, by simp, by omega, fun _ => ⟨by simp [g1], by rw [← g2, hd]; simp [insL, ha]⟩, by simp⟩⟩
      | false =>
        rw [ha] at hA
        simp -implicitDefEqProofs [e0, e3, e5, e6, e7, c, cItm, w1, hA, vmove, isNil, cellsAt, vappend_sp es62 es62 el66, vbuildSlice_eq es62 el66, cellsOf?, fzParts, setAll, rchParts, rch, elemsOf, b1, b2, hal, mapO, fzc, frzAll]
        exact ⟨n - 1, by omega, (hI _ _).2 ⟨_, i + 1, out ++ [l[i]], false, _, _, by simp only [List.map_append, List.map_cons, List.map_nil, cItm]; rfl, by simp [e0], by simp [e3], by simp, by simp [e6], by simp, by omega, by simp, fun _ => ⟨by simp [g1], by rw [← g2, hd]; simp [insL, ha]⟩⟩⟩
  · have hdr : l.drop i = [] := List.drop_eq_nil_iff.2 (by omega)
    have hal := cItm_all out
    rw [hdr] at hp1 hp2
    cases put with
    | true =>
      obtain ⟨g1, g2⟩ := hp1 rfl
      rw [List.append_nil] at g2
      rw [← g2]
      simp -implicitDefEqProofs [e0, e5, e6, e7, c, vmove, isNil, take_itm]
    | false =>
      obtain ⟨g1, g2⟩ := hp2 rfl
      have b1 : 24 * (out.length + 1) ≤ 140737488355328 := by omega
      have b2 : out.length + 1 ≤ 4611686018427387904 := by omega
      have htk := take_itm (out ++ [x])
      simp only [List.map_append, List.map_cons, List.map_nil, List.length_append, List.length_cons, List.length_nil, Nat.zero_add, cItm] at htk
      rw [← g2]
      simp -implicitDefEqProofs [e0, e3, e5, e6, e7, c, cItm, insL, htk, vmove, isNil, cellsAt, vappend_sp es62 es62 el66, vbuildSlice_eq es62 el66, cellsOf?, fzParts, setAll, rchParts, rch, elemsOf, b1, b2, hal]

end Go.Proofs.YtngpmpmhpggpgaaGreatDoorF
end

section
/- The document's items without a key. -/
set_option maxRecDepth 8192
set_option maxHeartbeats 1000000
namespace Go.Proofs.YtngpmpmhpggpgaaGreatDoorF
open Go Go.Proofs.Vm

theorem Without (l : List Itm) (k : ByteArray) (hl : l.length < 1000) : TV.pu 39 [.one (cItms l), .one (.v (.string k))] = some (.one (cItms (notK k l))) := by
  refine run39 (by simp) ?_
  simp -implicitDefEqProofs [Tryz.f39, cItms, vmove, isNil]
  obtain ⟨I, hI⟩ : ∃ I : Nat → St → Prop, ∀ n s', I n s' ↔ (∃ e i out E L, s' = ⟨e, E :: .clo (out.map cItm) false :: L⟩ ∧ e 0 = .one (.c (.arr (l.map cItm))) ∧ e 1 = vS k ∧ e 5 = .one (.sl 1 0 out.length out.length) ∧ e 6 = vI .i64 (i : Nat) ∧ i + n = l.length ∧ out = notK k (l.take i)) := ⟨_, fun _ _ => Iff.rfl⟩
  refine wpL_ind I ?_ l.length _ ((hI _ _).2 ⟨_, 0, [], _, _, rfl, by simp, by simp, by simp, by simp, by omega, by simp [notK]⟩)
  intro n st hst
  obtain ⟨e, i, out, E, L, rfl, e0, e1, e5, e6, hn, ho⟩ := (hI _ _).1 hst
  by_cases c : i < l.length
  · have w1 : IntKind.i64.wrap ((i : Int) + 1) = ((i + 1 : Nat) : Int) := by rw [w64_id (by omega) (by omega)]; omega
    have htk := notK_step (k := k) c
    have hol : out.length ≤ i := by rw [ho]; exact Nat.le_trans (List.length_filter_le _ _) (by simp; omega)
    by_cases d : l[i].1 = k
    · simp -implicitDefEqProofs [e0, e1, e6, c, cItm, sbin_neq, d, w1]
      exact ⟨n - 1, by omega, (hI _ _).2 ⟨_, i + 1, out, _, _, rfl, by simp [e0], by simp [e1], by simp [e5], by simp, by omega, by rw [htk, ho]; simp only [d, if_true]⟩⟩
    · have b1 : 24 * (out.length + 1) ≤ 140737488355328 := by omega
      have b2 : out.length + 1 ≤ 4611686018427387904 := by omega
      have hal := cItm_all out
      simp -implicitDefEqProofs [e0, e1, e5, e6, c, cItm, sbin_neq, toList_inj, d, w1, vmove, isNil, vappend_sp es62 es62 el66, vbuildSlice_eq es62 el66, cellsOf?, fzParts, setAll, rchParts, rch, elemsOf, b1, b2, hal]
      exact ⟨n - 1, by omega, (hI _ _).2 ⟨_, i + 1, out ++ [l[i]], _, _, by simp only [List.map_append, List.map_cons, List.map_nil, cItm]; rfl, by simp [e0], by simp [e1], by simp, by simp, by omega, by rw [htk, ho]; simp only [d, if_false]⟩⟩
  · have hi : l.take i = l := List.take_of_length_le (by omega)
    rw [hi] at ho
    subst ho
    simp -implicitDefEqProofs [e0, e5, e6, c, vmove, isNil, take_itm]
end Go.Proofs.YtngpmpmhpggpgaaGreatDoorF
end

section
/- Offers by the document. -/
set_option maxRecDepth 8192
set_option maxHeartbeats 2000000
namespace Go.Proofs.YtngpmpmhpggpgaaGreatDoorF
open Go Go.Proofs.Vm

def refOffer (room : Int) (m : List Itm) (k : ByteArray) (c : Int) : List Itm × Bool :=
  if (notK k m).length < m.length ∨ (m.length : Int) < room then (insL (k, c) (notK k m), true)
  else if ((m.getLast?.map (·.2)).getD 0) < c then (insL (k, c) m.dropLast, true) else (m, false)

def Srt (m : List Itm) : Prop := m.Pairwise fun a b => ordI a b < 0
structure Like (l m : List Itm) : Prop where
  perm : l.Perm m
  srt : Srt m
def Keys (l : List Itm) : Prop := (l.map (·.1)).Nodup

theorem insL_perm (x : Itm) : ∀ l, (insL x l).Perm (x :: l)
  | [] => .refl _
  | y :: r => by
    unfold insL
    split
    · exact .refl _
    · exact ((insL_perm x r).cons y).trans (.swap _ _ _)
theorem insL_srt (x : Itm) : ∀ l, Srt l → (∀ y ∈ l, y.1 ≠ x.1) → Srt (insL x l)
  | [], _, _ => by simp [insL, Srt]
  | y :: r, h, hk => by
    have h' := List.pairwise_cons.1 h
    unfold insL
    split
    · rename_i ha
      have ha : ordI x y < 0 := of_decide_eq_true ha
      refine List.pairwise_cons.2 ⟨fun z hz => ?_, h⟩
      rcases List.mem_cons.1 hz with rfl | hz
      · exact ha
      · exact ordI_trans ha (h'.1 z hz)
    · rename_i ha
      have ha : ¬ ordI x y < 0 := fun e => ha (decide_eq_true e)
      have hyx : ordI y x < 0 := by
        have h1 := ordI_neg x y
        have h2 : ordI x y ≠ 0 := fun e => hk y (by simp) (by rw [ordI_eq.1 e])
        omega
      refine List.pairwise_cons.2 ⟨fun z hz => ?_, insL_srt x r h'.2 fun z hz => hk z (by simp [hz])⟩
      rcases List.mem_cons.1 ((insL_perm x r).mem_iff.1 hz) with rfl | hz
      · exact hyx
      · exact h'.1 z hz

theorem eq_of_srt : ∀ {a b : List Itm}, a.Perm b → a.Pairwise (fun x y => ordI x y ≤ 0) → b.Pairwise (fun x y => ordI x y ≤ 0) → a = b
  | [], b, h, _, _ => h.nil_eq
  | x :: a, [], h, _, _ => by have := h.length_eq; simp at this
  | x :: a, y :: b, h, ha, hb => by
    have ha' := List.pairwise_cons.1 ha
    have hb' := List.pairwise_cons.1 hb
    have hxy : x = y := by
      have h1 : x ∈ y :: b := h.mem_iff.1 (by simp)
      have h2 : y ∈ x :: a := h.mem_iff.2 (by simp)
      rcases List.mem_cons.1 h1 with e | h1
      · exact e
      rcases List.mem_cons.1 h2 with e | h2
      · exact e.symm
      have k1 := hb'.1 x h1
      have k2 := ha'.1 y h2
      have k3 := ordI_neg x y
      exact ordI_eq.1 (by omega)
    subst hxy
    rw [eq_of_srt h.cons_inv ha'.2 hb'.2]
theorem isort_perm (l : List Itm) : (isort ordI l).Perm l := List.mergeSort_perm l _
theorem isort_srt (l : List Itm) : (isort ordI l).Pairwise fun x y => ordI x y ≤ 0 := by
  have h := List.pairwise_mergeSort (le := fun x y : Itm => decide (ordI x y ≤ 0)) (fun a b c h1 h2 => decide_eq_true (ordI_le_trans a b c (of_decide_eq_true h1) (of_decide_eq_true h2))) (fun a b => by
    rcases ordI_total a b with h | h
    · simp [h]
    · simp [h]) l
  exact h.imp fun h => of_decide_eq_true h
theorem Like.isort {l m : List Itm} (h : Like l m) : isort ordI l = m :=
  eq_of_srt ((isort_perm l).trans h.perm) (isort_srt l) (h.srt.imp fun h => by omega)

theorem ix_keys {l : List Itm} {m : SM} (h : Ix l m) : Keys l := by
  unfold Keys
  rw [List.nodup_iff_pairwise_ne, List.pairwise_iff_getElem]
  intro i j hi hj hij e
  simp only [List.getElem_map] at e
  have := h.inj (by simpa using hi) (by simpa using hj) e
  omega

/-- The one on top stands last. -/
theorem heap_top {l : List Itm} (h : HeapOk Ah l) (h0 : 0 < l.length) : ∀ (n j : Nat), j < n → ∀ hj : j < l.length, ordI l[j] l[0] ≤ 0 := by
  intro n
  induction n with
  | zero => intro j h; omega
  | succ n ih =>
    intro j hjn hj
    by_cases hj0 : j = 0
    · subst hj0
      rw [ordI_eq.2 rfl]; decide
    · exact ordI_le_trans _ _ _ (h j (by omega) hj) (ih _ (by omega) (by omega))

theorem set_notK {k : ByteArray} {c : Int} : ∀ {l : List Itm} {i : Nat} (h : i < l.length), l[i].1 = k → Keys l → (l.set i (k, c)).Perm ((k, c) :: notK k l)
  | x :: r, 0, _, hk, hn => by
    have hk : x.1 = k := hk
    have hn' := List.nodup_cons.1 hn
    have e : notK k (x :: r) = r := by
      unfold notK
      rw [List.filter_cons, if_neg (by simp [hk])]
      refine List.filter_eq_self.2 fun y hy => decide_eq_true fun e => hn'.1 ?_
      show x.1 ∈ r.map (·.1)
      rw [hk, ← e]
      exact List.mem_map_of_mem hy
    rw [e]
    exact .refl _
  | x :: r, i + 1, h, hk, hn => by
    have hn' := List.nodup_cons.1 hn
    have hi : i < r.length := by simpa using h
    have hk' : r[i].1 = k := hk
    have hx : ¬ x.1 = k := fun e => hn'.1 (by
      show x.1 ∈ r.map (·.1)
      rw [e, ← hk']
      exact List.mem_map_of_mem (List.getElem_mem hi))
    have e : notK k (x :: r) = x :: notK k r := by
      unfold notK
      rw [List.filter_cons, if_pos (by simp [hx])]
    rw [e]
    exact ((set_notK hi hk' hn'.2).cons x).trans (.swap _ _ _)
theorem notK_self {k : ByteArray} {m : List Itm} (h : ∀ x ∈ m, x.1 ≠ k) : notK k m = m := List.filter_eq_self.2 fun y hy => decide_eq_true (h y hy)
theorem notK_ne {k : ByteArray} {m : List Itm} : ∀ y ∈ notK k m, y.1 ≠ k := fun _y hy => of_decide_eq_true (List.mem_filter.1 hy).2
theorem notK_lt {k : ByteArray} {m : List Itm} {x : Itm} (h : x ∈ m) (hk : x.1 = k) : (notK k m).length < m.length := by
  rcases Nat.lt_or_ge (notK k m).length m.length with g | g
  · exact g
  · exfalso
    have : notK k m = m := List.filter_eq_self.2 ((List.filter_sublist (l := m)).eq_of_length_le g ▸ fun a ha => (List.mem_filter.1 ha).2)
    exact notK_ne x (by rw [this]; exact h) hk

theorem Like.last {l m : List Itm} (h : Like l m) (hh : HeapOk Ah l) (h0 : 0 < l.length) : m.getLast? = some l[0] := by
  have hm : m ≠ [] := by rintro rfl; have := h.perm.length_eq; rw [List.length_nil] at this; omega
  rw [List.getLast?_eq_some_getLast hm]
  congr 1
  have h1 : m.getLast hm ∈ l := h.perm.mem_iff.2 (List.getLast_mem hm)
  obtain ⟨j, hj, e⟩ := List.getElem_of_mem h1
  have k1 := heap_top hh h0 (j + 1) j (Nat.lt_succ_self _) hj
  rw [e] at k1
  have h2 : l[0] ∈ m := h.perm.mem_iff.1 (List.getElem_mem h0)
  have h3 := h.srt
  have hsplit : m = m.dropLast ++ [m.getLast hm] := (List.dropLast_concat_getLast hm).symm
  rw [hsplit] at h2 h3
  rcases List.mem_append.1 h2 with h2 | h2
  · have k2 := (List.pairwise_append.1 h3).2.2 _ h2 (m.getLast hm) (List.mem_singleton.2 rfl)
    have k3 := ordI_neg (m.getLast hm) l[0]
    omega
  · exact (List.mem_singleton.1 h2).symm

theorem offer_like {room : Int} {l m : List Itm} {k : ByteArray} {c : Int} {b : Bool} {l' : List Itm} (hk : Keys l) (hh : HeapOk Ah l) (hL : Like l m) (ho : OfferR room l k c b l') : Like l' (refOffer room m k c).1 ∧ b = (refOffer room m k c).2 := by
  have hlen := hL.perm.length_eq
  have hsn : ∀ k, Srt (notK k m) := fun k => hL.srt.sublist List.filter_sublist
  unfold refOffer
  rcases ho with ⟨i, hi, hki, rfl, hp⟩ | ⟨hno, ho⟩
  · rw [if_pos (Or.inl (notK_lt (hL.perm.mem_iff.1 (List.getElem_mem hi)) hki))]
    exact ⟨⟨hp.trans ((set_notK hi hki hk).trans (((hL.perm.filter _).cons _).trans (insL_perm _ _).symm)), insL_srt _ _ (hsn k) fun y hy => notK_ne y hy⟩, rfl⟩
  · have hnm : ∀ x ∈ m, x.1 ≠ k := fun x hx => by
      obtain ⟨i, hi, rfl⟩ := List.getElem_of_mem (hL.perm.mem_iff.2 hx)
      exact hno i hi
    rw [notK_self hnm]
    rcases ho with ⟨hr, rfl, hp⟩ | ⟨hr, h0, ho⟩
    · rw [if_pos (Or.inr (by omega))]
      exact ⟨⟨hp.trans ((List.perm_append_comm (l₁ := l)).trans ((hL.perm.cons _).trans (insL_perm _ _).symm)), insL_srt _ _ hL.srt hnm⟩, rfl⟩
    · rw [if_neg (by omega), hL.last hh h0]
      have hm : m ≠ [] := by rintro rfl; rw [List.length_nil] at hlen; omega
      rcases ho with ⟨hc, rfl, hp⟩ | ⟨hc, rfl, rfl⟩
      · rw [if_pos (by simpa using hc)]
        refine ⟨⟨hp.trans ?_, insL_srt _ _ (hL.srt.sublist (List.dropLast_sublist m)) fun y hy => hnm y ((List.dropLast_sublist m).subset hy)⟩, rfl⟩
        refine .trans ?_ (insL_perm _ _).symm
        have hl := hL.last hh h0
        rw [List.getLast?_eq_some_getLast hm] at hl
        have e1 : m = m.dropLast ++ [l[0]] := by rw [← Option.some.inj hl]; exact (List.dropLast_concat_getLast hm).symm
        have e2 : l = l[0] :: l.tail := by cases l with | nil => simp at h0 | cons a r => rfl
        have e3 : l.set 0 (k, c) = (k, c) :: l.tail := by cases l with | nil => simp at h0 | cons a r => rfl
        rw [e3]
        refine .cons _ ?_
        have h5 : (l[0] :: l.tail).Perm (l[0] :: m.dropLast) := by
          rw [← e2]
          refine hL.perm.trans ?_
          conv => lhs; rw [e1]
          exact List.perm_append_comm
        exact h5.cons_inv
      · rw [if_neg (by simpa using hc)]
        exact ⟨hL, rfl⟩

theorem refOffer_len {room : Int} {m : List Itm} {k : ByteArray} {c : Int} : (refOffer room m k c).1.length ≤ m.length + 1 := by
  have h1 : (notK k m).length ≤ m.length := List.length_filter_le _ _
  unfold refOffer
  split
  · rw [insL_len]; omega
  · split
    · rw [insL_len, List.length_dropLast]; omega
    · exact Nat.le_succ _
theorem refOffer_pos {room : Int} {m : List Itm} {k : ByteArray} {c : Int} (hr : 1 ≤ room) : 0 < (refOffer room m k c).1.length := by
  unfold refOffer
  split
  · rw [insL_len]; omega
  · rename_i h
    split
    · rw [insL_len]; omega
    · show 0 < m.length
      omega

/-- What an offer leaves is as long as before, or by one longer, and never above room. -/
theorem offer_len {room : Int} {l : List Itm} {k : ByteArray} {c : Int} {b : Bool} {l' : List Itm} (ho : OfferR room l k c b l') : l'.length ≤ l.length + 1 ∧ 0 < l'.length ∧ ((l.length : Int) ≤ room → (l'.length : Int) ≤ room) := by
  rcases ho with ⟨i, hi, _, _, hp⟩ | ⟨_, ⟨hr, _, hp⟩ | ⟨hr, h0, ⟨_, _, hp⟩ | ⟨_, _, rfl⟩⟩⟩
  · have := hp.length_eq; simp at this; omega
  · have := hp.length_eq; simp at this; omega
  · have := hp.length_eq; simp at this; omega
  · exact ⟨Nat.le_succ _, h0, id⟩

end Go.Proofs.YtngpmpmhpggpgaaGreatDoorF
namespace Go.Proofs.YtngpmpmhpggpgaaGreatDoorF
open Go Go.Proofs.Vm

theorem refOf (room : Int) (m : List Itm) (k : ByteArray) (c : Int) (hr : 1 ≤ room) (hl : m.length < 900) :
    TV.pu 56 [cI .i64 room, .one (cItms m), .one (.v (.string k)), cI .i64 c] = some (.tup [(false, [cItms (refOffer room m k c).1]), (false, [.v (.bool (refOffer room m k c).2)])]) := by
  refine run56 (by simp) ?_
  have hW := Without m k (by omega)
  have hP1 := Put (notK k m) (k, c) (by have : (notK k m).length ≤ m.length := List.length_filter_le _ _; omega)
  have hP2 := Put m.dropLast (k, c) (by rw [List.length_dropLast]; omega)
  simp only [cItms, cItm] at hW hP1 hP2
  rw [List.map_dropLast] at hP2
  by_cases c1 : (notK k m).length < m.length
  · have e : refOffer room m k c = (insL (k, c) (notK k m), true) := if_pos (.inl c1)
    rw [e]
    simp -implicitDefEqProofs [Tryz.f56, cItms, hW, hP1, c1, cellsOf?, wr]
  · by_cases c2 : (m.length : Int) < room
    · have e : refOffer room m k c = (insL (k, c) (notK k m), true) := if_pos (.inr c2)
      rw [e]
      simp -implicitDefEqProofs [Tryz.f56, cItms, hW, hP1, c1, c2, cellsOf?, wr]
    · have hm : 0 < m.length := by omega
      have w1 : IntKind.i64.wrap ((m.length : Int) - 1) = ((m.length - 1 : Nat) : Int) := by rw [w64_id (by omega) (by omega)]; omega
      have hlt : m.length - 1 < m.length := by omega
      have hne : m ≠ [] := by rintro rfl; exact Nat.lt_irrefl _ hm
      have hla : (m.getLast?.map (·.2)).getD 0 = m[m.length - 1].2 := by rw [List.getLast?_eq_some_getLast hne, List.getLast_eq_getElem]; rfl
      have hdl : (m.map cItm).take (m.length - 1) = m.dropLast.map cItm := by rw [List.dropLast_eq_take, List.map_take]
      have hsl := fun (H : Hp) (nid : Nat) => slc_to (P := Tryz.prog) (H := H) (nid := nid) es62 sz66 (xs := m.map cItm) (k := m.length - 1) (by simp) (cItm_all m)
      by_cases c3 : m[m.length - 1].2 < c
      · have e : refOffer room m k c = (insL (k, c) m.dropLast, true) := by
          unfold refOffer
          rw [if_neg (by omega), hla, if_pos c3]
        rw [e]
        simp -implicitDefEqProofs [Tryz.f56, cItms, cItm, hW, hP2, c1, c2, c3, w1, hlt, hsl, hdl, cellsOf?, wr]
      · have e : refOffer room m k c = (m, false) := by
          unfold refOffer
          rw [if_neg (by omega), hla, if_neg c3]
        rw [e]
        simp -implicitDefEqProofs [Tryz.f56, cItms, cItm, hW, c1, c2, c3, w1, hlt]
end Go.Proofs.YtngpmpmhpggpgaaGreatDoorF
end

section
/- A heap to which all was offered. -/
set_option maxRecDepth 8192
set_option maxHeartbeats 2000000
namespace Go.Proofs.YtngpmpmhpggpgaaGreatDoorF
open Go Go.Proofs.Vm

/-- A heap, in its first three places. -/
def hZ (K : Hp) (room : Int) (l : List Itm) (M : MS) (L : Hp) : Hp :=
  K ++ M.ent :: .clo (l.map cItm) false :: .opn [[.c (.v (.int .i64 room)), .sl (K.length + 1) 0 l.length l.length, .mp K.length]] false :: L
def K3 (K : Hp) : Hp := K ++ [.clo [] false, .clo [] false, .clo [] false]
theorem three (K : Hp) : Three (K3 K) (K.length + 1) K.length (K.length + 2) := ⟨by simp [K3], by simp [K3], by simp [K3], by omega, by omega, by omega⟩
theorem hZ_eq (K : Hp) (room : Int) (l : List Itm) (M : MS) (L : Hp) : hH (K3 K) (K.length + 2) (K.length + 1) K.length room l M L = hZ K room l M L := by
  simp [hH, hq, hZ, K3]

theorem hZ_len (K : Hp) (room : Int) (l : List Itm) (M : MS) (L : Hp) : (hZ K room l M L).length = K.length + L.length + 3 := by simp [hZ]; omega
theorem hZ_app (K : Hp) (room : Int) (l : List Itm) (M : MS) (L R : Hp) : hZ K room l M L ++ R = hZ K room l M (L ++ R) := by simp [hZ]
theorem hZ_get (K : Hp) (room : Int) (l : List Itm) (M : MS) (L : Hp) (j : Nat) : (hZ K room l M L)[K.length + j + 3]? = L[j]? := by
  unfold hZ
  rw [List.getElem?_append_right (by omega), show K.length + j + 3 - K.length = j + 1 + 1 + 1 by omega]
  rfl
theorem hZ_set (K : Hp) (room : Int) (l : List Itm) (M : MS) (L : Hp) (j : Nat) (u : Ent) : (hZ K room l M L).set (K.length + j + 3) u = hZ K room l M (L.set j u) := by
  unfold hZ
  rw [List.set_append_right _ _ (by omega), show K.length + j + 3 - K.length = j + 1 + 1 + 1 by omega]
  rfl
theorem hZ0_len (room : Int) (l : List Itm) (M : MS) (L : Hp) : (hZ [] room l M L).length = L.length + 3 := rfl
theorem hZ0_get (room : Int) (l : List Itm) (M : MS) (L : Hp) (j : Nat) : (hZ [] room l M L)[j + 3]? = L[j]? := rfl
theorem hZ0_gete (room : Int) (l : List Itm) (M : MS) (L : Hp) (j : Nat) (h : j + 3 < (hZ [] room l M L).length) : (hZ [] room l M L)[j + 3]'h = L[j]'(Nat.lt_of_add_lt_add_right h) := rfl
theorem hZ0_set (room : Int) (l : List Itm) (M : MS) (L : Hp) (j : Nat) (u : Ent) : (hZ [] room l M L).set (j + 3) u = hZ [] room l M (L.set j u) := rfl
section
variable {K : Hp} {room : Int} {l : List Itm} {M : MS} {L : Hp}
theorem offerZ (hr1 : 1 ≤ room) (hv : Inv l M) (hl : l.length < 500) (key : ByteArray) (count : Int) :
    ∃ b l' M' G, TV.S 44 [hP (K.length + 2), vS key, vI .i64 count] (hZ K room l M L) = some (vB b, hZ K room l' M' (L ++ G)) ∧ Inv l' M' ∧ OfferR room l key count b l' := by
  obtain ⟨a, K', e, b, l', M', G, rfl, rfl, h1, h2⟩ := offer (three K) (L := L) hr1 hv hl key count
  rw [hZ_eq, hZ_eq] at e
  exact ⟨b, l', M', G, e, h1, h2⟩
theorem listZ (hl : l.length < 1000) : TV.S 46 [hP (K.length + 2)] (hZ K room l M L) = some (.one (.sl (K.length + L.length + 5) 0 l.length l.length), hZ K room l M (L ++ [.clo [] false, .clo [] false, .clo ((isort ordI l).map cItm) false])) := by
  have e := list_ (three K) (room := room) (M := M) (L := L) hl
  rw [hZ_eq, hZ_eq] at e
  rw [e]
  simp [K3]
  omega
theorem newZ {H : Hp} (h1 : 1 ≤ room) (h2 : room ≤ 64) : TV.S 68 [vI .i64 room] H = some (hP (H.length + 2), hZ H room [] MS.empty []) := new_yes h1 h2
end
theorem inv_nil : Inv [] MS.empty := ⟨ix_nil, MS.empty_ok, heap_nil⟩
theorem like_nil : Like [] [] := ⟨.refl _, .nil⟩

/-- All offered, one after the other. -/
def refAll (room : Int) (l : List Itm) : List Itm := l.foldl (fun m x => (refOffer room m x.1 x.2).1) []
theorem refAll_snoc (room : Int) (l : List Itm) (x : Itm) : refAll room (l ++ [x]) = (refOffer room (refAll room l) x.1 x.2).1 := by simp [refAll]
theorem refAll_take {room : Int} {l : List Itm} {i : Nat} (h : i < l.length) : refAll room (l.take (i + 1)) = (refOffer room (refAll room (l.take i)) l[i].1 l[i].2).1 := by
  rw [List.take_add_one, List.getElem?_eq_getElem h]
  exact refAll_snoc _ _ _

/-- What stands in a heap after so many offers. -/
structure Told (room : Int) (l : List Itm) (M : MS) (m : List Itm) (n : Nat) : Prop where
  inv : Inv l M
  like : Like l m
  few : l.length ≤ n
  room : (l.length : Int) ≤ room
  pos : 0 < n → 0 < l.length
theorem told_nil {room : Int} (h : 1 ≤ room) : Told room [] MS.empty [] 0 := ⟨inv_nil, like_nil, Nat.le_refl _, by simp; omega, fun h => absurd h (Nat.lt_irrefl _)⟩
theorem Told.step {room : Int} {l m : List Itm} {M : MS} {n : Nat} (T : Told room l M m n) {k : ByteArray} {c : Int} {b : Bool} {l' : List Itm} {M' : MS} (hv : Inv l' M') (ho : OfferR room l k c b l') : Told room l' M' (refOffer room m k c).1 (n + 1) ∧ b = (refOffer room m k c).2 := by
  obtain ⟨h1, h2⟩ := offer_like (ix_keys T.inv.ix) T.inv.hp T.like ho
  obtain ⟨k1, k2, k3⟩ := offer_len ho
  exact ⟨⟨hv, h1, by have := T.few; omega, k3 T.room, fun _ => k2⟩, h2⟩

theorem of_yes {room : Int} {H : Hp} {l : List Itm} (h1 : 1 ≤ room) (h2 : room ≤ 64) (hl : l.length < 400) : ∃ a K, TV.S 43 [vI .i64 room, .one (.c (cItms l))] H = some (a, K) ∧ ∃ l' M G, a = hP (H.length + 2) ∧ K = hZ H room l' M G ∧ Told room l' M (refAll room l) l.length := by
  refine runX43 (by simp) (by rintro a K' ⟨l', M, G, -, rfl, -⟩; simp [hZ]) ?_
  have hn := newZ (H := H) h1 h2
  simp only [hP] at hn
  simp -implicitDefEqProofs [Tryz.f43, cItms, hn]
  obtain ⟨I, hI⟩ : ∃ I : Nat → St → Prop, ∀ n s', I n s' ↔ (∃ e i l' M G, s' = ⟨e, hZ H room l' M G⟩ ∧ e 5 = hP (H.length + 2) ∧ e 10 = .one (.c (.arr (l.map cItm))) ∧ e 11 = vI .i64 l.length ∧ e 12 = vI .i64 (i : Nat) ∧ i + n = l.length ∧ Told room l' M (refAll room (l.take i)) i) := ⟨_, fun _ _ => Iff.rfl⟩
  refine wpL_ind I ?_ l.length _ ((hI _ _).2 ⟨_, 0, [], MS.empty, [], rfl, by simp [hP], by simp, by simp, by simp, by omega, told_nil h1⟩)
  intro n st hst
  obtain ⟨e, i, l', M, G, rfl, e5, e10, e11, e12, hk, T⟩ := (hI _ _).1 hst
  by_cases c : i < l.length
  · have w1 : IntKind.i64.wrap ((i : Int) + 1) = ((i + 1 : Nat) : Int) := by rw [w64_id (by omega) (by omega)]; omega
    obtain ⟨b, l2, M2, G2, eo, v2, o2⟩ := offerZ (K := H) (L := G ++ [.opn [[.c (.v (.string l[i].1)), .c (.v (.int .i64 l[i].2))]] false]) h1 T.inv (by have := T.few; omega) l[i].1 l[i].2
    obtain ⟨T2, -⟩ := T.step v2 o2
    rw [← refAll_take c] at T2
    have zl := hZ_len H room l' M G
    have za := hZ_app H room l' M
    have zg : ∀ x, (hZ H room l' M (G ++ [x]))[H.length + G.length + 3]? = some x := fun x => by rw [hZ_get]; simp
    have zs : ∀ x y, (hZ H room l' M (G ++ [x])).set (H.length + G.length + 3) y = hZ H room l' M (G ++ [y]) := fun x y => by rw [hZ_set]; simp
    simp only [hP] at eo
    simp -implicitDefEqProofs [e5, e10, e11, e12, c, hP, cItm, zl, za, zg, zs, eo, w1, vstore, cellsOf?, Ent.wrO, wr]
    exact ⟨n - 1, by omega, (hI _ _).2 ⟨_, i + 1, _, _, _, rfl, by simp [e5, hP], by simp [e10], by simp [e11], by simp, by omega, T2⟩⟩
  · have hi : i = l.length := by omega
    subst hi
    rw [List.take_of_length_le (Nat.le_refl _)] at T
    simp -implicitDefEqProofs [e5, e11, e12]
    exact ⟨l', M, ⟨G, rfl⟩, T⟩

/-! The same, with what lies behind told by what was there. -/
def Grow (L L' : Hp) : Prop := ∃ G, L' = L ++ G
theorem Grow.refl (L : Hp) : Grow L L := ⟨[], by simp⟩
theorem Grow.trans {A B C : Hp} (h : Grow A B) (k : Grow B C) : Grow A C := by
  obtain ⟨G, rfl⟩ := h; obtain ⟨G', rfl⟩ := k; exact ⟨G ++ G', by simp⟩
theorem Grow.app (L : Hp) (R : Hp) : Grow L (L ++ R) := ⟨R, rfl⟩
theorem Grow.get {L L' : Hp} (h : Grow L L') {j : Nat} {x : Ent} (g : L[j]? = some x) : L'[j]? = some x := by
  obtain ⟨G, rfl⟩ := h
  rw [List.getElem?_append_left (List.getElem?_eq_some_iff.1 g).1]; exact g

def hP2 : AV := .one (.ptr ⟨2, 0, 0, 1⟩)
section
variable {room : Int} {l : List Itm} {M : MS} {L : Hp}
theorem offerO (hr1 : 1 ≤ room) (hv : Inv l M) (hl : l.length < 500) (key : ByteArray) (count : Int) :
    ∃ b l' M' L', TV.S 44 [hP2, vS key, vI .i64 count] (hZ [] room l M L) = some (vB b, hZ [] room l' M' L') ∧ Grow L L' ∧ Inv l' M' ∧ OfferR room l key count b l' := by
  obtain ⟨b, l', M', G, e, h1, h2⟩ := offerZ (K := []) (L := L) hr1 hv hl key count
  exact ⟨b, l', M', _, e, .app _ _, h1, h2⟩
theorem listO (hl : l.length < 1000) : ∃ id L', TV.S 46 [hP2] (hZ [] room l M L) = some (.one (.sl id 0 l.length l.length), hZ [] room l M L') ∧ Grow L L' ∧ (hZ [] room l M L')[id]? = some (.clo ((isort ordI l).map cItm) false) := by
  have e := listZ (K := []) (room := room) (M := M) (L := L) hl
  refine ⟨_, _, e, .app _ _, ?_⟩
  simp only [List.length_nil, Nat.zero_add]
  rw [hZ0_get (j := L.length + 2), List.getElem?_append_right (by omega), Nat.add_sub_cancel_left]
  rfl
end
/-- To which all was offered, and its list. -/
theorem ofList {room : Int} {H : Hp} {l : List Itm} (h1 : 1 ≤ room) (h2 : room ≤ 64) (hl : l.length < 400) : ∃ p K' id K'', TV.S 43 [vI .i64 room, .one (.c (.arr (l.map cItm)))] H = some (p, K') ∧ TV.S 46 [p] K' = some (.one (.sl id 0 (refAll room l).length (refAll room l).length), K'') ∧ Grow H K'' ∧ K''[id]? = some (.clo ((refAll room l).map cItm) false) := by
  obtain ⟨a, K, e, l', M, G, rfl, rfl, T⟩ := of_yes (H := H) h1 h2 hl
  have e2 := listZ (K := H) (room := room) (M := M) (L := G) (l := l') (by have := T.few; omega)
  rw [T.like.isort, T.like.perm.length_eq] at e2
  refine ⟨_, _, _, _, e, e2, ⟨_, rfl⟩, ?_⟩
  rw [show H.length + G.length + 5 = H.length + (G.length + 2) + 3 by omega, hZ_get, List.getElem?_append_right (by omega), Nat.add_sub_cancel_left]
  rfl
end Go.Proofs.YtngpmpmhpggpgaaGreatDoorF
end

section
/- Signs. -/
namespace Go.Proofs.YtngpmpmhpggpgaaGreatDoorF
open Go Go.Proofs.Vm
theorem hash_Sign {seed : Int} {s : ByteArray} (h0 : 0 ≤ seed) (h1 : seed < 18446744073709551616) (hs : s.size ≤ 140737488351232) : TV.pu 93 [cI .u64 seed, cS s] = some (cI .i64 (hsign seed s)) := by
  refine run93 (by simp) ?_
  have hr := hsum_range seed s
  have e1 := and_1 (hsum seed s) hr.1 (by omega)
  have e2 : IntKind.i64.wrap (hsum seed s % 2) = hsum seed s % 2 := w64_id (by omega) (by omega)
  have e3 : IntKind.i64.wrap (hsum seed s % 2 * 2) = hsum seed s % 2 * 2 := w64_id (by omega) (by omega)
  have e4 : IntKind.i64.wrap (hsum seed s % 2 * 2 - 1) = hsum seed s % 2 * 2 - 1 := w64_id (by omega) (by omega)
  simp [Tryz.f93, hash_Sum h0 h1 hs, e1, e2, e3, e4, hsign]
end Go.Proofs.YtngpmpmhpggpgaaGreatDoorF
end

section
/- Sketches of signed counts: are they right? -/
set_option maxRecDepth 8192
set_option maxHeartbeats 2000000
namespace Go.Proofs.YtngpmpmhpggpgaaGreatDoorF
open Go Go.Proofs.Vm

def fitsB (n : Int) : Bool := decide (-1099511627776 ≤ n) && decide (n ≤ 1099511627776)
theorem signed_fits (n : Int) : TV.pu 65 [cI .i64 n] = some (cB (fitsB n)) := by
  refine run65 (by simp) ?_
  by_cases h : -1099511627776 ≤ n <;> simp [Tryz.f65, h, fitsB]

theorem signed_lam (n : Int) : TV.pu 78 [cI .i64 n] = some (cB (!fitsB n)) := by
  refine run78 (by simp) ?_
  simp [Tryz.f78, signed_fits]

theorem index_row {g : CV} {caps : List CV} {f : FuncId} (hg : g = .fn f caps) {p : Int → Bool} {r : List Int} (hp : ∀ n ∈ r, TV.pu f (cI .i64 n :: caps.map .one) = some (cB (p n))) (hl : r.length < 9223372036854775807) :
    TV.pu 102 [.one (cRow r), .one g] = some (cI .i64 (idxF p r)) := by
  subst hg
  refine run102 (by simp) ?_
  simp [Tryz.f102, cRow]
  obtain ⟨I, hI⟩ : ∃ I : Nat → St → Prop, ∀ k s', I k s' ↔ (∃ e j, s' = ⟨e, []⟩ ∧ e 0 = .one (.c (cRow r)) ∧ e 1 = .one (.c (.fn f caps)) ∧ e 7 = vI .i64 r.length ∧ e 8 = vI .i64 (j : Nat) ∧ j + k = r.length ∧ ∀ q, q < j → ∀ x, r[q]? = some x → p x = false) := ⟨_, fun _ _ => Iff.rfl⟩
  refine wpL_ind I ?_ r.length _ ((hI _ _).2 ⟨_, 0, rfl, by simp [cRow], by simp, by simp, by simp, by omega, by simp⟩)
  intro k st hst
  obtain ⟨e, j, rfl, e0, e1, e7, e8, hk, hno⟩ := (hI _ _).1 hst
  by_cases c : j < r.length
  · have hx : r[j]? = some r[j] := List.getElem?_eq_getElem c
    have hpj := hp r[j] (List.getElem_mem c)
    have w1 : IntKind.i64.wrap ((j : Int) + 1) = ((j + 1 : Nat) : Int) := by rw [w64_id (by omega) (by omega)]; omega
    simp [e0, e1, e7, e8, cRow, c, hpj, w1, cInt]
    by_cases hj : p r[j] = true
    · simp [hj, idxF_at p r j c hj hno]
    · simp [hj]
      refine ⟨k - 1, by omega, (hI _ _).2 ⟨_, j + 1, rfl, by simp [e0], by simp [e1], by simp [e7], by simp, by omega, ?_⟩⟩
      intro q hq x hx2
      by_cases hqj : q = j
      · subst hqj
        rw [hx] at hx2
        cases hx2
        simpa using hj
      · exact hno q (by omega) x hx2
  · have c' : ¬ (j : Int) < (r.length : Int) := by omega
    simp [e0, e1, e7, e8, c']
    rw [idxF_none p r fun q hq => hno q (by omega)]
theorem index_rows {g : CV} {caps : List CV} {f : FuncId} (hg : g = .fn f caps) {p : List Int → Bool} {r : List (List Int)} (hp : ∀ n ∈ r, TV.pu f (.one (cRow n) :: caps.map .one) = some (cB (p n))) (hl : r.length < 9223372036854775807) :
    TV.pu 101 [.one (cRows r), .one g] = some (cI .i64 (idxF p r)) := by
  subst hg
  refine run101 (by simp) ?_
  simp [Tryz.f101, cRows]
  obtain ⟨I, hI⟩ : ∃ I : Nat → St → Prop, ∀ k s', I k s' ↔ (∃ e j, s' = ⟨e, []⟩ ∧ e 0 = .one (.c (cRows r)) ∧ e 1 = .one (.c (.fn f caps)) ∧ e 7 = vI .i64 r.length ∧ e 8 = vI .i64 (j : Nat) ∧ j + k = r.length ∧ ∀ q, q < j → ∀ x, r[q]? = some x → p x = false) := ⟨_, fun _ _ => Iff.rfl⟩
  refine wpL_ind I ?_ r.length _ ((hI _ _).2 ⟨_, 0, rfl, by simp [cRows], by simp, by simp, by simp, by omega, by simp⟩)
  intro k st hst
  obtain ⟨e, j, rfl, e0, e1, e7, e8, hk, hno⟩ := (hI _ _).1 hst
  by_cases c : j < r.length
  · have hx : r[j]? = some r[j] := List.getElem?_eq_getElem c
    have hpj := hp r[j] (List.getElem_mem c)
    have w1 : IntKind.i64.wrap ((j : Int) + 1) = ((j + 1 : Nat) : Int) := by rw [w64_id (by omega) (by omega)]; omega
    simp only [cRow] at hpj
    simp [e0, e1, e7, e8, cRows, cRow, c, hpj, w1]
    by_cases hj : p r[j] = true
    · simp [hj, idxF_at p r j c hj hno]
    · simp [hj]
      refine ⟨k - 1, by omega, (hI _ _).2 ⟨_, j + 1, rfl, by simp [e0], by simp [e1], by simp [e7], by simp, by omega, ?_⟩⟩
      intro q hq x hx2
      by_cases hqj : q = j
      · subst hqj
        rw [hx] at hx2
        cases hx2
        simpa using hj
      · exact hno q (by omega) x hx2
  · have c' : ¬ (j : Int) < (r.length : Int) := by omega
    simp [e0, e1, e7, e8, c']
    rw [idxF_none p r fun q hq => hno q (by omega)]

theorem contains_row {g : CV} {caps : List CV} {f : FuncId} (hg : g = .fn f caps) {p : Int → Bool} {r : List Int} (hp : ∀ n ∈ r, TV.pu f (cI .i64 n :: caps.map .one) = some (cB (p n))) (hl : r.length < 9223372036854775807) :
    TV.pu 77 [.one (cRow r), .one g] = some (cB (r.any p)) := by
  refine run77 (by simp) ?_
  have h := index_row hg hp hl
  subst hg
  simp [Tryz.f77, h, idxF_ge, cRow] at h ⊢
theorem contains_rows {g : CV} {caps : List CV} {f : FuncId} (hg : g = .fn f caps) {p : List Int → Bool} {r : List (List Int)} (hp : ∀ n ∈ r, TV.pu f (.one (cRow n) :: caps.map .one) = some (cB (p n))) (hl : r.length < 9223372036854775807) :
    TV.pu 75 [.one (cRows r), .one g] = some (cB (r.any p)) := by
  refine run75 (by simp) ?_
  have h := index_rows hg hp hl
  subst hg
  simp [Tryz.f75, h, idxF_ge, cRows] at h ⊢

def cSk (seed : Int) (rows : List (List Int)) : List CV := [.v (.int .u64 seed), cRows rows]
def rowB (rows : List (List Int)) (r : List Int) : Bool := decide (r.length < 1) || decide (256 < r.length) || decide (r.length ≠ (rows.headD []).length) || r.any (fun n => !fitsB n)
theorem signed_row {seed : Int} {rows : List (List Int)} {r : List Int} (hr : rows ≠ []) (hl : r.length < 9223372036854775807) (hl2 : ∀ x ∈ rows, x.length < 9223372036854775807) : TV.pu 76 [.one (cRow r), .one (.cptr (cSk seed rows))] = some (cB (rowB rows r)) := by
  refine run76 (by simp) ?_
  obtain ⟨h, t, rfl⟩ : ∃ h t, rows = h :: t := by cases rows with | nil => exact absurd rfl hr | cons h t => exact ⟨h, t, rfl⟩
  have hc := contains_row (g := .fn 78 []) rfl (p := fun n => !fitsB n) (r := r) (fun n _ => signed_lam n) hl
  simp only [cRow] at hc
  have hB : rowB (h :: t) r = (decide (r.length < 1) || decide (256 < r.length) || decide (r.length ≠ h.length) || r.any (fun n => !fitsB n)) := rfl
  rw [hB]
  by_cases h1 : (r.length : Int) < 1
  · have g1 : r.length < 1 := by omega
    rw [decide_eq_true g1, Bool.true_or, Bool.true_or, Bool.true_or]
    simp [Tryz.f76, cSk, cRows, cRow, h1]
  · have g1 : ¬ r.length < 1 := by omega
    rw [decide_eq_false g1, Bool.false_or]
    by_cases h2 : 256 < (r.length : Int)
    · have g2 : 256 < r.length := by omega
      rw [decide_eq_true g2, Bool.true_or, Bool.true_or]
      simp [Tryz.f76, cSk, cRows, cRow, h1, h2]
    · have g2 : ¬ 256 < r.length := by omega
      rw [decide_eq_false g2, Bool.false_or]
      by_cases h3 : (r.length : Int) = h.length
      · have g3 : ¬ r.length ≠ h.length := by omega
        rw [decide_eq_false g3, Bool.false_or]
        have h3' : ((r.length : Int) != (h.length : Int)) = false := by simp [h3]
        simp [Tryz.f76, cSk, cRows, cRow, h1, h2, h3', hc]
      · have g3 : r.length ≠ h.length := by omega
        rw [decide_eq_true g3, Bool.true_or]
        have h3' : ((r.length : Int) != (h.length : Int)) = true := by simp; omega
        simp [Tryz.f76, cSk, cRows, cRow, h1, h2, h3']

def okB (rows : List (List Int)) : Bool := decide (rows.length ≤ 7) && decide (rows.length % 2 = 1) && !rows.any (rowB rows)
theorem signed_Right {seed : Int} {rows : List (List Int)} (hl : rows.length < 9223372036854775807) (hl2 : ∀ x ∈ rows, x.length < 9223372036854775807) : TV.pu 50 [.agg (cSk seed rows)] = some (cB (okB rows)) := by
  refine run50 (by simp) ?_
  have hc : rows ≠ [] → TV.pu 75 [.one (cRows rows), .one (.fn 76 [.cptr (cSk seed rows)])] = some (cB (rows.any (rowB rows))) := fun hr =>
    contains_rows rfl (fun n hn => signed_row hr (hl2 n hn) hl2) hl
  have e2 : (rows.length : Int).tmod 2 = ((rows.length % 2 : Nat) : Int) := by rw [Int.tmod_eq_emod_of_nonneg (by omega)]; omega
  by_cases h1 : 7 < (rows.length : Int)
  · have g1 : ¬ rows.length ≤ 7 := by omega
    simp only [okB, decide_eq_false g1, Bool.false_and]
    simp [Tryz.f50, cSk, cRows, h1]
  · have g1 : rows.length ≤ 7 := by omega
    simp only [okB, decide_eq_true g1, Bool.true_and]
    by_cases h2 : rows.length % 2 = 1
    · have hr : rows ≠ [] := by rintro rfl; simp at h2
      have hc := hc hr
      simp only [cSk, cRows] at hc
      have e3 : ((rows.length : Int).tmod 2 == 0) = false := by rw [e2, h2]; rfl
      simp [Tryz.f50, cSk, cRows, h1, h2, e3, bin_rem, hc]
    · have e3 : ((rows.length : Int).tmod 2 == 0) = true := by rw [e2, show rows.length % 2 = 0 by omega]; rfl
      simp [Tryz.f50, cSk, cRows, h1, h2, e3, bin_rem]
end Go.Proofs.YtngpmpmhpggpgaaGreatDoorF
end

section
/- A clone of rows, in new memory. -/
set_option maxRecDepth 8192
set_option maxHeartbeats 2000000
namespace Go.Proofs.YtngpmpmhpggpgaaGreatDoorF
open Go Go.Proofs.Vm

theorem slices_Clone {r : List Int} {H : Hp} (h0 : r ≠ []) (hl : r.length ≤ 8796093022208) : TV.S 91 [.one (.c (cRow r))] H = some (.one (.sl (H.length + 1) 0 r.length r.length), H ++ [.clo [] false, .clo (r.map cInt) false]) := by
  refine run91 (by simp) (by simp) ?_
  have ha := vappend_eq (P := Tryz.prog) (H := H ++ [.clo [] false, .clo [] false]) (t := 53) (tx := 53) (id := H.length + 1) (n := 0) (l := []) (xs := r.map cInt) (x := .one (.c (.arr (r.map cInt)))) es53 es53 el3
    (by simp) rfl rfl (by simp) (by simp) (by simp; omega) (by simp; omega)
  obtain ⟨x, t, rfl⟩ : ∃ h t, r = h :: t := by cases r with | nil => exact absurd rfl h0 | cons h t => exact ⟨h, t, rfl⟩
  simp at ha
  simp [Tryz.f91, cRow, vmove, isNil, bin_sln es53, bs_zero es53 el3, ha]
end Go.Proofs.YtngpmpmhpggpgaaGreatDoorF
namespace Go.Proofs.YtngpmpmhpggpgaaGreatDoorF
open Go Go.Proofs.Vm

def cl (rows : List (List Int)) : List Ent := (rows.map fun r => [Ent.clo [] false, .clo (r.map cInt) false]).flatten
theorem cl_len (rows : List (List Int)) : (cl rows).length = 2 * rows.length := by
  induction rows with
  | nil => rfl
  | cons r t ih => simp only [cl, List.map_cons, List.flatten_cons, List.length_append] at ih ⊢; rw [ih]; simp; omega
theorem cl_take (rows : List (List Int)) (i : Nat) (h : i < rows.length) : cl (rows.take (i + 1)) = cl (rows.take i) ++ [Ent.clo [] false, .clo (rows[i].map cInt) false] := by
  rw [List.take_add_one, List.getElem?_eq_getElem h]
  simp only [cl, Option.toList_some, List.map_append, List.flatten_append, List.map_cons, List.map_nil, List.flatten_cons, List.flatten_nil, List.append_nil]
def clRows (b : Nat) (rows : List (List Int)) (i : Nat) : List (List Cell) := rows.mapIdx fun j r => if j < i then [.sl (b + (5 + 2 * j)) 0 r.length r.length] else [.c (.arr [])]
theorem clRows_len (b : Nat) (rows : List (List Int)) (i : Nat) : (clRows b rows i).length = rows.length := by simp [clRows]
theorem clRows_zero (b : Nat) (rows : List (List Int)) : clRows b rows 0 = List.replicate rows.length [.c (.arr [])] := by
  apply List.ext_getElem
  · simp [clRows]
  · intro j h1 h2
    simp [clRows]
theorem clRows_at (b : Nat) (rows : List (List Int)) (i : Nat) (h : i < rows.length) : (clRows b rows i)[i]? = some [.c (.arr [])] := by
  simp [clRows, h]
theorem clRows_set (b : Nat) (rows : List (List Int)) (i : Nat) (h : i < rows.length) : (clRows b rows i).set i [.sl (b + (5 + 2 * i)) 0 rows[i].length rows[i].length] = clRows b rows (i + 1) := by
  apply List.ext_getElem
  · simp [clRows]
  · intro j h1 h2
    rw [List.getElem_set]
    simp only [clRows, List.getElem_mapIdx]
    by_cases hj : i = j
    · subst hj; simp
    · rw [if_neg hj]
      by_cases hj2 : j < i
      · rw [if_pos hj2, if_pos (by omega)]
      · rw [if_neg hj2, if_neg (by omega)]

theorem clRows_modify (b : Nat) (rows : List (List Int)) (i : Nat) (_h : i < rows.length) (x : Cell) : ((clRows b rows i).modify i fun e => wr e 0 [x]) = (clRows b rows i).set i [x] := by
  apply List.ext_getElem
  · simp
  · intro j h1 h2
    rw [List.getElem_modify, List.getElem_set]
    by_cases hj : i = j
    · subst hj
      simp [clRows, wr]
    · rw [if_neg hj, if_neg hj]

/-- The memory behind a clone. -/
def clH (b : Nat) (seed : Int) (rows : List (List Int)) : List Ent :=
  .opn [[.c (.v (.int .u64 seed)), .sl (b + 3) 0 rows.length rows.length]] false :: .opn [[.c (.v (.int .u64 seed)), .sl (b + 3) 0 rows.length rows.length]] false :: .clo [] false :: .opn (clRows b rows rows.length) false :: cl rows

theorem signed_clone {seed : Int} {rows : List (List Int)} {H : Hp} (h0 : rows ≠ []) (hl : rows.length ≤ 1000) (hr : ∀ r ∈ rows, r ≠ [] ∧ r.length ≤ 8796093022208) :
    TV.S 66 [.agg [.c (.v (.int .u64 seed)), .c (cRows rows)]] H = some (.agg [.c (.v (.int .u64 seed)), .sl (H.length + 3) 0 rows.length rows.length], H ++ clH H.length seed rows) := by
  refine run66 (by simp) (by simp) ?_
  have hz : rows.length ≠ 0 := fun h => h0 (List.length_eq_zero_iff.1 h)
  simp [Tryz.f66, cRows, vmove, isNil, vmakeSlice_eq es38 el53, hz, small]
  refine ⟨⟨by omega, by omega⟩, ?_⟩
  obtain ⟨I, hI⟩ : ∃ I : Nat → St → Prop, ∀ k s', I k s' ↔ (∃ e h i, s' = ⟨e, h⟩ ∧ h = H ++ .opn [[.c (.v (.int .u64 seed)), .c (cRows rows)]] false :: .opn [[.c (.v (.int .u64 0)), .sl (H.length + 2) 0 0 0]] false :: .clo [] false :: .opn (clRows H.length rows i) false :: cl (rows.take i) ∧
      e 1 = .one (.ptr ⟨H.length, 0, 0, 1⟩) ∧ e 2 = .one (.ptr ⟨H.length + 1, 0, 0, 1⟩) ∧ e 3 = .one (.sl (H.length + 3) 0 rows.length rows.length) ∧ e 11 = .one (.c (cRows rows)) ∧ e 12 = vI .i64 rows.length ∧ e 13 = vI .i64 (i : Nat) ∧ i + k = rows.length) := ⟨_, fun _ _ => Iff.rfl⟩
  refine wpL_ind I ?_ rows.length _ ((hI _ _).2 ⟨_, _, 0, rfl, by rw [clRows_zero]; simp [cRows, cl], by simp, by simp, by simp, by simp [cRows], by simp, by simp, by omega⟩)
  intro k st hst
  obtain ⟨e, h, i, rfl, rfl, e1, e2, e3, e11, e12, e13, hk⟩ := (hI _ _).1 hst
  by_cases c : i < rows.length
  · have c' : (i : Int) < rows.length := by omega
    have hm := hr rows[i] (List.getElem_mem c)
    have hx : rows[i]? = some rows[i] := List.getElem?_eq_getElem c
    have w1 : IntKind.i64.wrap ((i : Int) + 1) = ((i + 1 : Nat) : Int) := by rw [w64_id (by omega) (by omega)]; omega
    have hc := slices_Clone (r := rows[i]) (H := H ++ .opn [[.c (.v (.int .u64 seed)), .c (cRows rows)]] false :: .opn [[.c (.v (.int .u64 0)), .sl (H.length + 2) 0 0 0]] false :: .clo [] false :: .opn (clRows H.length rows i) false :: cl (rows.take i)) hm.1 hm.2
    simp only [cRow, cRows] at hc
    simp [e1, e2, e3, e11, e12, e13, c, c', w1, cRows, cRow, vmove, hc, vstore, cellsOf?, clRows_len, Ent.wrO]
    refine ⟨by simp [clRows], by simp [clRows], k - 1, by omega, (hI _ _).2 ⟨_, _, i + 1, rfl, ?_, by simp [e1], by simp [e2], by simp [e3], by simp [e11, cRows, cRow], by simp [e12], by simp, by omega⟩⟩
    rw [clRows_modify _ _ _ c, cl_take _ _ c, ← clRows_set _ _ _ c, cl_len, List.length_take, Nat.min_eq_left (by omega)]
    rw [show H.length + (2 * i + 1 + 1 + 1 + 1) + 1 = H.length + (5 + 2 * i) by omega]
    simp [cRows, cRow]
  · have c' : ¬ (i : Int) < rows.length := by omega
    have hi : i = rows.length := by omega
    subst hi
    simp [e1, e2, e3, e11, e12, e13, c', cRows, vmove, vstore, cellsOf?, Ent.wrO, wr, clH]
    simp [qa]
end Go.Proofs.YtngpmpmhpggpgaaGreatDoorF
end

section
/- The places of a key. -/
set_option maxRecDepth 8192
set_option maxHeartbeats 2000000
namespace Go.Proofs.YtngpmpmhpggpgaaGreatDoorF
open Go Go.Proofs.Vm

def scell (seed : Int) (key : ByteArray) (i n : Int) : Int := hcell (hrow seed (2 * i)) key n
def ssign (seed : Int) (key : ByteArray) (i : Int) : Int := hsign (hrow seed (2 * i + 1)) key
theorem signed_place {seed : Int} {rows : List (List Int)} {key : ByteArray} {i : Nat} (h0 : 0 ≤ seed) (h1 : seed < 18446744073709551616) (hs : key.size ≤ 140737488351232) (hi : i < rows.length) (hl : rows.length ≤ 1000) (hr : rows[i].length < 9223372036854775807) :
    TV.pu 67 [.agg (cSk seed rows), cS key, cI .i64 i] = some (.tup [(false, [.v (.int .i64 (scell seed key i rows[i].length))]), (false, [.v (.int .i64 (ssign seed key i))])]) := by
  refine run67 (by simp) ?_
  have w1 : IntKind.i64.wrap (2 * (i : Int)) = 2 * (i : Int) := w64_id (by omega) (by omega)
  have w2 : IntKind.i64.wrap (2 * (i : Int) + 1) = 2 * (i : Int) + 1 := w64_id (by omega) (by omega)
  have r1 := hash_Row (s := seed) (i := 2 * (i : Int)) h0 h1 (by omega) (by omega)
  have r2 := hash_Row (s := seed) (i := 2 * (i : Int) + 1) h0 h1 (by omega) (by omega)
  have b1 := hrow_range seed (2 * (i : Int))
  have b2 := hrow_range seed (2 * (i : Int) + 1)
  have c1 := hash_Cell (seed := hrow seed (2 * (i : Int))) (s := key) (n := (rows[i].length : Int)) b1.1 (by omega) hs (by omega)
  have c2 := hash_Sign (seed := hrow seed (2 * (i : Int) + 1)) (s := key) b2.1 (by omega) hs
  simp [Tryz.f67, cSk, cRows, cRow, w1, w2, r1, r2, hi, c1, c2, scell, ssign]

end Go.Proofs.YtngpmpmhpggpgaaGreatDoorF

namespace Go.Proofs.YtngpmpmhpggpgaaGreatDoorF
open Go Go.Proofs.Vm

theorem cl_get (rows : List (List Int)) (j : Nat) : (cl rows)[2 * j + 1]? = rows[j]?.map fun r => .clo (r.map cInt) false := by
  induction rows generalizing j with
  | nil => simp [cl]
  | cons r t ih =>
    cases j with
    | zero => simp [cl]
    | succ j =>
      have := ih j
      simp only [cl, List.map_cons, List.flatten_cons] at this ⊢
      rw [List.getElem?_append_right (by simp; omega)]
      simp only [List.length_cons, List.length_nil]
      rw [show 2 * (j + 1) + 1 - (0 + 1 + 1) = 2 * j + 1 by omega, this]
      rfl
theorem cl_set (rows : List (List Int)) (j : Nat) (x : List Int) : (cl rows).set (2 * j + 1) (.clo (x.map cInt) false) = cl (rows.set j x) := by
  induction rows generalizing j with
  | nil => simp [cl]
  | cons r t ih =>
    cases j with
    | zero => simp [cl]
    | succ j =>
      have := ih j
      simp only [cl, List.map_cons, List.flatten_cons, List.set_cons_succ] at this ⊢
      rw [List.set_append_right _ _ (by simp; omega)]
      simp only [List.length_cons, List.length_nil]
      rw [show 2 * (j + 1) + 1 - (0 + 1 + 1) = 2 * j + 1 by omega, this]

theorem mapO_all {α β : Type} {f : α → Option β} : ∀ {l : List α} {m : List β}, l.length = m.length → (∀ (j : Nat) x y, l[j]? = some x → m[j]? = some y → f x = some y) → mapO f l = some m
  | [], [], _, _ => rfl
  | [], _ :: _, h, _ => by simp at h
  | _ :: _, [], h, _ => by simp at h
  | x :: l, y :: m, h, g => by
    have h1 := g 0 x y rfl rfl
    have h2 := mapO_all (l := l) (m := m) (by simpa using h) fun j u v hu hv => g (j + 1) u v (by simpa using hu) (by simpa using hv)
    simp [mapO, h1, h2]

theorem fz_rows {h : Hp} {id b : Nat} {rows cur : List (List Int)} (hlen : cur.length = rows.length) (h6 : h[id]? = some (.opn (clRows b rows rows.length) false))
    (hc : ∀ j (hj : j < rows.length) (hj2 : j < cur.length), h[b + (5 + 2 * j)]? = some (.clo (cur[j].map cInt) false) ∧ cur[j].length = rows[j].length) (n : Nat) :
    fzc (n + 2) h (.sl id 0 rows.length rows.length) = some (cRows cur) := by
  have hm : mapO (mapO (fzc (n + 1) h)) (clRows b rows rows.length) = some (cur.map fun r => [cRow r]) := by
    refine mapO_all (by simp [clRows, hlen]) fun j x y hx hy => ?_
    simp only [clRows, List.getElem?_mapIdx, List.getElem?_map] at hx hy
    have hj2 : j < cur.length := by
      rcases Nat.lt_or_ge j cur.length with h | h
      · exact h
      · rw [List.getElem?_eq_none h] at hy; cases hy
    have hj : j < rows.length := by omega
    rw [List.getElem?_eq_getElem hj] at hx
    rw [List.getElem?_eq_getElem hj2] at hy
    simp only [Option.map_some, Option.some.injEq, hj, if_true] at hx hy
    subst hx hy
    obtain ⟨g1, g2⟩ := hc j hj hj2
    simp only [mapO, fzc, g1, List.length_map, g2, if_true, List.drop_zero]
    rw [List.take_of_length_le (by simp [g2])]
    rfl
  have hl : (clRows b rows rows.length).length = rows.length := clRows_len ..
  unfold fzc
  simp only [h6, hl, if_true, List.drop_zero]
  rw [List.take_of_length_le (by omega), hm]
  rfl

def newV (seed : Int) (key : ByteArray) (n : Int) (i : Int) (r : List Int) : Int := r.getD (scell seed key i r.length).toNat 0 + ssign seed key i * n
def updRow (seed : Int) (key : ByteArray) (n : Int) (i : Int) (r : List Int) : List Int := r.set (scell seed key i r.length).toNat (newV seed key n i r)
def updTo (seed : Int) (key : ByteArray) (n : Int) (k : Nat) (rows : List (List Int)) : List (List Int) := rows.mapIdx fun j r => if j < k then updRow seed key n (j : Int) r else r
theorem updTo_zero (seed : Int) (key : ByteArray) (n : Int) (rows : List (List Int)) : updTo seed key n 0 rows = rows := by
  apply List.ext_getElem
  · simp [updTo]
  · intro j h1 h2
    simp [updTo]
theorem updTo_len (seed : Int) (key : ByteArray) (n : Int) (k : Nat) (rows : List (List Int)) : (updTo seed key n k rows).length = rows.length := by simp [updTo]
theorem updTo_at (seed : Int) (key : ByteArray) (n : Int) (k : Nat) (rows : List (List Int)) (h : k < rows.length) : (updTo seed key n k rows)[k]? = some rows[k] := by simp [updTo, h]
theorem updTo_set (seed : Int) (key : ByteArray) (n : Int) (k : Nat) (rows : List (List Int)) (h : k < rows.length) : (updTo seed key n k rows).set k (updRow seed key n (k : Int) rows[k]) = updTo seed key n (k + 1) rows := by
  apply List.ext_getElem
  · simp [updTo]
  · intro j h1 h2
    rw [List.getElem_set]
    simp only [updTo, List.getElem_mapIdx]
    by_cases hj : k = j
    · subst hj; simp
    · rw [if_neg hj]
      by_cases hj2 : j < k
      · rw [if_pos hj2, if_pos (by omega)]
      · rw [if_neg hj2, if_neg (by omega)]
theorem updTo_rowlen (seed : Int) (key : ByteArray) (n : Int) (k : Nat) (rows : List (List Int)) (j : Nat) (h : j < rows.length) (h2 : j < (updTo seed key n k rows).length) : (updTo seed key n k rows)[j].length = rows[j].length := by
  simp only [updTo, List.getElem_mapIdx]
  split
  · simp [updRow]
  · rfl
def addRows (seed : Int) (key : ByteArray) (n : Int) (rows : List (List Int)) : List (List Int) := updTo seed key n rows.length rows
end Go.Proofs.YtngpmpmhpggpgaaGreatDoorF
end

section
/- So many more of a key. -/
set_option maxRecDepth 8192
set_option maxHeartbeats 2000000
namespace Go.Proofs.YtngpmpmhpggpgaaGreatDoorF
open Go Go.Proofs.Vm

structure OkR (rows : List (List Int)) : Prop where
  l7 : rows.length ≤ 7
  odd : rows.length % 2 = 1
  row : ∀ r ∈ rows, 1 ≤ r.length ∧ r.length ≤ 256 ∧ r.length = (rows.headD []).length ∧ ∀ v ∈ r, -1099511627776 ≤ v ∧ v ≤ 1099511627776
theorem fitsB_iff (n : Int) : fitsB n = true ↔ -1099511627776 ≤ n ∧ n ≤ 1099511627776 := by simp [fitsB]
theorem okB_iff (rows : List (List Int)) : okB rows = true ↔ OkR rows := by
  simp only [okB, Bool.and_eq_true, decide_eq_true_eq, Bool.not_eq_true', List.any_eq_false, rowB, Bool.or_eq_true, not_or, List.any_eq_true, not_exists, not_and, ne_eq]
  constructor
  · rintro ⟨⟨a, b⟩, c⟩
    exact ⟨a, b, fun r hr => ⟨by have := (c r hr).1.1.1; omega, by have := (c r hr).1.1.2; omega, by have := (c r hr).1.2; omega, fun v hv => (fitsB_iff v).1 (by have := (c r hr).2 v hv; simpa using this)⟩⟩
  · rintro ⟨a, b, c⟩
    exact ⟨⟨a, b⟩, fun r hr => ⟨⟨⟨by have := (c r hr).1; omega, by have := (c r hr).2.1; omega⟩, by have := (c r hr).2.2.1; omega⟩, fun v hv => by have := (fitsB_iff v).2 ((c r hr).2.2.2 v hv); simpa using this⟩⟩
theorem OkR.ne {rows : List (List Int)} (h : OkR rows) : rows ≠ [] := by rintro rfl; have := h.odd; simp at this

def zH (seed : Int) (key : ByteArray) (n : Int) (rows : List (List Int)) (i : Nat) : List Ent :=
  .clo [] false :: .opn [[.c (.v (.int .u64 seed)), .sl 6 0 rows.length rows.length]] false :: .opn [[.c (.v (.int .u64 seed)), .sl 6 0 rows.length rows.length]] false :: .clo [] false :: .opn (clRows 3 rows rows.length) false :: cl (updTo seed key n i rows)

theorem zH_fz (seed : Int) (key : ByteArray) (n : Int) (rows : List (List Int)) (i : Nat) (X Y : Ent) : fzc 5 (X :: Y :: zH seed key n rows i) (.sl 6 0 rows.length rows.length) = some (cRows (updTo seed key n i rows)) := by
  refine fz_rows (b := 3) (updTo_len ..) (by simp [zH]) (fun j hj hj2 => ⟨?_, updTo_rowlen _ _ _ _ _ _ hj hj2⟩) 3
  show (X :: Y :: _ :: _ :: _ :: _ :: _ :: cl (updTo seed key n i rows))[3 + (5 + 2 * j)]? = _
  rw [show 3 + (5 + 2 * j) = (2 * j + 1) + 7 by omega]
  simp only [List.getElem?_cons_succ]
  rw [cl_get, List.getElem?_eq_getElem hj2]
  rfl

theorem signed_Add_arg {seed : Int} {rows : List (List Int)} {key : ByteArray} {n : Int} (hl : rows.length < 9223372036854775807) (hl2 : ∀ x ∈ rows, x.length < 9223372036854775807) (h : okB rows = false ∨ fitsB n = false) :
    TV.pu 42 [.agg (cSk seed rows), cS key, cI .i64 n] = some (.tup [(true, cSk 0 []), (false, [.v (.int .i64 1)])]) := by
  refine run42 (by simp) ?_
  have hR := signed_Right (seed := seed) hl hl2
  have hf := signed_fits n
  simp only [cSk, cRows] at hR
  by_cases hk : okB rows = true
  · rw [hk] at hR
    have hn : fitsB n = false := by
      rcases h with h | h
      · rw [h] at hk; cases hk
      · exact h
    rw [hn] at hf
    simp [Tryz.f42, cSk, cRows, hR, hf, vstore, cellsOf?, Ent.wrO, wr, vmove, isNil]
    simp [qa]
  · have hk : okB rows = false := by simpa using hk
    rw [hk] at hR
    simp [Tryz.f42, cSk, cRows, hR, vstore, cellsOf?, Ent.wrO, wr, vmove, isNil]
    simp [qa]

theorem signed_Add {seed : Int} {rows : List (List Int)} {key : ByteArray} {n : Int} (h0 : 0 ≤ seed) (h1 : seed < 18446744073709551616) (hs : key.size ≤ 140737488351232) (hok : OkR rows) (hn : fitsB n = true) :
    TV.pu 42 [.agg (cSk seed rows), cS key, cI .i64 n] = some (if ∀ j, ∀ h : j < rows.length, fitsB (newV seed key n (j : Int) rows[j]) = true then .tup [(true, cSk seed (addRows seed key n rows)), (false, [.v (.int .i64 0)])] else .tup [(true, cSk 0 []), (false, [.v (.int .i64 5)])]) := by
  refine run42 (by simp) ?_
  have l7 := hok.l7
  have hR := signed_Right (seed := seed) (rows := rows) (by omega) (fun x hx => by have := (hok.row x hx).2.1; omega)
  rw [(okB_iff rows).2 hok] at hR
  have hf := signed_fits n
  rw [hn] at hf
  have hc := signed_clone (seed := seed) (rows := rows) (H := [.opn [[.c (.v (.int .u64 seed)), .c (cRows rows)]] false, .opn [[.c (.v (.int .u64 0)), .sl 2 0 0 0]] false, .clo [] false]) hok.ne (by omega) (fun r hr => ⟨by have := (hok.row r hr).1; rintro rfl; simp at this, by have := (hok.row r hr).2.1; omega⟩)
  simp only [cSk, cRows] at hR hc
  simp [Tryz.f42, cSk, cRows, hR, hf, hc, vstore, cellsOf?, Ent.wrO, wr, vmove, isNil, clH, clRows_len]
  obtain ⟨I, hI⟩ : ∃ I : Nat → St → Prop, ∀ k s', I k s' ↔ (∃ e h i, s' = ⟨e, h⟩ ∧ h = .opn [[.c (.v (.int .u64 seed)), .sl 6 0 rows.length rows.length]] false :: .opn [[.c (.v (.int .u64 0)), .sl 2 0 0 0]] false :: zH seed key n rows i ∧
      e 1 = vS key ∧ e 2 = vI .i64 n ∧ e 3 = .one (.ptr ⟨0, 0, 0, 1⟩) ∧ e 6 = .one (.ptr ⟨1, 0, 0, 1⟩) ∧ e 24 = .one (.sl 6 0 rows.length rows.length) ∧ e 25 = vI .i64 rows.length ∧ e 26 = vI .i64 (i : Nat) ∧ i + k = rows.length ∧
      ∀ j, j < i → ∀ h : j < rows.length, fitsB (newV seed key n (j : Int) rows[j]) = true) := ⟨_, fun _ _ => Iff.rfl⟩
  refine wpL_ind I ?_ rows.length _ ((hI _ _).2 ⟨_, _, 0, rfl, by simp [zH, updTo_zero], by simp, by simp, by simp, by simp, by simp, by simp, by simp, by omega, by omega⟩)
  intro k st hst
  obtain ⟨e, h, i, rfl, rfl, e1, e2, e3, e6, e24, e25, e26, hk, hall⟩ := (hI _ _).1 hst
  have hz := zH_fz seed key n rows
  have hzl : ∀ i, (zH seed key n rows i) = .clo [] false :: .opn [[.c (.v (.int .u64 seed)), .sl 6 0 rows.length rows.length]] false :: .opn [[.c (.v (.int .u64 seed)), .sl 6 0 rows.length rows.length]] false :: .clo [] false :: .opn (clRows 3 rows rows.length) false :: cl (updTo seed key n i rows) := fun _ => rfl
  by_cases c : i < rows.length
  · have c' : (i : Int) < rows.length := by omega
    have hrw := hok.row rows[i] (List.getElem_mem c)
    have hul : i < (updTo seed key n i rows).length := by rw [updTo_len]; exact c
    have hat : (updTo seed key n i rows)[i] = rows[i] := by
      have := updTo_at seed key n i rows c
      rw [List.getElem?_eq_getElem hul] at this
      exact Option.some.inj this
    have hp := signed_place (seed := seed) (rows := updTo seed key n i rows) (key := key) (i := i) h0 h1 hs hul (by rw [updTo_len]; omega) (by rw [hat]; omega)
    rw [hat] at hp
    have hcell := hcell_range (hrow seed (2 * (i : Int))) key (rows[i].length : Int) (by omega)
    obtain ⟨q, hq⟩ : ∃ q : Nat, scell seed key (i : Int) (rows[i].length : Int) = (q : Int) := ⟨_, (Int.toNat_of_nonneg hcell.1).symm⟩
    have hql : q < rows[i].length := by
      have : (q : Int) < rows[i].length := by rw [← hq]; exact hcell.2
      omega
    have hsg := hsign_or (hrow seed (2 * (i : Int) + 1)) key
    rw [hq] at hp
    have hv := hrw.2.2.2 rows[i][q] (List.getElem_mem hql)
    have hnn := (fitsB_iff n).1 hn
    have hnew : newV seed key n (i : Int) rows[i] = rows[i][q] + ssign seed key (i : Int) * n := by simp [newV, hq, hql]
    have hupd : updRow seed key n (i : Int) rows[i] = rows[i].set q (rows[i][q] + ssign seed key (i : Int) * n) := by rw [updRow, hnew, hq]; simp
    have hsn : -1099511627776 ≤ ssign seed key (i : Int) * n ∧ ssign seed key (i : Int) * n ≤ 1099511627776 := by
      rcases hsg with h | h
      · rw [ssign, h]; omega
      · rw [ssign, h]; omega
    have w1 : IntKind.i64.wrap (ssign seed key (i : Int) * n) = ssign seed key (i : Int) * n := w64_id (by omega) (by omega)
    have w2 : IntKind.i64.wrap (rows[i][q] + ssign seed key (i : Int) * n) = rows[i][q] + ssign seed key (i : Int) * n := w64_id (by omega) (by omega)
    have w3 : IntKind.i64.wrap ((i : Int) + 1) = ((i + 1 : Nat) : Int) := by rw [w64_id (by omega) (by omega)]; omega
    have hg : ∀ X Y : Ent, (X :: Y :: zH seed key n rows i)[3 + (5 + 2 * i)]? = some (.clo (rows[i].map cInt) false) := fun X Y => by
      show (X :: Y :: _ :: _ :: _ :: _ :: _ :: cl (updTo seed key n i rows))[3 + (5 + 2 * i)]? = _
      rw [show 3 + (5 + 2 * i) = (2 * i + 1) + 7 by omega]
      simp only [List.getElem?_cons_succ]
      rw [cl_get, List.getElem?_eq_getElem hul, hat]
      rfl
    have h6 : ∀ X Y : Ent, (X :: Y :: zH seed key n rows i)[6]? = some (.opn (clRows 3 rows rows.length) false) := fun X Y => rfl
    have hra : ∀ h : i < (clRows 3 rows rows.length).length, (clRows 3 rows rows.length)[i]'h = [.sl (3 + (5 + 2 * i)) 0 rows[i].length rows[i].length] := by simp [clRows]
    have hset : ∀ X Y : Ent, (X :: Y :: zH seed key n rows i).set (3 + (5 + 2 * i)) (.clo ((updRow seed key n (i : Int) rows[i]).map cInt) false) = X :: Y :: zH seed key n rows (i + 1) := fun X Y => by
      show (X :: Y :: _ :: _ :: _ :: _ :: _ :: cl (updTo seed key n i rows)).set (3 + (5 + 2 * i)) _ = _
      rw [show 3 + (5 + 2 * i) = (2 * i + 1) + 7 by omega]
      simp only [List.set_cons_succ]
      rw [cl_set, updTo_set _ _ _ _ _ c]
      rfl
    have hwr : Ent.wrC (rows[i].map cInt) q 0 [.v (.int .i64 (rows[i][q] + ssign seed key (i : Int) * n))] = (updRow seed key n (i : Int) rows[i]).map cInt := by
      rw [hupd]
      apply List.ext_getElem
      · simp [Ent.wrC]
      · intro j h1 h2
        simp only [Ent.wrC, List.getElem_modify, List.getElem_map, List.getElem_set]
        by_cases hj : q = j
        · subst hj; simp [wr, cInt]
        · rw [if_neg hj, if_neg hj]
    have hul1 : i < (updTo seed key n (i + 1) rows).length := by rw [updTo_len]; exact c
    have hg1 : ∀ X Y : Ent, (X :: Y :: zH seed key n rows (i + 1))[3 + (5 + 2 * i)]? = some (.clo ((updRow seed key n (i : Int) rows[i]).map cInt) false) := fun X Y => by
      show (X :: Y :: _ :: _ :: _ :: _ :: _ :: cl (updTo seed key n (i + 1) rows))[3 + (5 + 2 * i)]? = _
      rw [show 3 + (5 + 2 * i) = (2 * i + 1) + 7 by omega]
      simp only [List.getElem?_cons_succ]
      rw [cl_get, List.getElem?_eq_getElem hul1]
      simp [updTo]
    have hlu : (updRow seed key n (i : Int) rows[i]).length = rows[i].length := by simp [updRow]
    have hgq : ∀ h : q < (updRow seed key n (i : Int) rows[i]).length, (updRow seed key n (i : Int) rows[i])[q]'h = rows[i][q] + ssign seed key (i : Int) * n := by simp [hupd]
    have hf2 := signed_fits (rows[i][q] + ssign seed key (i : Int) * n)
    simp only [cSk] at hp
    by_cases hfit : fitsB (rows[i][q] + ssign seed key (i : Int) * n) = true
    · rw [hfit] at hf2
      simp [-fzc, fz_v, e1, e2, e3, e6, e24, e25, e26, c, c', vmove, isNil, h6, hra, clRows_len, hz, hp, hql, hg, vstore, cellsOf?, hwr, hset, hg1, hlu, hgq, hasRef, cInt, w1, w2, hf2]
      refine ⟨k - 1, by omega, (hI _ _).2 ⟨_, _, i + 1, rfl, rfl, by simp [e1], by simp [e2], by simp [e3], by simp [e6], by simp [e24], by simp [e25], by simp [w3], by omega, fun j hj h => ?_⟩⟩
      by_cases hji : j = i
      · subst hji
        rw [hnew]; exact hfit
      · exact hall j (by omega) h
    · rw [if_neg fun hx => hfit (by have := hx i c; rw [hnew] at this; exact this)]
      have hfit : fitsB (rows[i][q] + ssign seed key (i : Int) * n) = false := by simpa using hfit
      rw [hfit] at hf2
      simp [-fzc, fz_v, e1, e2, e3, e6, e24, e25, e26, c, c', vmove, isNil, h6, hra, clRows_len, hz, hp, hql, hg, vstore, cellsOf?, hwr, hset, hg1, hlu, hgq, hasRef, cInt, w1, w2, hf2, Ent.wrO, wr]
      simp [fzc, qa]
  · have c' : ¬ (i : Int) < rows.length := by omega
    have hi : i = rows.length := by omega
    subst hi
    rw [if_pos fun j h => hall j h h]
    simp [-fzc, e3, e6, e24, e25, e26, c', vstore, cellsOf?, Ent.wrO, wr, vmove, isNil]
    simp [-fzc, fz_v, qa, hz, addRows]
    rfl
end Go.Proofs.YtngpmpmhpggpgaaGreatDoorF
end

section
/- A sketch of noughts. -/
set_option maxRecDepth 8192
set_option maxHeartbeats 2000000
namespace Go.Proofs.YtngpmpmhpggpgaaGreatDoorF
open Go Go.Proofs.Vm

def newOk (rows cols : Int) : Prop := 1 ≤ rows ∧ rows ≤ 7 ∧ rows % 2 = 1 ∧ 1 ≤ cols ∧ cols ≤ 256
def zRow (cols : Nat) : List (List CV) := List.replicate cols (cInt 0)
theorem signed_New {seed rows cols : Int} (h : newOk rows cols) : TV.pu 35 [cI .u64 seed, cI .i64 rows, cI .i64 cols] = some (.tup [(true, cSk seed (List.replicate rows.toNat (List.replicate cols.toNat 0))), (false, [.v (.int .i64 0)])]) := by
  refine run35 (by simp) ?_
  obtain ⟨a1, a2, a3, a4, a5⟩ := h
  obtain ⟨n, rfl⟩ := Int.eq_ofNat_of_zero_le (show 0 ≤ rows by omega)
  obtain ⟨m, rfl⟩ := Int.eq_ofNat_of_zero_le (show 0 ≤ cols by omega)
  have g1 : ¬ (n : Int) < 1 := by omega
  have g2 : ¬ 7 < (n : Int) := by omega
  have g3 : ((n : Int).tmod 2 == 0) = false := by rw [Int.tmod_eq_emod_of_nonneg (by omega), a3]; rfl
  have g4 : ¬ (m : Int) < 1 := by omega
  have g5 : ¬ 256 < (m : Int) := by omega
  simp [Tryz.f35, g1, g2, g3, g4, g5, bin_rem, vstore, cellsOf?, Ent.wrO, wr, vmove, isNil]
  obtain ⟨I, hI⟩ : ∃ I : Nat → St → Prop, ∀ k s', I k s' ↔ (∃ e h i L, s' = ⟨e, h⟩ ∧ h = .opn [[.c (.v (.int .u64 0)), .sl 1 0 0 0]] false :: .clo [] false :: .clo (List.replicate i [.arr (zRow m)]) false :: .opn [[.c (.v (.int .u64 seed)), .sl 2 0 i i]] false :: L ∧
      e 0 = vI .u64 seed ∧ e 2 = vI .i64 (m : Nat) ∧ e 6 = .one (.ptr ⟨0, 0, 0, 1⟩) ∧ e 8 = .one (.ptr ⟨3, 0, 0, 1⟩) ∧ e 31 = vI .i64 (n : Nat) ∧ e 32 = vI .i64 (i : Nat) ∧ i + k = n) := ⟨_, fun _ _ => Iff.rfl⟩
  refine wpL_ind I ?_ n _ ((hI _ _).2 ⟨_, _, 0, _, rfl, rfl, by simp, by simp, by simp, by simp, by simp, by simp, by omega⟩)
  intro k st hst
  obtain ⟨e, h, i, L, rfl, rfl, e0, e2, e6, e8, e31, e32, hk⟩ := (hI _ _).1 hst
  by_cases c : i < n
  · have c' : (i : Int) < n := by omega
    have w3 : IntKind.i64.wrap ((i : Int) + 1) = ((i + 1 : Nat) : Int) := by rw [w64_id (by omega) (by omega)]; omega
    have ha : ∀ (A B C D : Ent), vappend Tryz.prog (A :: B :: .clo (List.replicate i [.arr (zRow m)]) false :: D :: (L ++ [C, .clo [[.arr (zRow m)]] false])) 38 38 (.one (.sl 2 0 i i)) (.one (.sl (L.length + 1 + 1 + 1 + 1 + 1) 0 1 1)) =
        some (.one (.sl 2 0 (i + 1) (i + 1)), A :: B :: .clo (List.replicate (i + 1) [.arr (zRow m)]) false :: D :: (L ++ [C, .clo [[.arr (zRow m)]] false])) := by
      intro A B C D
      have := vappend_eq (P := Tryz.prog) (H := A :: B :: .clo (List.replicate i [.arr (zRow m)]) false :: D :: (L ++ [C, .clo [[.arr (zRow m)]] false])) (t := 38) (tx := 38) (id := 2) (n := i) (l := List.replicate i [.arr (zRow m)]) (xs := [[.arr (zRow m)]]) (x := .one (.sl (L.length + 1 + 1 + 1 + 1 + 1) 0 1 1)) es38 es38 el53
        (by simp) (by simp [elemsOf]) (by simp) (by intro x hx; rw [List.eq_of_mem_replicate hx]; rfl) (by simp) (by simp; omega) (by simp; omega)
      simp only [List.length_cons, List.length_nil, ← List.replicate_succ'] at this
      exact this
    have hz : List.replicate m [CV.v (.int .i64 0)] = zRow m := rfl
    have hzl : (zRow m).length = m := by simp [zRow]
    have hzt : List.take m (zRow m) = zRow m := List.take_of_length_le (by omega)
    have b1 : 8 * m ≤ 140737488355328 := by omega
    have b2 : (m : Int) ≤ 4611686018427387904 := by omega
    simp [e2, e6, e8, e31, e32, c', w3, b1, b2, hzl, hzt, vstore, Ent.wrO, wr, vmakeSlice_eq es53 el3, vbuildSlice_eq es38 el53, small, vmove, isNil, cellsOf?, fzParts, setAll, rchParts, rch, frzAll, Ent.frz, hz, ha]
    exact ⟨k - 1, by omega, (hI _ _).2 ⟨_, _, i + 1, _, rfl, rfl, by simp [e0], by simp [e2], by simp [e6], by simp [e8], by simp [e31], by simp, by omega⟩⟩
  · have c' : ¬ (i : Int) < n := by omega
    have hi : i = n := by omega
    subst hi
    simp [e2, e6, e8, e31, e32, c', vstore, cellsOf?, Ent.wrO, wr, vmove, isNil]
    simp [qa, cSk, cRows, cRow, zRow]

theorem signed_New_arg {seed rows cols : Int} (h : ¬ newOk rows cols) : TV.pu 35 [cI .u64 seed, cI .i64 rows, cI .i64 cols] = some (.tup [(true, cSk 0 []), (false, [.v (.int .i64 1)])]) := by
  refine run35 (by simp) ?_
  by_cases g1 : rows < 1
  · simp [Tryz.f35, g1, vstore, cellsOf?, Ent.wrO, wr, vmove, isNil]
    simp [qa, cSk, cRows]
  by_cases g2 : 7 < rows
  · simp [Tryz.f35, g1, g2, vstore, cellsOf?, Ent.wrO, wr, vmove, isNil]
    simp [qa, cSk, cRows]
  by_cases g3 : (rows.tmod 2 == 0) = true
  · simp [Tryz.f35, g1, g2, g3, bin_rem, vstore, cellsOf?, Ent.wrO, wr, vmove, isNil]
    simp [qa, cSk, cRows]
  have g3 : (rows.tmod 2 == 0) = false := by simpa using g3
  by_cases g4 : cols < 1
  · simp [Tryz.f35, g1, g2, g3, g4, bin_rem, vstore, cellsOf?, Ent.wrO, wr, vmove, isNil]
    simp [qa, cSk, cRows]
  by_cases g5 : 256 < cols
  · simp [Tryz.f35, g1, g2, g3, g4, g5, bin_rem, vstore, cellsOf?, Ent.wrO, wr, vmove, isNil]
    simp [qa, cSk, cRows]
  · refine absurd ⟨by omega, by omega, ?_, by omega, by omega⟩ h
    rw [Int.tmod_eq_emod_of_nonneg (by omega)] at g3
    have : rows % 2 ≠ 0 := by simpa using g3
    omega
end Go.Proofs.YtngpmpmhpggpgaaGreatDoorF
end

section
/- The middle of what is told. -/
set_option maxRecDepth 8192
set_option maxHeartbeats 2000000
namespace Go.Proofs.YtngpmpmhpggpgaaGreatDoorF
open Go Go.Proofs.Vm

def getL (seed : Int) (key : ByteArray) (rows : List (List Int)) : List Int := rows.mapIdx fun i r => ssign seed key (i : Int) * r.getD (scell seed key (i : Int) r.length).toNat 0
def srt (l : List Int) : List Int := l.mergeSort fun x y => decide (x ≤ y)
def med (l : List Int) : Int := (srt l).getD (l.length / 2) 0

theorem sort_run {H : Hp} {id : Nat} {l : List Int} (h : H[id]? = some (.clo (l.map cInt) false)) (hlt : l.length < 4611686018427387904) : TV.S 71 [.one (.sl id 0 l.length l.length)] H = some (und, H.set id (.clo ((srt l).map cInt) false)) := by
  refine TT_baseS ?_
  simp [cfg, orTab, tzTab, sortTab, sortRun, h, mapO_intOf, srt, hlt]

theorem getL_len (seed : Int) (key : ByteArray) (rows : List (List Int)) : (getL seed key rows).length = rows.length := by simp [getL]

theorem signed_Get {seed : Int} {rows : List (List Int)} {key : ByteArray} (h0 : 0 ≤ seed) (h1 : seed < 18446744073709551616) (hs : key.size ≤ 140737488351232) (hok : OkR rows) :
    TV.pu 45 [.agg (cSk seed rows), cS key] = some (cI .i64 (med (getL seed key rows))) := by
  refine run45 (by simp) ?_
  have l7 := hok.l7
  have hR := signed_Right (seed := seed) (rows := rows) (by omega) (fun x hx => by have := (hok.row x hx).2.1; omega)
  rw [(okB_iff rows).2 hok] at hR
  simp only [cSk, cRows] at hR
  simp [Tryz.f45, cSk, cRows, hR, vmove, isNil]
  obtain ⟨I, hI⟩ : ∃ I : Nat → St → Prop, ∀ k s', I k s' ↔ (∃ e h i L, s' = ⟨e, h⟩ ∧ h = .opn [[.c (.v (.int .u64 seed)), .c (cRows rows)]] false :: .clo (((getL seed key rows).take i).map cInt) false :: L ∧
      e 1 = vS key ∧ e 2 = .one (.ptr ⟨0, 0, 0, 1⟩) ∧ e 5 = .one (.sl 1 0 i i) ∧ e 14 = .one (.c (cRows rows)) ∧ e 15 = vI .i64 rows.length ∧ e 16 = vI .i64 (i : Nat) ∧ i + k = rows.length) := ⟨_, fun _ _ => Iff.rfl⟩
  refine wpL_ind I ?_ rows.length _ ((hI _ _).2 ⟨_, _, 0, _, rfl, rfl, by simp, by simp, by simp, by simp [cRows], by simp, by simp, by omega⟩)
  intro k st hst
  obtain ⟨e, h, i, L, rfl, rfl, e1, e2, e5, e14, e15, e16, hk⟩ := (hI _ _).1 hst
  by_cases c : i < rows.length
  · have c' : (i : Int) < rows.length := by omega
    have hrw := hok.row rows[i] (List.getElem_mem c)
    have hp := signed_place (seed := seed) (rows := rows) (key := key) (i := i) h0 h1 hs c (by omega) (by omega)
    have hcell := hcell_range (hrow seed (2 * (i : Int))) key (rows[i].length : Int) (by omega)
    obtain ⟨q, hq⟩ : ∃ q : Nat, scell seed key (i : Int) (rows[i].length : Int) = (q : Int) := ⟨_, (Int.toNat_of_nonneg hcell.1).symm⟩
    have hql : q < rows[i].length := by
      have : (q : Int) < rows[i].length := by rw [← hq]; exact hcell.2
      omega
    have hsg := hsign_or (hrow seed (2 * (i : Int) + 1)) key
    rw [hq] at hp
    have hv := hrw.2.2.2 rows[i][q] (List.getElem_mem hql)
    have hsn : -1099511627776 ≤ ssign seed key (i : Int) * rows[i][q] ∧ ssign seed key (i : Int) * rows[i][q] ≤ 1099511627776 := by
      rcases hsg with h | h
      · rw [ssign, h]; omega
      · rw [ssign, h]; omega
    have w1 : IntKind.i64.wrap (ssign seed key (i : Int) * rows[i][q]) = ssign seed key (i : Int) * rows[i][q] := w64_id (by omega) (by omega)
    have w3 : IntKind.i64.wrap ((i : Int) + 1) = ((i + 1 : Nat) : Int) := by rw [w64_id (by omega) (by omega)]; omega
    have hgl : (getL seed key rows).take (i + 1) = (getL seed key rows).take i ++ [ssign seed key (i : Int) * rows[i][q]] := by
      rw [List.take_add_one]
      simp [getL, c, hq, hql]
    have ha : vappend Tryz.prog (.opn [[.c (.v (.int .u64 seed)), .c (cRows rows)]] false :: .clo (((getL seed key rows).take i).map cInt) false :: (L ++ [.clo [cInt (ssign seed key (i : Int) * rows[i][q])] false])) 53 53 (.one (.sl 1 0 i i)) (.one (.sl (L.length + 1 + 1) 0 1 1)) =
        some (.one (.sl 1 0 (i + 1) (i + 1)), .opn [[.c (.v (.int .u64 seed)), .c (cRows rows)]] false :: .clo (((getL seed key rows).take (i + 1)).map cInt) false :: (L ++ [.clo [cInt (ssign seed key (i : Int) * rows[i][q])] false])) := by
      have := vappend_eq (P := Tryz.prog) (H := .opn [[.c (.v (.int .u64 seed)), .c (cRows rows)]] false :: .clo (((getL seed key rows).take i).map cInt) false :: (L ++ [.clo [cInt (ssign seed key (i : Int) * rows[i][q])] false])) (t := 53) (tx := 53) (id := 1) (n := i) (l := ((getL seed key rows).take i).map cInt) (xs := [cInt (ssign seed key (i : Int) * rows[i][q])]) (x := .one (.sl (L.length + 1 + 1) 0 1 1)) es53 es53 el3
        (by simp) (by simp [elemsOf]) (by simp [getL_len]; omega) (by intro x hx; obtain ⟨y, _, rfl⟩ := List.mem_map.1 hx; rfl) (by simp) (by simp; omega) (by simp; omega)
      rw [this, hgl]
      simp
    simp only [cSk, cRows, cRow] at hp
    simp only [cRows, cRow, cInt, List.map_take] at ha
    simp [e1, e2, e5, e14, e15, e16, c, c', cRows, cRow, w1, w3, hp, hql, cInt, vmove, isNil, vbuildSlice_eq es53 el3, cellsOf?, fzParts, setAll, rchParts, rch, ha]
    exact ⟨k - 1, by omega, (hI _ _).2 ⟨_, _, i + 1, _, rfl, by simp [cRows, cRow, List.map_take]; rfl, by simp [e1], by simp [e2], by simp, by simp [e14, cRows, cRow], by simp [e15], by simp, by omega⟩⟩
  · have c' : ¬ (i : Int) < rows.length := by omega
    have hi : i = rows.length := by omega
    subst hi
    have ht : (getL seed key rows).take rows.length = getL seed key rows := List.take_of_length_le (by rw [getL_len]; omega)
    have hso := sort_run (H := .opn [[.c (.v (.int .u64 seed)), .c (cRows rows)]] false :: .clo ((getL seed key rows).map cInt) false :: L) (id := 1) (l := getL seed key rows) (by simp) (by rw [getL_len]; omega)
    rw [getL_len] at hso
    simp only [cRows] at hso
    obtain ⟨p, hpe⟩ : ∃ p, p = rows.length / 2 := ⟨_, rfl⟩
    have wq : IntKind.i64.wrap ((rows.length : Int) / 2) = (p : Int) := by rw [w64_id (by omega) (by omega)]; omega
    have hsl : (srt (getL seed key rows)).length = rows.length := by simp [srt, getL_len]
    have hlt : p < rows.length := by have := hok.odd; omega
    simp [e5, e14, e15, e16, c, c', cRows, cInt, ht, hso, wq, hsl, hlt, bin_quo, vmove, isNil]
    simp [med, getL_len, ← hpe, hsl, hlt]
end Go.Proofs.YtngpmpmhpggpgaaGreatDoorF
end

section
/- The document's sketches: right, equal. -/
set_option maxRecDepth 8192
set_option maxHeartbeats 2000000
namespace Go.Proofs.YtngpmpmhpggpgaaGreatDoorF
open Go Go.Proofs.Vm

theorem ref12_Fits (n : Int) : TV.pu 63 [cI .i64 n] = some (cB (fitsB n)) := by
  refine run63 (by simp) ?_
  by_cases h : -1099511627776 ≤ n <;> simp [Tryz.f63, h, fitsB]

theorem ref11_SameRows {a b : List (List Int)} (ha : a.length < 9223372036854775807) (hr : ∀ x ∈ a, x.length < 9223372036854775807) : TV.pu 84 [.one (cRows a), .one (cRows b)] = some (cB (decide (a = b))) := by
  refine run84 (by simp) ?_
  by_cases hl : a.length = b.length
  · have hl' : ((a.length : Int) != (b.length : Int)) = false := by simp [hl]
    simp [Tryz.f84, cRows, hl']
    obtain ⟨I, hI⟩ : ∃ I : Nat → St → Prop, ∀ k s', I k s' ↔ (∃ e i, s' = ⟨e, []⟩ ∧ e 0 = .one (.c (cRows a)) ∧ e 1 = .one (.c (cRows b)) ∧ e 5 = vI .i64 (i : Nat) ∧ i + k = a.length ∧ ∀ j, j < i → a[j]? = b[j]?) := ⟨_, fun _ _ => Iff.rfl⟩
    refine wpL_ind I ?_ a.length _ ((hI _ _).2 ⟨_, 0, rfl, by simp [cRows], by simp [cRows], by simp, by omega, by omega⟩)
    intro k st hst
    obtain ⟨e, i, rfl, e0, e1, e5, hk, hall⟩ := (hI _ _).1 hst
    by_cases c : i < a.length
    · have c' : (i : Int) < a.length := by omega
      have cb : i < b.length := by omega
      have hai := hr a[i] (List.getElem_mem c)
      have w3 : IntKind.i64.wrap ((i : Int) + 1) = ((i + 1 : Nat) : Int) := by rw [w64_id (by omega) (by omega)]; omega
      by_cases hlr : a[i].length = b[i].length
      · have hlr' : ((a[i].length : Int) != (b[i].length : Int)) = false := by simp [hlr]
        simp [e0, e1, e5, c, c', cb, cRows, cRow, hlr']
        obtain ⟨J, hJ⟩ : ∃ J : Nat → St → Prop, ∀ k s', J k s' ↔ (∃ e q, s' = ⟨e, []⟩ ∧ e 0 = .one (.c (cRows a)) ∧ e 1 = .one (.c (cRows b)) ∧ e 5 = vI .i64 (i : Nat) ∧ e 6 = vI .i64 (q : Nat) ∧ q + k = a[i].length ∧ ∀ j, j < q → a[i][j]? = b[i][j]?) := ⟨_, fun _ _ => Iff.rfl⟩
        refine wpL_ind J ?_ a[i].length _ ((hJ _ _).2 ⟨_, 0, rfl, by simp [e0, cRows], by simp [e1, cRows], by simp [e5], by simp, by omega, by omega⟩)
        intro k2 st hst
        obtain ⟨e, q, rfl, f0, f1, f5, f6, hk2, hall2⟩ := (hJ _ _).1 hst
        by_cases d : q < a[i].length
        · have d' : (q : Int) < a[i].length := by omega
          have db : q < b[i].length := by omega
          have w4 : IntKind.i64.wrap ((q : Int) + 1) = ((q + 1 : Nat) : Int) := by rw [w64_id (by omega) (by omega)]; omega
          by_cases hv : a[i][q] = b[i][q]
          · have hv' : (a[i][q] != b[i][q]) = false := by simp [hv]
            simp [f0, f1, f5, f6, c, cb, d, d', db, cRows, cRow, cInt, hv', w4]
            refine ⟨k2 - 1, by omega, (hJ _ _).2 ⟨_, q + 1, rfl, by simp [f0, cRows], by simp [f1, cRows], by simp [f5], by simp, by omega, fun j hj => ?_⟩⟩
            by_cases hjq : j = q
            · subst hjq
              rw [List.getElem?_eq_getElem d, List.getElem?_eq_getElem db, hv]
            · exact hall2 j (by omega)
          · have hv' : (a[i][q] != b[i][q]) = true := by simp [hv]
            have hne : ¬ a = b := by rintro rfl; exact hv rfl
            simp [f0, f1, f5, f6, c, cb, d, d', db, cRows, cRow, cInt, hv', hne]
        · have d' : ¬ (q : Int) < a[i].length := by omega
          have heq : a[i] = b[i] := by
            apply List.ext_getElem?
            intro j
            by_cases hj : j < q
            · exact hall2 j hj
            · rw [List.getElem?_eq_none (by omega), List.getElem?_eq_none (by omega)]
          simp [f0, f5, f6, c, d', cRows, cRow, w3]
          refine ⟨k - 1, by omega, (hI _ _).2 ⟨_, i + 1, rfl, by simp [f0, cRows], by simp [f1, cRows], by simp, by omega, fun j hj => ?_⟩⟩
          by_cases hji : j = i
          · subst hji
            rw [List.getElem?_eq_getElem c, List.getElem?_eq_getElem cb, heq]
          · exact hall j (by omega)
      · have hlr' : ((a[i].length : Int) != (b[i].length : Int)) = true := by simp; omega
        have hne : ¬ a = b := by rintro rfl; exact hlr rfl
        simp [e0, e1, e5, c, c', cb, cRows, cRow, hlr', hne]
    · have c' : ¬ (i : Int) < a.length := by omega
      have heq : a = b := by
        apply List.ext_getElem?
        intro j
        by_cases hj : j < i
        · exact hall j hj
        · rw [List.getElem?_eq_none (by omega), List.getElem?_eq_none (by omega)]
      subst heq
      simp [e0, e5, c', cRows]
  · have hl' : ((a.length : Int) != (b.length : Int)) = true := by simp; omega
    have hne : ¬ a = b := by rintro rfl; exact hl rfl
    simp [Tryz.f84, cRows, hl', hne]

theorem ref12_Equal {s t : Int} {a b : List (List Int)} (ha : a.length < 9223372036854775807) (hr : ∀ x ∈ a, x.length < 9223372036854775807) : TV.pu 57 [.agg (cSk s a), .agg (cSk t b)] = some (cB (decide (s = t ∧ a = b))) := by
  refine run57 (by simp) ?_
  have h := ref11_SameRows (b := b) ha hr
  simp only [cRows] at h
  by_cases hs : s = t
  · have hs' : (s == t) = true := by simp [hs]
    simp [Tryz.f57, cSk, cRows, hs', h]
    exact fun _ => hs
  · have hs' : (s == t) = false := by simp [hs]
    simp [Tryz.f57, cSk, cRows, hs', hs]

/-- What the document takes for right is what the program takes for right. -/
theorem ref12_Right {seed : Int} {rows : List (List Int)} (hl : rows.length < 9223372036854775807) (hl2 : ∀ x ∈ rows, x.length < 9223372036854775807) : TV.pu 37 [.agg (cSk seed rows)] = some (cB (okB rows)) := by
  refine run37 (by simp) ?_
  by_cases hn : rows.length = 1 ∨ rows.length = 3 ∨ rows.length = 5 ∨ rows.length = 7
  · have h7 : rows.length ≤ 7 := by omega
    have hodd : rows.length % 2 = 1 := by omega
    have key : okB rows = !rows.any (rowB rows) := by simp [okB, h7, hodd]
    rw [key]
    have h0 : 0 < rows.length := by omega
    have hhd : rows.headD [] = rows[0] := by cases rows with | nil => simp at h0 | cons h t => rfl
    have bad : ∀ i, ∀ h : i < rows.length, rowB rows rows[i] = true → (!rows.any (rowB rows)) = false := fun i h hb => by
      rw [List.any_eq_true.2 ⟨_, List.getElem_mem h, hb⟩]; rfl
    have good : (∀ i, ∀ h : i < rows.length, rowB rows rows[i] = false) → (!rows.any (rowB rows)) = true := fun hg => by
      have : rows.any (rowB rows) = false := by
        rw [List.any_eq_false]
        intro x hx
        obtain ⟨i, hi, rfl⟩ := List.getElem_of_mem hx
        rw [hg i hi]; simp
      rw [this]; rfl
    obtain ⟨R, hR⟩ : ∃ R, R = (!rows.any (rowB rows)) := ⟨_, rfl⟩
    rw [← hR] at bad good ⊢
    obtain ⟨N, hN⟩ : ∃ N, N = rows.length := ⟨_, rfl⟩
    rw [← hN] at hn
    obtain ⟨I, hI⟩ : ∃ I : Nat → St → Prop, ∀ k s', I k s' ↔ (∃ e i, s' = ⟨e, [.opn [[.c (.v (.int .u64 seed)), .c (cRows rows)]] false]⟩ ∧ e 1 = .one (.ptr ⟨0, 0, 0, 1⟩) ∧ e 3 = vI .i64 (N : Nat) ∧ e 4 = vI .i64 (i : Nat) ∧ i + k = N ∧ ∀ j, j < i → ∀ h : j < rows.length, rowB rows rows[j] = false) := ⟨_, fun _ _ => Iff.rfl⟩
    have hNi : (rows.length : Int) = (N : Int) := by omega
    rcases hn with hn | hn | hn | hn
    all_goals
      simp [Tryz.f37, cSk, cRows, hNi, hn]
      refine wpL_ind I ?_ N _ ((hI _ _).2 ⟨_, 0, rfl, by simp, by simp [hn], by simp, by omega, by omega⟩)
      intro k st hst
      obtain ⟨e, i, rfl, e1, e3, e4, hk, hall⟩ := (hI _ _).1 hst
      by_cases c : i < rows.length
      · have c' : (i : Int) < (N : Int) := by omega
        have hai := hl2 rows[i] (List.getElem_mem c)
        have hB : rowB rows rows[i] = (decide (rows[i].length < 1) || decide (256 < rows[i].length) || decide (rows[i].length ≠ rows[0].length) || rows[i].any (fun n => !fitsB n)) := by unfold rowB; rw [hhd]
        have w3 : IntKind.i64.wrap ((i : Int) + 1) = ((i + 1 : Nat) : Int) := by rw [w64_id (by omega) (by omega)]; omega
        by_cases z1 : ((rows[i].length : Int) == 0) = true
        · have hb : R = false := bad i c (by rw [hB, decide_eq_true (show rows[i].length < 1 by simp at z1; simp [z1])]; simp)
          simp [e1, e3, e4, c, c', cRows, cRow, z1, hb]
        have z1' : ((rows[i].length : Int) == 0) = false := by simpa using z1
        by_cases z2 : 256 < (rows[i].length : Int)
        · have hb : R = false := bad i c (by rw [hB, decide_eq_true (show 256 < rows[i].length by omega)]; simp)
          simp [e1, e3, e4, c, c', cRows, cRow, z1', z2, hb]
        by_cases z3 : ((rows[i].length : Int) != (rows[0].length : Int)) = true
        · have hb : R = false := bad i c (by rw [hB, decide_eq_true (show rows[i].length ≠ rows[0].length by simp at z3; omega)]; simp)
          simp [e1, e3, e4, c, c', h0, cRows, cRow, z1', z2, z3, hb]
        have z3' : ((rows[i].length : Int) != (rows[0].length : Int)) = false := by simpa using z3
        simp [e1, e3, e4, c, c', h0, cRows, cRow, z1', z2, z3']
        obtain ⟨J, hJ⟩ : ∃ J : Nat → St → Prop, ∀ k s', J k s' ↔ (∃ e q, s' = ⟨e, [.opn [[.c (.v (.int .u64 seed)), .c (cRows rows)]] false]⟩ ∧ e 1 = .one (.ptr ⟨0, 0, 0, 1⟩) ∧ e 3 = vI .i64 (N : Nat) ∧ e 4 = vI .i64 (i : Nat) ∧ e 5 = vI .i64 rows[i].length ∧ e 6 = vI .i64 (q : Nat) ∧ q + k = rows[i].length ∧ ∀ j, j < q → ∀ h : j < rows[i].length, fitsB rows[i][j] = true) := ⟨_, fun _ _ => Iff.rfl⟩
        refine wpL_ind J ?_ rows[i].length _ ((hJ _ _).2 ⟨_, 0, by simp only [cRows, cRow]; rfl, by simp [e1], by simp [e3], by simp [e4], by simp, by simp, by omega, by omega⟩)
        intro k2 st hst
        obtain ⟨e, q, rfl, f1, f3, f4, f5, f6, hk2, hall2⟩ := (hJ _ _).1 hst
        by_cases d : q < rows[i].length
        · have d' : (q : Int) < rows[i].length := by omega
          have w4 : IntKind.i64.wrap ((q : Int) + 1) = ((q + 1 : Nat) : Int) := by rw [w64_id (by omega) (by omega)]; omega
          have hf := ref12_Fits rows[i][q]
          by_cases hv : fitsB rows[i][q] = true
          · rw [hv] at hf
            simp [f1, f4, f5, f6, c, d, d', cRows, cRow, cInt, hf, w4]
            refine ⟨k2 - 1, by omega, (hJ _ _).2 ⟨_, q + 1, by simp only [cRows, cRow]; rfl, by simp [f1], by simp [f3], by simp [f4], by simp [f5], by simp, by omega, fun j hj h => ?_⟩⟩
            by_cases hjq : j = q
            · subst hjq; exact hv
            · exact hall2 j (by omega) h
          · have hv : fitsB rows[i][q] = false := by simpa using hv
            have hb : R = false := bad i c (by
              rw [hB]
              have : rows[i].any (fun n => !fitsB n) = true := List.any_eq_true.2 ⟨rows[i][q], List.getElem_mem d, by simp [hv]⟩
              rw [this]; simp)
            rw [hv] at hf
            simp [f1, f4, f5, f6, c, d, d', cRows, cRow, cInt, hf, hb]
        · have d' : ¬ (q : Int) < rows[i].length := by omega
          have hrowB : rowB rows rows[i] = false := by
            rw [hB]
            have t1 : ¬ rows[i].length < 1 := by simp at z1'; intro h; exact z1' (by cases hx : rows[i] with | nil => rfl | cons a l => rw [hx] at h; simp at h)
            have t2 : ¬ 256 < rows[i].length := by omega
            have t3 : ¬ rows[i].length ≠ rows[0].length := by simp at z3'; omega
            have t4 : rows[i].any (fun n => !fitsB n) = false := by
              rw [List.any_eq_false]
              intro x hx
              obtain ⟨j, hj, rfl⟩ := List.getElem_of_mem hx
              rw [hall2 j (by omega) hj]; simp
            rw [t4, decide_eq_false t1, decide_eq_false t2, decide_eq_false t3]; rfl
          simp [f1, f4, f5, f6, d', w3]
          refine ⟨k - 1, by omega, (hI _ _).2 ⟨_, i + 1, by rfl, by simp [f1], by simp [f3], by simp, by omega, fun j hj h => ?_⟩⟩
          by_cases hji : j = i
          · subst hji; exact hrowB
          · exact hall j (by omega) h
      · have c' : ¬ (i : Int) < (N : Int) := by omega
        have hg : R = true := good fun j h => hall j (by omega) h
        simp [e1, e3, e4, c', hg]
  · have g1 : ((rows.length : Int) != 1) = true := by simp; omega
    have g2 : ((rows.length : Int) != 3) = true := by simp; omega
    have g3 : ((rows.length : Int) != 5) = true := by simp; omega
    have g4 : ((rows.length : Int) != 7) = true := by simp; omega
    have hb : okB rows = false := by
      by_cases h7 : rows.length ≤ 7
      · have : ¬ rows.length % 2 = 1 := by omega
        simp [okB, this]
      · simp [okB, h7]
    simp [Tryz.f37, cSk, cRows, g1, g2, g3, g4, hb]
end Go.Proofs.YtngpmpmhpggpgaaGreatDoorF
end

section
/- Rows to which is added: plain facts. -/
set_option maxRecDepth 8192
set_option maxHeartbeats 2000000
namespace Go.Proofs.YtngpmpmhpggpgaaGreatDoorF
open Go Go.Proofs.Vm

/-- Rows of numbers within a bound. -/
def Within (B : Int) (rows : List (List Int)) : Prop := ∀ r ∈ rows, ∀ v ∈ r, -B ≤ v ∧ v ≤ B
theorem ssign_or (seed : Int) (key : ByteArray) (i : Int) : ssign seed key i = 1 ∨ ssign seed key i = -1 := hsign_or _ _
theorem newV_within {B N : Int} {rows : List (List Int)} (hw : Within B rows) (hok : OkR rows) {seed : Int} {key : ByteArray} {n : Int} (hn : -N ≤ n ∧ n ≤ N) (i : Nat) (h : i < rows.length) :
    -(B + N) ≤ newV seed key n (i : Int) rows[i] ∧ newV seed key n (i : Int) rows[i] ≤ B + N := by
  have hcell := hcell_range (hrow seed (2 * (i : Int))) key (rows[i].length : Int) (by have := (hok.row _ (List.getElem_mem h)).1; omega)
  have hql : (scell seed key (i : Int) rows[i].length).toNat < rows[i].length := by
    have h1 : scell seed key (i : Int) rows[i].length < rows[i].length := hcell.2
    have h2 : 0 ≤ scell seed key (i : Int) rows[i].length := hcell.1
    omega
  have hv := hw _ (List.getElem_mem h) _ (List.getElem_mem hql)
  unfold newV
  rw [List.getD_eq_getElem?_getD, List.getElem?_eq_getElem hql]
  simp only [Option.getD_some]
  rcases ssign_or seed key (i : Int) with h | h <;> rw [h] <;> omega

theorem addRows_at {seed : Int} {key : ByteArray} {n : Int} {rows : List (List Int)} (i : Nat) (h : i < rows.length) (h2 : i < (addRows seed key n rows).length) : (addRows seed key n rows)[i] = updRow seed key n (i : Int) rows[i] := by
  simp [addRows, updTo, h]
theorem addRows_len {seed : Int} {key : ByteArray} {n : Int} {rows : List (List Int)} : (addRows seed key n rows).length = rows.length := updTo_len ..
theorem addRows_within {B N : Int} {rows : List (List Int)} (hw : Within B rows) (hok : OkR rows) {seed : Int} {key : ByteArray} {n : Int} (hn : -N ≤ n ∧ n ≤ N) : Within (B + N) (addRows seed key n rows) := by
  intro r hr v hv
  obtain ⟨i, hi, rfl⟩ := List.getElem_of_mem hr
  have hi' : i < rows.length := by rw [addRows_len] at hi; exact hi
  rw [addRows_at i hi' hi] at hv
  unfold updRow at hv
  rcases List.mem_or_eq_of_mem_set hv with h | h
  · have := hw _ (List.getElem_mem hi') _ h
    omega
  · subst h
    exact newV_within hw hok hn i hi'
theorem addRows_ok {B N : Int} {rows : List (List Int)} (hw : Within B rows) (hok : OkR rows) {seed : Int} {key : ByteArray} {n : Int} (hn : -N ≤ n ∧ n ≤ N) (hB : B + N ≤ 1099511627776) : OkR (addRows seed key n rows) where
  l7 := by rw [addRows_len]; exact hok.l7
  odd := by rw [addRows_len]; exact hok.odd
  row r hr := by
    have hwi := addRows_within hw hok (seed := seed) (key := key) hn r hr
    obtain ⟨i, hi, rfl⟩ := List.getElem_of_mem hr
    have hi' : i < rows.length := by rw [addRows_len] at hi; exact hi
    have hlen : ∀ j (h : j < rows.length) (h2 : j < (addRows seed key n rows).length), (addRows seed key n rows)[j].length = rows[j].length := fun j h h2 => by rw [addRows_at j h h2]; simp [updRow]
    have h := hok.row _ (List.getElem_mem hi')
    have h0 : 0 < rows.length := by omega
    have hd : ((addRows seed key n rows).headD []).length = (rows.headD []).length := by
      have e1 : ∀ l : List (List Int), (h : 0 < l.length) → l.headD [] = l[0] := fun l h => by cases l with | nil => simp at h | cons a t => rfl
      rw [e1 _ (by rw [addRows_len]; exact h0), e1 _ h0]
      exact hlen 0 h0 _
    rw [hlen i hi' hi, hd]
    exact ⟨h.1, h.2.1, h.2.2.1, fun v hv => by have := hwi v hv; omega⟩
theorem addRows_fits {B N : Int} {rows : List (List Int)} (hw : Within B rows) (hok : OkR rows) {seed : Int} {key : ByteArray} {n : Int} (hn : -N ≤ n ∧ n ≤ N) (hB : B + N ≤ 1099511627776) : ∀ j, ∀ h : j < rows.length, fitsB (newV seed key n (j : Int) rows[j]) = true := fun j h => by
  have := newV_within hw hok (seed := seed) (key := key) hn j h
  rw [fitsB_iff]; omega
theorem new_ok {rows cols : Int} (h : newOk rows cols) : OkR (List.replicate rows.toNat (List.replicate cols.toNat (0 : Int))) where
  l7 := by have := h.2.1; simp; omega
  odd := by have := h.2.2.1; have := h.1; simp; omega
  row r hr := by
    have := List.eq_of_mem_replicate hr
    subst this
    have h1 := h.1; have h2 := h.2.2.2.1; have h3 := h.2.2.2.2
    have hd : (List.replicate rows.toNat (List.replicate cols.toNat (0 : Int))).headD [] = List.replicate cols.toNat 0 := by
      obtain ⟨k, hk⟩ : ∃ k, rows.toNat = k + 1 := ⟨rows.toNat - 1, by omega⟩
      rw [hk, List.replicate_succ]; rfl
    rw [hd]
    refine ⟨by simp; omega, by simp; omega, rfl, fun v hv => ?_⟩
    rw [List.eq_of_mem_replicate hv]; omega
theorem new_within {rows cols : Int} : Within 0 (List.replicate rows.toNat (List.replicate cols.toNat (0 : Int))) := by
  intro r hr v hv
  rw [List.eq_of_mem_replicate hr] at hv
  rw [List.eq_of_mem_replicate hv]; omega
theorem med_mem {l : List Int} (h : l ≠ []) : med l ∈ l := by
  have hl : l.length / 2 < (srt l).length := by
    have : 0 < l.length := List.length_pos_iff.2 h
    simp [srt]; omega
  unfold med
  rw [List.getD_eq_getElem?_getD, List.getElem?_eq_getElem hl]
  exact List.mem_mergeSort.1 (List.getElem_mem hl)
end Go.Proofs.YtngpmpmhpggpgaaGreatDoorF
end

section
/- The document's numbers of the field, sums and cells of keys. -/
namespace Go.Proofs.YtngpmpmhpggpgaaGreatDoorF
open Go Go.Proofs.Vm

theorem sbin_add {P : Program} {H : Hp} {t : TypeId} {x y : Operand} {u v : ByteArray} (h : u.size + v.size ≤ 9223372036854775807) : vbin P H .add t x y (vS u) (vS v) = qa (vS (u ++ v)) := by
  have h' : ¬ 9223372036854775807 < (u.size : Int) + (v.size : Int) := by omega
  simp [vbin, vbin0, neSl, isNils, isPtr, isNilp, AV.sc, Cell.sc, eqGuard, binOp, Op.stringOp, ofPv, one?, Value.oneCell', h']
theorem byt_app (a b : ByteArray) (i : Int) (h0 : 0 ≤ i) : byt (a ++ b) i = if i < a.size then byt a i else byt b (i - a.size) := by
  obtain ⟨n, rfl⟩ := Int.eq_ofNat_of_zero_le h0
  by_cases h : (n : Int) < a.size
  · have h' : n < a.size := by omega
    have e : (a ++ b)[(n : Int).toNat]? = a[(n : Int).toNat]? := by
      simp only [Int.toNat_natCast]
      rw [getElem?_pos (a ++ b) n (by simp; omega), getElem?_pos a n h']
      congr 1
      exact ByteArray.getElem_append_left h'
    rw [if_pos h]
    unfold byt
    rw [e]
  · have h' : a.size ≤ n := by omega
    have e : (a ++ b)[(n : Int).toNat]? = b[((n : Int) - a.size).toNat]? := by
      rw [show ((n : Int) - a.size).toNat = n - a.size by omega, Int.toNat_natCast]
      by_cases hb : n < a.size + b.size
      · rw [getElem?_pos (a ++ b) n (by simp; omega), getElem?_pos b (n - a.size) (by omega)]
        congr 1
        exact ByteArray.getElem_append_right h'
      · rw [getElem?_neg (a ++ b) n (by simp; omega), getElem?_neg b (n - a.size) (by omega)]
    rw [if_neg h]
    unfold byt
    rw [e]

theorem r1_Of {a : Int} (h0 : 0 ≤ a) (_h1 : a < 18446744073709551616) : TV.pu 59 [cI .u64 a] = some (cI .u64 (a % 2305843009213693951)) := by
  refine run59 (by simp) ?_
  have e : a.tmod 2305843009213693951 = a % 2305843009213693951 := Int.tmod_eq_emod_of_nonneg h0
  simp -implicitDefEqProofs [Tryz.f59, bin_rem, e]
theorem r1_Add {a b : Int} (h0 : 0 ≤ a) (_h1 : a < 18446744073709551616) (h2 : 0 ≤ b) (_h3 : b < 18446744073709551616) : TV.pu 31 [cI .u64 a, cI .u64 b] = some (cI .u64 ((a + b) % 2305843009213693951)) := by
  refine run31 (by simp) ?_
  have e1 : a.tmod 2305843009213693951 = a % 2305843009213693951 := Int.tmod_eq_emod_of_nonneg h0
  have e2 : b.tmod 2305843009213693951 = b % 2305843009213693951 := Int.tmod_eq_emod_of_nonneg h2
  have e3 : IntKind.u64.wrap (a % 2305843009213693951 + b % 2305843009213693951) = a % 2305843009213693951 + b % 2305843009213693951 := u64_id (by omega) (by omega)
  have e4 : (a % 2305843009213693951 + b % 2305843009213693951).tmod 2305843009213693951 = (a + b) % 2305843009213693951 := by rw [Int.tmod_eq_emod_of_nonneg (by omega)]; omega
  simp -implicitDefEqProofs [Tryz.f31, bin_rem, e1, e2, e3, e4]
theorem r1_Mul {a b : Int} (h0 : 0 ≤ a) (_h1 : a < 18446744073709551616) (h2 : 0 ≤ b) (_h3 : b < 18446744073709551616) : TV.pu 30 [cI .u64 a, cI .u64 b] = some (cI .u64 (a * b % 2305843009213693951)) := by
  refine run30 (by simp) ?_
  have e1 : a.tmod 2305843009213693951 = a % 2305843009213693951 := Int.tmod_eq_emod_of_nonneg h0
  have e2 : b.tmod 2305843009213693951 = b % 2305843009213693951 := Int.tmod_eq_emod_of_nonneg h2
  simp -implicitDefEqProofs [Tryz.f30, bin_rem, e1, e2]
  obtain ⟨I, hI⟩ : ∃ I : Nat → St → Prop, ∀ k s, I k s ↔ (∃ e y o, s = ⟨e, []⟩ ∧ e 0 = vI .u64 y ∧ e 1 = vI .u64 (k : Nat) ∧ e 5 = vI .u64 o ∧ 0 ≤ y ∧ y < 2305843009213693951 ∧ 0 ≤ o ∧ o < 2305843009213693951 ∧ (k : Int) < 18446744073709551616 ∧ (o + y * k) % 2305843009213693951 = a * b % 2305843009213693951) := ⟨_, fun _ _ => Iff.rfl⟩
  have hb : ((b % 2305843009213693951).toNat : Int) = b % 2305843009213693951 := Int.toNat_of_nonneg (by omega)
  refine wpL_ind I ?_ (b % 2305843009213693951).toNat _ ((hI _ _).2 ⟨_, a % 2305843009213693951, 0, rfl, by simp, by simp [hb], by simp, by omega, by omega, by omega, by omega, by omega, by rw [hb, Int.zero_add, ← Int.mul_emod]⟩)
  intro k s hs
  obtain ⟨e, y, o, rfl, e0, e1, e5, y0, y1, o0, o1, k1, hk⟩ := (hI _ _).1 hs
  have t1 : ((k : Int)).tmod 2 = (k : Int) % 2 := Int.tmod_eq_emod_of_nonneg (by omega)
  have t2 : IntKind.u64.wrap ((k : Int).tdiv 2) = ((k / 2 : Nat) : Int) := by
    rw [Int.tdiv_eq_ediv_of_nonneg (by omega), u64_id (by omega) (by omega)]; omega
  have t2' : IntKind.u64.wrap ((k : Int) / 2) = (k : Int) / 2 := u64_id (by omega) (by omega)
  have t3 : IntKind.u64.wrap (y + y) = y + y := u64_id (by omega) (by omega)
  have t4 : (y + y).tmod 2305843009213693951 = (y + y) % 2305843009213693951 := Int.tmod_eq_emod_of_nonneg (by omega)
  have t5 : IntKind.u64.wrap (o + y) = o + y := u64_id (by omega) (by omega)
  have t6 : (o + y).tmod 2305843009213693951 = (o + y) % 2305843009213693951 := Int.tmod_eq_emod_of_nonneg (by omega)
  have key : ∀ c : Int, (c + (y + y) % 2305843009213693951 * ((k / 2 : Nat) : Int)) % 2305843009213693951 = (c + y * (2 * ((k / 2 : Nat) : Int))) % 2305843009213693951 := by
    intro c
    have : (y + y) * ((k / 2 : Nat) : Int) = y * (2 * ((k / 2 : Nat) : Int)) := by grind
    rw [Int.add_emod, Int.mul_emod, Int.emod_emod_of_dvd _ (Int.dvd_refl _), ← Int.mul_emod, ← Int.add_emod, this]
  by_cases c : k = 0
  · subst c
    simp at hk
    have : o % 2305843009213693951 = o := Int.emod_eq_of_lt o0 o1
    simp -implicitDefEqProofs [e1, e5]
    rw [← hk, this]
  · have c' : 0 < (k : Int) := by omega
    have c2 : 0 < k := by omega
    by_cases d : (k : Int) % 2 = 1
    · simp -implicitDefEqProofs [e0, e1, e5, c2, bin_rem, bin_quo, t1, t2', t3, t4, t5, t6, d]
      refine ⟨k / 2, by omega, (hI _ _).2 ⟨_, (y + y) % 2305843009213693951, (o + y) % 2305843009213693951, rfl, by simp, by simp, by simp, by omega, by omega, by omega, by omega, by omega, ?_⟩⟩
      rw [key, ← hk, Int.emod_add_emod]
      congr 1
      have : (k : Int) = 2 * ((k / 2 : Nat) : Int) + 1 := by omega
      rw [this]
      grind
    · have d' : ((k : Int) % 2 == 1) = false := by simpa using d
      simp -implicitDefEqProofs [e0, e1, c2, bin_rem, bin_quo, t1, t2', t3, t4, d']
      refine ⟨k / 2, by omega, (hI _ _).2 ⟨_, (y + y) % 2305843009213693951, o, rfl, by simp, by simp, by simp [e5], by omega, by omega, by omega, by omega, by omega, ?_⟩⟩
      rw [key, ← hk]
      congr 2
      have : (k : Int) = 2 * ((k / 2 : Nat) : Int) := by omega
      rw [this]
theorem r1_Pow {x : Int} (h0 : 0 ≤ x) (h1 : x < 18446744073709551616) : ∀ (N n : Nat), n < N → (n : Int) < 18446744073709551616 → TV.pu 32 [cI .u64 x, cI .u64 n] = some (cI .u64 (x ^ n % 2305843009213693951)) := by
  intro N
  induction N with
  | zero => intro n h; omega
  | succ N ih =>
    intro n hn hn2
    refine run32 (by simp) ?_
    by_cases c : n = 0
    · subst c
      simp -implicitDefEqProofs [Tryz.f32]
    · have c' : ¬ (n : Int) = 0 := by omega
      have hr := ih (n / 2) (by omega) (by omega)
      rw [show ((n / 2 : Nat) : Int) = (n : Int) / 2 by omega] at hr
      have t1 : (n : Int).tmod 2 = (n : Int) % 2 := Int.tmod_eq_emod_of_nonneg (by omega)
      have t2 : IntKind.u64.wrap ((n : Int).tdiv 2) = ((n / 2 : Nat) : Int) := by
        rw [Int.tdiv_eq_ediv_of_nonneg (by omega), u64_id (by omega) (by omega)]; omega
      have t2' : IntKind.u64.wrap ((n : Int) / 2) = (n : Int) / 2 := u64_id (by omega) (by omega)
      obtain ⟨v, hv⟩ : ∃ v, v = x ^ (n / 2) % 2305843009213693951 := ⟨_, rfl⟩
      rw [← hv] at hr
      have hm := r1_Mul (a := v) (b := v) (by omega) (by omega) (by omega) (by omega)
      obtain ⟨u, hu⟩ : ∃ u, u = v * v % 2305843009213693951 := ⟨_, rfl⟩
      rw [← hu] at hm
      have hm2 := r1_Mul (a := u) (b := x) (by omega) (by omega) h0 h1
      have hu2 : u = x ^ (2 * (n / 2)) % 2305843009213693951 := by
        rw [hu, hv, ← Int.mul_emod, ← Int.pow_add]
        congr 2; omega
      by_cases d : (n : Int) % 2 = 1
      · have e : x ^ n % 2305843009213693951 = u * x % 2305843009213693951 := by
          rw [hu2, Int.mul_emod, Int.emod_emod_of_dvd _ (Int.dvd_refl _), ← Int.mul_emod, ← Int.pow_succ]
          congr 2; omega
        rw [e]
        simp -implicitDefEqProofs [Tryz.f32, c, bin_rem, bin_quo, t1, t2', hr, hm, hm2, d]
      · have d' : ((n : Int) % 2 == 1) = false := by simpa using d
        have e : x ^ n % 2305843009213693951 = u := by
          rw [hu2]
          congr 2; omega
        rw [e]
        simp -implicitDefEqProofs [Tryz.f32, c, bin_rem, bin_quo, t1, t2', hr, hm, d']

def cU (n : Int) : List CV := [.v (.int .u64 n)]
def hwords (s : ByteArray) : List Int := (List.range (nwords s)).map fun (q : Nat) => hword s (4 * (q : Int))
theorem hwords_len (s : ByteArray) : (hwords s).length = nwords s := by simp [hwords]

set_option maxRecDepth 10000 in
theorem r2_words {s : ByteArray} (hs : s.size ≤ 1000) : TV.pu 60 [cS s] = some (.one (.arr ((hwords s).map cU))) := by
  refine run60 (by simp) ?_
  simp -implicitDefEqProofs [Tryz.f60, vmove, isNil]
  obtain ⟨I, hI⟩ : ∃ I : Nat → St → Prop, ∀ k st, I k st ↔ (∃ e z E L, st = ⟨e, E :: .clo [] false :: L⟩ ∧ e 0 = vS z ∧ e 3 = .one (.sl 1 0 0 0) ∧ (∀ i : Int, 0 ≤ i → byt z i = byt s i) ∧ k = (4 - z.size % 4) % 4 ∧ z.size ≤ s.size + (4 - s.size % 4) % 4 ∧ s.size ≤ z.size) := ⟨_, fun _ _ => Iff.rfl⟩
  refine wpL_ind I ?_ ((4 - s.size % 4) % 4) _ ((hI _ _).2 ⟨_, s, _, _, rfl, by simp, by simp, fun _ _ => rfl, rfl, by omega, Nat.le_refl _⟩)
  intro k st hst
  obtain ⟨e, z, E, L, rfl, e0, e3, hz, hk, hz1, hz2⟩ := (hI _ _).1 hst
  have t1 : (z.size : Int).tmod 4 = ((z.size % 4 : Nat) : Int) := by rw [Int.tmod_eq_emod_of_nonneg (by omega)]; omega
  by_cases c : z.size % 4 = 0
  · have c1 : ((z.size : Int).tmod 4 != 0) = false := by rw [t1, c]; rfl
    have hzn : z.size = 4 * nwords s := by unfold nwords; omega
    simp -implicitDefEqProofs [e0, bin_rem, c1]
    obtain ⟨J, hJ⟩ : ∃ J : Nat → St → Prop, ∀ k st, J k st ↔ (∃ e j L, st = ⟨e, E :: .clo (tk cU (hwords s) j) false :: L⟩ ∧ e 0 = vS z ∧ e 3 = .one (.sl 1 0 j j) ∧ e 4 = vI .i64 (4 * (j : Nat) : Int) ∧ j + k = nwords s) := ⟨_, fun _ _ => Iff.rfl⟩
    refine wpL_ind J ?_ (nwords s) _ ((hJ _ _).2 ⟨_, 0, _, by rw [tk_zero], by simp [e0], by simp [e3], by simp, by omega⟩)
    intro k2 st2 hst2
    obtain ⟨e', j, L2, rfl, f0, f3, f4, hk2⟩ := (hJ _ _).1 hst2
    by_cases d : j < nwords s
    · have d' : 4 * (j : Int) < (z.size : Int) := by omega
      have g0 := byt_range z (4 * (j : Int)); have g1 := byt_range z (4 * (j : Int) + 1); have g2 := byt_range z (4 * (j : Int) + 2); have g3 := byt_range z (4 * (j : Int) + 3)
      have x0 := idx_str (P := Tryz.prog) us9 (s := z) (k := .i64) (i := 4 * (j : Int)) (by omega) d'
      have x1 := idx_str (P := Tryz.prog) us9 (s := z) (k := .i64) (i := 4 * (j : Int) + 1) (by omega) (by omega)
      have x2 := idx_str (P := Tryz.prog) us9 (s := z) (k := .i64) (i := 4 * (j : Int) + 2) (by omega) (by omega)
      have x3 := idx_str (P := Tryz.prog) us9 (s := z) (k := .i64) (i := 4 * (j : Int) + 3) (by omega) (by omega)
      have hw : hword s (4 * (j : Int)) = byt z (4 * (j : Int)) * 16777216 + byt z (4 * (j : Int) + 1) * 65536 + byt z (4 * (j : Int) + 2) * 256 + byt z (4 * (j : Int) + 3) := by
        rw [hz _ (by omega), hz _ (by omega), hz _ (by omega), hz _ (by omega)]
        unfold hword; omega
      have jl : j < (hwords s).length := by rw [hwords_len]; exact d
      have hwj : (hwords s)[j] = hword s (4 * (j : Int)) := by simp [hwords]
      have htl : (tk cU (hwords s) j).length = j := tk_len (by omega)
      have htm : AllLen (tk cU (hwords s) j) 1 := tk_allLen fun _ => rfl
      have htk : tk cU (hwords s) j ++ [[.v (.int .u64 (byt z (4 * (j : Int)) * 16777216 + byt z (4 * (j : Int) + 1) * 65536 + byt z (4 * (j : Int) + 2) * 256 + byt z (4 * (j : Int) + 3)))]] = tk cU (hwords s) (j + 1) := by
        rw [← tk_succ jl, hwj, hw]; rfl
      generalize byt z (4 * (j : Int)) = b0 at *
      generalize byt z (4 * (j : Int) + 1) = b1 at *
      generalize byt z (4 * (j : Int) + 2) = b2 at *
      generalize byt z (4 * (j : Int) + 3) = b3 at *
      have y1 : IntKind.i64.wrap (4 * (j : Int) + 1) = 4 * (j : Int) + 1 := w64_id (by omega) (by omega)
      have y2 : IntKind.i64.wrap (4 * (j : Int) + 2) = 4 * (j : Int) + 2 := w64_id (by omega) (by omega)
      have y3 : IntKind.i64.wrap (4 * (j : Int) + 3) = 4 * (j : Int) + 3 := w64_id (by omega) (by omega)
      have y4 : IntKind.i64.wrap (4 * (j : Int) + 4) = 4 * (j : Int) + 4 := w64_id (by omega) (by omega)
      have u0 : IntKind.u64.wrap b0 = b0 := u64_id g0.1 (by omega)
      have u1 : IntKind.u64.wrap b1 = b1 := u64_id g1.1 (by omega)
      have u2 : IntKind.u64.wrap b2 = b2 := u64_id g2.1 (by omega)
      have u3 : IntKind.u64.wrap b3 = b3 := u64_id g3.1 (by omega)
      have v0 : IntKind.u64.wrap (b0 * 16777216) = b0 * 16777216 := u64_id (by omega) (by omega)
      have v1 : IntKind.u64.wrap (b1 * 65536) = b1 * 65536 := u64_id (by omega) (by omega)
      have v2 : IntKind.u64.wrap (b2 * 256) = b2 * 256 := u64_id (by omega) (by omega)
      have v3 : IntKind.u64.wrap (b0 * 16777216 + b1 * 65536) = b0 * 16777216 + b1 * 65536 := u64_id (by omega) (by omega)
      have v4 : IntKind.u64.wrap (b0 * 16777216 + b1 * 65536 + b2 * 256) = b0 * 16777216 + b1 * 65536 + b2 * 256 := u64_id (by omega) (by omega)
      have v5 : IntKind.u64.wrap (b0 * 16777216 + b1 * 65536 + b2 * 256 + b3) = b0 * 16777216 + b1 * 65536 + b2 * 256 + b3 := u64_id (by omega) (by omega)
      have hsz : nwords s ≤ 300 := by unfold nwords; omega
      have b1 : 8 * (j + 1) ≤ 140737488355328 := by omega
      have b2 : j + 1 ≤ 4611686018427387904 := by omega
      simp -implicitDefEqProofs [f0, f3, f4, d', x0, x1, x2, x3, y1, y2, y3, y4, u0, u1, u2, u3, v0, v1, v2, v3, v4, v5, vappend_sp es104 es104 el22, vbuildSlice_eq es104 el22, cellsOf?, fzParts, setAll, rchParts, rch, elemsOf, htl, htm, htk, b1, b2]
      exact ⟨k2 - 1, by omega, (hJ _ _).2 ⟨_, j + 1, _, rfl, by simp [f0], by simp, by simp; omega, by omega⟩⟩
    · have d' : ¬ 4 * (j : Int) < (z.size : Int) := by omega
      have hj : j = (hwords s).length := by rw [hwords_len]; omega
      have hta := tk_all (f := cU) (l := hwords s) (i := j) (by omega)
      have hln := hwords_len s
      have htt : ((hwords s).map cU).take j = (hwords s).map cU := List.take_of_length_le (by simp; omega)
      simp -implicitDefEqProofs [f0, f3, f4, d', hta, htt, ← hj]
  · have c1 : ((z.size : Int).tmod 4 != 0) = true := by rw [t1]; simp; omega
    have hst0 : strOf [0] = ⟨#[0]⟩ := rfl
    have hza : z.size + (⟨#[0]⟩ : ByteArray).size ≤ 9223372036854775807 := by have : (⟨#[0]⟩ : ByteArray).size = 1 := rfl
                                                                              omega
    have hz3 : (z ++ ⟨#[0]⟩ : ByteArray).size = z.size + 1 := by simp; rfl
    simp -implicitDefEqProofs [e0, bin_rem, c1, sbin_add hza, vbuildSlice_eq es129 el5, cellsOf?, fzParts, setAll, rchParts, rch, elemsOf, vconvW, bytesRow', hst0]
    refine ⟨k - 1, by omega, (hI _ _).2 ⟨_, z ++ ⟨#[0]⟩, _, _, rfl, by simp, by simp [e3], fun i hi => ?_, by rw [hz3]; omega, by rw [hz3]; omega, by rw [hz3]; omega⟩⟩
    rw [byt_app _ _ _ hi]
    split
    · exact hz i hi
    · rename_i h
      rw [byt_out s i hi (by omega)]
      have : (⟨#[0]⟩ : ByteArray).size = 1 := rfl
      by_cases hq : i - z.size = 0
      · rw [hq]; rfl
      · exact byt_out _ _ (by omega) (by rw [this]; omega)

theorem r2_Sum {seed : Int} {s : ByteArray} (h0 : 0 ≤ seed) (h1 : seed < 18446744073709551616) (hs : s.size ≤ 1000) : TV.pu 34 [cI .u64 seed, cS s] = some (cI .u64 (hsum seed s)) := by
  refine run34 (by simp) ?_
  have ha := r1_Add (a := seed) (b := 2) h0 h1 (by omega) (by omega)
  have ew : IntKind.u64.wrap (s.size : Int) = s.size := u64_id (by omega) (by omega)
  have ho := r1_Of (a := (s.size : Int)) (by omega) (by omega)
  have hw := r2_words hs
  obtain ⟨a, hae⟩ : ∃ a, a = (seed + 2) % 2305843009213693951 := ⟨_, rfl⟩
  rw [← hae] at ha
  simp -implicitDefEqProofs [Tryz.f34, ha, ew, ho, hw]
  obtain ⟨I, hI⟩ : ∃ I : Nat → St → Prop, ∀ k s', I k s' ↔ (∃ e n, s' = ⟨e, []⟩ ∧ e 5 = vI .u64 a ∧ e 6 = vI .u64 (hpoly a s n) ∧ e 7 = .one (.c (.arr ((hwords s).map cU))) ∧ e 8 = vI .i64 (n : Nat) ∧ n + k = nwords s) := ⟨_, fun _ _ => Iff.rfl⟩
  refine wpL_ind I ?_ (nwords s) _ ((hI _ _).2 ⟨_, 0, rfl, by simp, by simp [hpoly], by simp, by simp, by omega⟩)
  intro k st hst
  obtain ⟨e, n, rfl, e5, e6, e7, e8, hk⟩ := (hI _ _).1 hst
  have hp := hpoly_range a s n
  have hln := hwords_len s
  by_cases c : n < nwords s
  · have hsz : nwords s ≤ 300 := by unfold nwords; omega
    have w1 : IntKind.i64.wrap ((n : Int) + 1) = ((n + 1 : Nat) : Int) := by rw [w64_id (by omega) (by omega)]; omega
    have hnl : n < (hwords s).length := by rw [hln]; exact c
    have hwj : (hwords s)[n] = hword s (4 * (n : Int)) := by simp [hwords]
    have hwr := hword_range s (4 * (n : Int))
    have hm := r1_Mul (a := a) (b := hpoly a s n) (by omega) (by omega) hp.1 (by omega)
    have h2 := r1_Add (a := hword s (4 * (n : Int))) (b := 1) (by omega) (by omega) (by omega) (by omega)
    obtain ⟨v, hv⟩ : ∃ v, v = a * hpoly a s n % 2305843009213693951 := ⟨_, rfl⟩
    obtain ⟨u, hu⟩ : ∃ u, u = (hword s (4 * (n : Int)) + 1) % 2305843009213693951 := ⟨_, rfl⟩
    rw [← hv] at hm
    rw [← hu] at h2
    have h3 := r1_Add (a := v) (b := u) (by omega) (by omega) (by omega) (by omega)
    have he : (v + u) % 2305843009213693951 = hpoly a s (n + 1) := by
      simp only [hpoly]
      rw [hv, hu, ← Int.add_emod, Int.mul_comm]
    rw [he] at h3
    simp -implicitDefEqProofs [e5, e6, e7, e8, c, hln, cU, hwj, hm, h2, h3, w1]
    exact ⟨k - 1, by omega, (hI _ _).2 ⟨_, n + 1, rfl, by simp [e5], by simp, by simp [e7], by simp, by omega⟩⟩
  · have hn : n = nwords s := by omega
    have hm := r1_Mul (a := a) (b := hpoly a s n) (by omega) (by omega) hp.1 (by omega)
    obtain ⟨v, hv⟩ : ∃ v, v = a * hpoly a s n % 2305843009213693951 := ⟨_, rfl⟩
    rw [← hv] at hm
    have hw := r1_Pow (x := v) (by omega) (by omega) 18 17 (by omega) (by omega)
    have he : v ^ 17 % 2305843009213693951 = hsum seed s := by
      unfold hsum
      rw [← hae, ← hn, hv, Int.mul_comm]
    simp only [Int.cast_ofNat_Int] at hw
    rw [he] at hw
    simp -implicitDefEqProofs [e5, e6, e7, e8, c, hln, hm, hw]
theorem r2_Row {s i : Int} (h0 : 0 ≤ s) (h1 : s < 18446744073709551616) (h2 : i < 9223372036854775808) (h3 : -9223372036854775808 ≤ i) : TV.pu 9 [cI .u64 s, cI .i64 i] = some (cI .u64 (hrow s i)) := by
  refine run9 (by simp) ?_
  obtain ⟨j, hj⟩ : ∃ j, j = if i < 0 then 0 else i := ⟨_, rfl⟩
  have hj0 : 0 ≤ j := by rw [hj]; split <;> omega
  have hj1 : j < 9223372036854775808 := by rw [hj]; split <;> omega
  obtain ⟨v1, h1'⟩ : ∃ v, v = (s + 3) % 2305843009213693951 := ⟨_, rfl⟩
  obtain ⟨v2, h2'⟩ : ∃ v, v = (j + 2) % 2305843009213693951 := ⟨_, rfl⟩
  obtain ⟨v3, h3'⟩ : ∃ v, v = v1 * v2 % 2305843009213693951 := ⟨_, rfl⟩
  obtain ⟨v4, h4'⟩ : ∃ v, v = (v3 + 5) % 2305843009213693951 := ⟨_, rfl⟩
  have e1 := r1_Add (a := s) (b := 3) h0 h1 (by omega) (by omega)
  have e2 := r1_Add (a := j) (b := 2) hj0 (by omega) (by omega) (by omega)
  have e3 := r1_Mul (a := v1) (b := v2) (by omega) (by omega) (by omega) (by omega)
  have e4 := r1_Add (a := v3) (b := 5) (by omega) (by omega) (by omega) (by omega)
  have e5 := r1_Pow (x := v4) (by omega) (by omega) 3 2 (by omega) (by omega)
  simp only [Int.cast_ofNat_Int] at e5
  rw [← h1'] at e1
  rw [← h2'] at e2
  rw [← h3'] at e3
  rw [← h4'] at e4
  have ew : IntKind.u64.wrap j = j := u64_id hj0 (by omega)
  have hv : hrow s i = v4 ^ 2 % 2305843009213693951 := by
    unfold hrow
    rw [← hj]
    have : v3 = (s + 3) * (j + 2) % 2305843009213693951 := by rw [h3', h1', h2', ← Int.mul_emod]
    have : v4 = ((s + 3) * (j + 2) + 5) % 2305843009213693951 := by omega
    rw [this]
  rw [hv]
  by_cases c : i < 0
  · have hj2 : j = 0 := by rw [hj, if_pos c]
    subst hj2
    simp -implicitDefEqProofs [Tryz.f9, c, e1, ew, e2, e3, e4, e5]
  · have hj2 : j = i := by rw [hj, if_neg c]
    subst hj2
    simp -implicitDefEqProofs [Tryz.f9, c, e1, ew, e2, e3, e4, e5]
theorem r2_Cell {seed n : Int} {s : ByteArray} (h0 : 0 ≤ seed) (h1 : seed < 18446744073709551616) (hs : s.size ≤ 1000) (hn : n < 9223372036854775808) : TV.pu 33 [cI .u64 seed, cS s, cI .i64 n] = some (cI .i64 (hcell seed s n)) := by
  refine run33 (by simp) ?_
  have hr := hsum_range seed s
  by_cases c : n < 1
  · simp [Tryz.f33, c, hcell]
  · have h2 := Int.emod_nonneg (hsum seed s) (show n ≠ 0 by omega)
    have h3 := Int.emod_lt_of_pos (hsum seed s) (show 0 < n by omega)
    have e1 : IntKind.u64.wrap n = n := u64_id (by omega) (by omega)
    have e2 : (hsum seed s).tmod n = hsum seed s % n := Int.tmod_eq_emod_of_nonneg hr.1
    have e3 : IntKind.i64.wrap (hsum seed s % n) = hsum seed s % n := w64_id (by omega) (by omega)
    have e4 : n ≠ 0 := by omega
    simp [Tryz.f33, c, hcell, r2_Sum h0 h1 hs, e1, bin_rem e4, e2, e3]
end Go.Proofs.YtngpmpmhpggpgaaGreatDoorF
end

section
/- A key's level, by the program and by the document. -/
set_option maxRecDepth 8192
set_option maxHeartbeats 1000000
namespace Go.Proofs.YtngpmpmhpggpgaaGreatDoorF
open Go Go.Proofs.Vm

/-- How many of the lowest bits are nought, at most so many. -/
def tzU : Nat → Int → Nat
  | 0, _ => 0
  | m + 1, s => if s % 2 = 0 then tzU m (s / 2) + 1 else 0
theorem tzU_le : ∀ (m : Nat) (s : Int), tzU m s ≤ m
  | 0, _ => Nat.le_refl _
  | m + 1, s => by
    unfold tzU
    split
    · have := tzU_le m (s / 2); omega
    · omega
theorem tzU_zero : ∀ m : Nat, tzU m 0 = m
  | 0 => rfl
  | m + 1 => by unfold tzU; rw [if_pos (by decide)]; show tzU m 0 + 1 = m + 1; rw [tzU_zero m]
theorem tzU_ctz : ∀ (m f x : Nat), 0 < x → x < 2 ^ f → min (Lib.ctzFrom f x) m = tzU m (x : Int)
  | 0, f, x, _, _ => by simp [tzU]
  | m + 1, 0, x, h0, h => by simp at h; omega
  | m + 1, f + 1, x, h0, h => by
    unfold tzU Lib.ctzFrom
    by_cases hx : x % 2 = 1
    · rw [if_pos hx, if_neg (by omega)]; simp
    · rw [if_neg hx, if_pos (by omega)]
      have := tzU_ctz m f (x / 2) (by omega) (by rw [Nat.pow_succ] at h; omega)
      have e : ((x : Int) / 2) = ((x / 2 : Nat) : Int) := by omega
      rw [e, ← this]
      omega
def hlev (seed : Int) (s : ByteArray) (most : Int) : Int := (tzU most.toNat (hsum seed s) : Nat)
theorem hlev_range (seed : Int) (s : ByteArray) (most : Int) : 0 ≤ hlev seed s most ∧ hlev seed s most ≤ max most 0 := by
  have := tzU_le most.toNat (hsum seed s)
  unfold hlev; omega
theorem tz64 {x : Int} (h0 : 0 ≤ x) (h1 : x < 18446744073709551616) : TV.pu 90 [cI .u64 x] = some (cI .i64 (Lib.ctz 64 x.toNat)) := by
  refine TT_base ?_
  show (match (if (90 : FuncId) = 90 then tzRun [cI .u64 x] else none) with | some r => some r | none => _) = _
  rw [if_pos rfl]
  simp only [tzRun]
  rw [if_pos ⟨h0, h1⟩]
theorem hash_Level {seed most : Int} {s : ByteArray} (h0 : 0 ≤ seed) (h1 : seed < 18446744073709551616) (hs : s.size ≤ 140737488351232) (hm0 : -9223372036854775808 ≤ most) (hm1 : most < 9223372036854775808) : TV.pu 64 [cI .u64 seed, cS s, cI .i64 most] = some (cI .i64 (hlev seed s most)) := by
  refine run64 (by simp) ?_
  have hS := hash_Sum (seed := seed) (s := s) h0 h1 hs
  have hr := hsum_range seed s
  obtain ⟨x, hx⟩ : ∃ x, hsum seed s = x := ⟨_, rfl⟩
  unfold hlev
  rw [hx] at hS hr ⊢
  by_cases hz : x = 0
  · subst hz
    have e : (if most < 0 then 0 else most) = ((tzU most.toNat 0 : Nat) : Int) := by rw [tzU_zero]; split <;> omega
    simp -implicitDefEqProofs [Tryz.f64, hS, e]
  · obtain ⟨n, rfl⟩ := Int.eq_ofNat_of_zero_le hr.1
    have ht := tz64 (x := (n : Int)) hr.1 (by omega)
    have hn0 : n ≠ 0 := by omega
    have hc : Lib.ctz 64 n = Lib.ctzFrom 64 n := by unfold Lib.ctz; rw [if_neg hn0]
    have hmin := tzU_ctz most.toNat 64 n (by omega) (by omega)
    rw [Int.toNat_natCast, hc] at ht
    obtain ⟨c, hcc⟩ : ∃ c, Lib.ctzFrom 64 n = c := ⟨_, rfl⟩
    rw [hcc] at ht hmin
    have e : (if (if most < (c : Int) then most else (c : Int)) < 0 then 0 else (if most < (c : Int) then most else (c : Int))) = ((tzU most.toNat (n : Int) : Nat) : Int) := by rw [← hmin]; split <;> split <;> omega
    simp -implicitDefEqProofs [Tryz.f64, hS, hn0, ht, e]
theorem r2_Level {seed most : Int} {s : ByteArray} (h0 : 0 ≤ seed) (h1 : seed < 18446744073709551616) (hs : s.size ≤ 1000) (hm0 : -9223372036854775808 ≤ most) (hm1 : most < 9223372036854775808) : TV.pu 11 [cI .u64 seed, cS s, cI .i64 most] = some (cI .i64 (hlev seed s most)) := by
  refine run11 (by simp) ?_
  have hS := r2_Sum (seed := seed) (s := s) h0 h1 hs
  have hr := hsum_range seed s
  obtain ⟨x, hx⟩ : ∃ x, hsum seed s = x := ⟨_, rfl⟩
  unfold hlev
  rw [hx] at hS hr ⊢
  obtain ⟨res, hres⟩ : ∃ res, tzU most.toNat x = res := ⟨_, rfl⟩
  rw [hres]
  simp -implicitDefEqProofs [Tryz.f11, hS]
  obtain ⟨I, hI⟩ : ∃ I : Nat → St → Prop, ∀ k s', I k s' ↔ (∃ e n y L, s' = ⟨e, L⟩ ∧ e 2 = vI .i64 most ∧ e 7 = vI .i64 (n : Nat) ∧ e 8 = vI .u64 y ∧ (n + k = most.toNat) ∧ (0 ≤ y) ∧ (y < 18446744073709551616) ∧ (n + tzU k y = res)) := ⟨_, fun _ _ => Iff.rfl⟩
  refine wpL_ind I ?_ most.toNat _ ((hI _ _).2 ⟨_, 0, x, _, (by first | rfl | (simp; done) | (simp; rfl) | (simp; and_intros <;> rfl)), by simp, by simp, by simp, by omega, by omega, by omega, by rw [hres]; omega⟩)
  intro k stI hstI
  obtain ⟨e, n, y, L, rfl, e2, e7, e8, hk, hy0, hy1, hn⟩ := (hI _ _).1 hstI
  by_cases c : (n : Int) < most
  rotate_left
  · have hk0 : k = 0 := by omega
    subst hk0
    have : n = res := by rw [← hn]; rfl
    subst this
    simp -implicitDefEqProofs [e2, e7, c]
  · obtain ⟨k', rfl⟩ : ∃ k', k = k' + 1 := ⟨k - 1, by omega⟩
    have w1 : IntKind.i64.wrap ((n : Int) + 1) = ((n + 1 : Nat) : Int) := by rw [w64_id (by omega) (by omega)]; omega
    have ht : y.tmod 2 = y % 2 := Int.tmod_eq_emod_of_nonneg hy0
    have hq : y.tdiv 2 = y / 2 := Int.tdiv_eq_ediv_of_nonneg hy0
    have wq : IntKind.u64.wrap (y / 2) = y / 2 := u64_id (by omega) (by omega)
    rw [tzU] at hn
    by_cases d : y % 2 = 0
    · rw [if_pos d] at hn
      simp -implicitDefEqProofs [e2, e7, e8, c, ht, hq, d, w1, bin_rem, bin_quo]
      exact ⟨k', by omega, (hI _ _).2 ⟨_, n + 1, y / 2, _, (by first | rfl | (simp [hq, wq, w1]; done) | (simp [hq, wq, w1]; rfl) | (simp [hq, wq, w1]; and_intros <;> rfl)), by simp [e2, wq], by simp [wq], by simp [wq], by omega, by omega, by omega, by omega⟩⟩
    · rw [if_neg d] at hn
      have : n = res := by omega
      subst this
      simp -implicitDefEqProofs [e2, e7, e8, c, ht, d, bin_rem]
end Go.Proofs.YtngpmpmhpggpgaaGreatDoorF
end

section
/- Logarithms by squaring, and what a number counts: plain facts. -/
set_option maxRecDepth 8192
set_option maxHeartbeats 2000000
namespace Go.Proofs.YtngpmpmhpggpgaaGreatDoorF
open Go Go.Proofs.Vm

/-- One bit more of a logarithm. -/
def lgStep (s : Nat × Nat) : Nat × Nat := if 2147483648 ≤ s.2 * s.2 / 1073741824 then (2 * s.1 + 1, s.2 * s.2 / 1073741824 / 2) else (2 * s.1, s.2 * s.2 / 1073741824)
def lgIt : Nat → Nat × Nat → Nat × Nat
  | 0, s => s
  | n + 1, s => lgIt n (lgStep s)
def lgX (n k : Nat) : Nat := if 30 < k then n / 2 ^ (k - 30) else n * 2 ^ (30 - k)
def lgN (n : Nat) : Nat := (lgIt 16 (Nat.log2 n, lgX n (Nat.log2 n))).1
/-- What is squared lies between one and two. -/
def lgOk (s : Nat × Nat) : Prop := 1073741824 ≤ s.2 ∧ s.2 < 2147483648
theorem lgStep_ok {s : Nat × Nat} (h : lgOk s) : lgOk (lgStep s) := by
  obtain ⟨h1, h2⟩ := h
  have a := Nat.mul_le_mul h1 h1
  have b := Nat.mul_le_mul (show s.2 ≤ 2147483647 by omega) (show s.2 ≤ 2147483647 by omega)
  unfold lgStep lgOk
  generalize s.2 * s.2 = q at *
  split <;> simp only <;> omega
theorem lgStep_sq {s : Nat × Nat} (h : lgOk s) : s.2 * s.2 < 4611686018427387904 := by
  have b := Nat.mul_le_mul (show s.2 ≤ 2147483647 by have := h.2; omega) (show s.2 ≤ 2147483647 by have := h.2; omega)
  omega
theorem lgIt_ok : ∀ (n : Nat) {s : Nat × Nat}, lgOk s → lgOk (lgIt n s)
  | 0, _, h => h
  | n + 1, _, h => lgIt_ok n (lgStep_ok h)
theorem lgIt_snoc : ∀ (n : Nat) (s : Nat × Nat), lgIt (n + 1) s = lgStep (lgIt n s)
  | 0, _ => rfl
  | n + 1, s => lgIt_snoc n (lgStep s)
theorem lgIt_lt : ∀ (n : Nat) (s : Nat × Nat), (lgIt n s).1 < (s.1 + 1) * 2 ^ n
  | 0, s => by simp [lgIt]
  | n + 1, s => by
    have h := lgIt_lt n (lgStep s)
    have e : (lgStep s).1 + 1 ≤ 2 * (s.1 + 1) := by unfold lgStep; split <;> simp only <;> omega
    have := Nat.mul_le_mul_right (2 ^ n) e
    rw [Nat.pow_succ]
    show (lgIt n (lgStep s)).1 < _
    have e2 : (s.1 + 1) * (2 ^ n * 2) = 2 * (s.1 + 1) * 2 ^ n := by rw [Nat.mul_comm (2 ^ n) 2, ← Nat.mul_assoc, Nat.mul_comm (s.1 + 1) 2]
    omega
theorem lgX_ok {n : Nat} (h0 : n ≠ 0) : lgOk (Nat.log2 n, lgX n (Nat.log2 n)) := by
  have h1 := Nat.log2_self_le h0
  have h2 := (Nat.log2_lt h0).1 (Nat.lt_succ_self (Nat.log2 n))
  generalize Nat.log2 n = k at *
  unfold lgX lgOk
  simp only
  split
  · rename_i hk
    have e : 2 ^ k = 2 ^ 30 * 2 ^ (k - 30) := by rw [← Nat.pow_add]; congr 1; omega
    have e2 : 2 ^ (k + 1) = 2 ^ 31 * 2 ^ (k - 30) := by rw [← Nat.pow_add]; congr 1; omega
    have hp : 0 < 2 ^ (k - 30) := Nat.pow_pos (by decide)
    refine ⟨(Nat.le_div_iff_mul_le hp).2 ?_, (Nat.div_lt_iff_lt_mul hp).2 ?_⟩
    · rw [e] at h1; exact h1
    · rw [Nat.succ_eq_add_one, e2] at h2; exact h2
  · rename_i hk
    have e : 2 ^ 30 = 2 ^ k * 2 ^ (30 - k) := by rw [← Nat.pow_add]; congr 1; omega
    have e2 : 2 ^ 31 = 2 ^ (k + 1) * 2 ^ (30 - k) := by rw [← Nat.pow_add]; congr 1; omega
    have hp : 0 < 2 ^ (30 - k) := Nat.pow_pos (by decide)
    refine ⟨?_, ?_⟩
    · have := Nat.mul_le_mul_right (2 ^ (30 - k)) h1
      rw [← e] at this; exact this
    · have := Nat.mul_lt_mul_of_pos_right h2 hp
      rw [Nat.succ_eq_add_one, ← e2] at this; exact this
theorem log2_lt63 {n : Nat} (h : n < 9223372036854775808) (h0 : n ≠ 0) : Nat.log2 n < 63 := (Nat.log2_lt h0).2 (by simpa using h)
theorem lgN_lt {n : Nat} (h : n < 9223372036854775808) (h0 : n ≠ 0) : lgN n < 4194304 := by
  have h1 := lgIt_lt 16 (Nat.log2 n, lgX n (Nat.log2 n))
  have h2 := log2_lt63 h h0
  unfold lgN
  simp only at h1
  omega
theorem lgN_small {n : Nat} (h : n ≤ 1048576) (h0 : n ≠ 0) : lgN n < 1376256 := by
  have h1 := lgIt_lt 16 (Nat.log2 n, lgX n (Nat.log2 n))
  have h2 : Nat.log2 n < 21 := (Nat.log2_lt h0).2 (by simpa using (show n < 2097152 by omega))
  unfold lgN
  simp only at h1
  omega
def lgLe (a b : Nat × Nat) : Prop := a.1 < b.1 ∨ a.1 = b.1 ∧ a.2 ≤ b.2
theorem lgStep_le {a b : Nat × Nat} (h : lgLe a b) : lgLe (lgStep a) (lgStep b) := by
  unfold lgLe lgStep at *
  rcases h with h | ⟨h, g⟩
  · left
    split <;> split <;> simp only <;> omega
  · have q := Nat.mul_le_mul g g
    generalize a.2 * a.2 = x at *
    generalize b.2 * b.2 = y at *
    split <;> split <;> simp only <;> omega
theorem lgIt_le : ∀ (n : Nat) {a b : Nat × Nat}, lgLe a b → lgLe (lgIt n a) (lgIt n b)
  | 0, _, _, h => h
  | n + 1, _, _, h => lgIt_le n (lgStep_le h)
theorem log2_mono {a b : Nat} (h0 : a ≠ 0) (h : a ≤ b) : Nat.log2 a ≤ Nat.log2 b := by
  have h1 := Nat.log2_self_le h0
  have h2 := (Nat.log2_lt (show b ≠ 0 by omega)).1 (Nat.lt_succ_self (Nat.log2 b))
  rcases Nat.lt_or_ge (Nat.log2 b) (Nat.log2 a) with h3 | h3
  · have := Nat.pow_le_pow_right (show 0 < 2 by decide) (show Nat.succ (Nat.log2 b) ≤ Nat.log2 a from h3)
    omega
  · exact h3
theorem lgN_mono {a b : Nat} (h0 : a ≠ 0) (h : a ≤ b) : lgN a ≤ lgN b := by
  have : lgLe (Nat.log2 a, lgX a (Nat.log2 a)) (Nat.log2 b, lgX b (Nat.log2 b)) := by
    have hm := log2_mono h0 h
    rcases Nat.lt_or_ge (Nat.log2 a) (Nat.log2 b) with h1 | h1
    · exact .inl h1
    · have e : Nat.log2 a = Nat.log2 b := by omega
      refine .inr ⟨e, ?_⟩
      rw [e]
      show lgX a _ ≤ lgX b _
      unfold lgX
      split
      · exact Nat.div_le_div_right h
      · exact Nat.mul_le_mul_right _ h
  have := lgIt_le 16 this
  unfold lgN
  rcases this with h | ⟨h, _⟩ <;> omega
theorem sq_one (c : Nat) (hc : 0 < c) : c * c / c = c := Nat.mul_div_cancel c hc
theorem lgStep_one (k : Nat) : lgStep (k, 1073741824) = (2 * k, 1073741824) := by
  have h := sq_one 1073741824 (by omega)
  unfold lgStep
  dsimp only
  rw [h, if_neg (by omega)]
theorem lgIt_one : ∀ (n k : Nat), lgIt n (k, 1073741824) = (k * 2 ^ n, 1073741824)
  | 0, k => by rw [Nat.pow_zero, Nat.mul_one]; rfl
  | n + 1, k => by
    show lgIt n (lgStep (k, 1073741824)) = _
    rw [lgStep_one, lgIt_one n (2 * k), Nat.pow_succ, Nat.mul_comm 2 k, Nat.mul_assoc, Nat.mul_comm 2]
theorem lgN_pow (n : Nat) : lgN (2 ^ n) = n * 65536 := by
  have h0 : 2 ^ n ≠ 0 := Nat.ne_of_gt (Nat.pow_pos (by decide))
  have hl : Nat.log2 (2 ^ n) = n := Nat.log2_two_pow
  have hx : lgX (2 ^ n) n = 1073741824 := by
    unfold lgX
    split
    · rename_i h
      rw [Nat.pow_div (by omega) (by decide)]
      rw [show n - (n - 30) = 30 by omega]
    · rename_i h
      rw [← Nat.pow_add, show n + (30 - n) = 30 by omega]
  unfold lgN
  rw [hl, hx, lgIt_one]

/-- The logarithm of any number. -/
def logI (n : Int) : Int := if n < 1 then 0 else (lgN n.toNat : Int)
theorem logI_range {n : Int} (h : n < 9223372036854775808) : 0 ≤ logI n ∧ logI n < 4194304 := by
  unfold logI
  split
  · omega
  · have := lgN_lt (n := n.toNat) (by omega) (by omega)
    omega
theorem logI_mono {a b : Int} (h : a ≤ b) : logI a ≤ logI b := by
  unfold logI
  split <;> split
  · omega
  · omega
  · omega
  · have := lgN_mono (a := a.toNat) (b := b.toNat) (by omega) (by omega)
    omega
theorem logI_pow (n : Nat) : logI ((2 ^ n : Nat) : Int) = (n : Int) * 65536 := by
  have h0 : 0 < 2 ^ n := Nat.pow_pos (by decide)
  unfold logI
  rw [if_neg (by omega), Int.toNat_natCast, lgN_pow]
  simp
def clip (n : Int) : Int := if n < 0 then 0 else if 1048576 < n then 1048576 else n
theorem clip_range (n : Int) : 0 ≤ clip n ∧ clip n ≤ 1048576 := by unfold clip; split <;> (try split) <;> omega
theorem clip_mono {a b : Int} (h : a ≤ b) : clip a ≤ clip b := by unfold clip; split <;> split <;> (try split) <;> (try split) <;> omega
/-- What a number counts, by its kind. -/
def cntI (kind n : Int) : Int := if kind = 0 then (if clip n < 1 then clip n else 1) else if kind = 1 then clip n else if kind = 2 then clip n * clip n else if kind = 3 then clip n * logI (clip n) else 0
theorem cntI_range (kind n : Int) : 0 ≤ cntI kind n ∧ cntI kind n ≤ 1443109011456 := by
  have h := clip_range n
  have hl : 0 ≤ logI (clip n) ∧ logI (clip n) ≤ 1376256 := by
    unfold logI
    split
    · omega
    · have := lgN_small (n := (clip n).toNat) (by omega) (by omega)
      omega
  have s1 := Int.mul_le_mul h.2 h.2 h.1 (by decide)
  have s2 := Int.mul_le_mul h.2 hl.2 hl.1 (by decide)
  have s3 := Int.mul_nonneg h.1 h.1
  have s4 := Int.mul_nonneg h.1 hl.1
  unfold cntI
  split
  · split <;> omega
  · split
    · omega
    · split
      · omega
      · split <;> omega
theorem cntI_mono (kind : Int) {a b : Int} (h : a ≤ b) : cntI kind a ≤ cntI kind b := by
  have hc := clip_mono h
  have ha := clip_range a
  have hb := clip_range b
  have hl := logI_mono hc
  have h0 := (logI_range (n := clip a) (by omega)).1
  have s1 := Int.mul_le_mul hc hc ha.1 hb.1
  have s2 := Int.mul_le_mul hc hl h0 hb.1
  unfold cntI
  split
  · split <;> split <;> omega
  · split
    · omega
    · split
      · omega
      · split <;> omega
end Go.Proofs.YtngpmpmhpggpgaaGreatDoorF
end

section
/- Sketches of levels: what they are, and what an item's list must be. -/
set_option maxRecDepth 8192
set_option maxHeartbeats 2000000
namespace Go.Proofs.YtngpmpmhpggpgaaGreatDoorF
open Go Go.Proofs.Vm

/-- A level: its seed, its rows, its items. -/
abbrev Lv := Int × List (List Int) × List Itm
/-- A sketch: its seed, its room, its levels. -/
abbrev Us := Int × Int × List Lv
def cLv (l : Lv) : List CV := [.v (.int .u64 l.1), cRows l.2.1, cItms l.2.2]
def cUs (s : Us) : List CV := [.v (.int .u64 s.1), .v (.int .i64 s.2.1), .arr (s.2.2.map cLv)]

instance bytesLawful : LawfulBEq ByteArray where
  eq_of_beq h := (Go.MapKept.bytes_beq _ _).1 h
  rfl := (Go.MapKept.bytes_beq _ _).2 rfl

/-! Items as they must stand. -/
theorem srt_adj {l : List Itm} (h : Srt l) {q : Nat} (h0 : 0 < q) (hq : q < l.length) : ordI (l[q - 1]'(by omega)) l[q] < 0 := List.pairwise_iff_getElem.1 h (q - 1) q (by omega) hq (by omega)
theorem srt_of_adj {l : List Itm} (h : ∀ q, ∀ h0 : 0 < q, ∀ hq : q < l.length, ordI (l[q - 1]'(by omega)) l[q] < 0) : Srt l := by
  refine List.pairwise_iff_getElem.2 fun i j hi hj hij => ?_
  obtain ⟨d, rfl⟩ : ∃ d, j = i + (d + 1) := ⟨j - i - 1, by omega⟩
  clear hij
  induction d with
  | zero => exact h (i + 1) (by omega) hj
  | succ d ih => exact ordI_trans (ih (by omega)) (h (i + (d + 1 + 1)) (by omega) hj)
theorem keys_iff {l : List Itm} : Keys l ↔ ∀ p q, ∀ hq : q < l.length, ∀ hp : p < q, l[p].1 ≠ l[q].1 := by
  unfold Keys List.Nodup
  rw [List.pairwise_map, List.pairwise_iff_getElem]
  exact ⟨fun h p q hq hp => h p q (by omega) hq hp, fun h i j hi hj hij => h i j hj hij⟩
theorem notK_count (k : ByteArray) (l : List Itm) : (notK k l).length + l.countP (fun x => decide (x.1 = k)) = l.length := by
  induction l with
  | nil => rfl
  | cons x r ih =>
    unfold notK at *
    by_cases h : x.1 = k <;> simp [h] at * <;> omega
theorem keys_count {l : List Itm} (h : Keys l) {i : Nat} (hi : i < l.length) : (notK l[i].1 l).length + 1 = l.length := by
  have h1 := notK_count l[i].1 l
  have h2 := List.nodup_iff_count.1 h l[i].1
  rw [List.count_eq_countP, List.countP_map] at h2
  have e : ((fun x => x == l[i].1) ∘ fun (x : Itm) => x.1) = fun x => decide (x.1 = l[i].1) := by
    funext x
    by_cases hx : x.1 = l[i].1 <;> simp [hx]
  rw [e] at h2
  have h3 : 0 < l.countP (fun x => decide (x.1 = l[i].1)) := List.countP_pos_iff.2 ⟨l[i], List.getElem_mem hi, by simp⟩
  omega
theorem count_two {l : List Itm} {p q : Nat} (hq : q < l.length) (hp : p < q) (h : l[p].1 = l[q].1) : (notK l[q].1 l).length + 2 ≤ l.length := by
  have h1 := notK_count l[q].1 l
  have h2 : l.countP (fun x => decide (x.1 = l[q].1)) = (l.take q).countP (fun x => decide (x.1 = l[q].1)) + (l.drop q).countP (fun x => decide (x.1 = l[q].1)) := by rw [← List.countP_append, List.take_append_drop]
  have h3 : 0 < (l.take q).countP (fun x => decide (x.1 = l[q].1)) := List.countP_pos_iff.2 ⟨l[p], List.mem_take_iff_getElem.2 ⟨p, by omega, rfl⟩, by simp [h]⟩
  have h4 : 0 < (l.drop q).countP (fun x => decide (x.1 = l[q].1)) := List.countP_pos_iff.2 ⟨l[q], by rw [List.drop_eq_getElem_cons hq]; exact List.mem_cons_self, by simp⟩
  omega
open Classical in
/-- Such as stand, with unlike keys. -/
noncomputable def topB (l : List Itm) : Bool := decide (Srt l ∧ Keys l)
open Classical in
theorem topB_iff {l : List Itm} : topB l = true ↔ Srt l ∧ Keys l := by unfold topB; exact decide_eq_true_iff
open Classical in
theorem topB_no {l : List Itm} (h : ¬ (Srt l ∧ Keys l)) : topB l = false := by unfold topB; exact decide_eq_false h
theorem insL_last {x : Itm} : ∀ {m : List Itm}, (∀ y ∈ m, ordI y x < 0) → insL x m = m ++ [x]
  | [], _ => rfl
  | y :: r, h => by
    have h1 := h y List.mem_cons_self
    have h2 := ordI_neg y x
    have : aheadB x y = false := decide_eq_false (by omega)
    unfold insL
    rw [this, if_neg (by simp), insL_last fun z hz => h z (List.mem_cons_of_mem _ hz)]
    rfl
/-- What stands, offered again, stands so again. -/
theorem refAll_self {room : Int} {l : List Itm} (hs : Srt l) (hk : Keys l) (hl : (l.length : Int) ≤ room) : refAll room l = l := by
  have : ∀ i, i ≤ l.length → refAll room (l.take i) = l.take i := by
    intro i
    induction i with
    | zero => intro _; rfl
    | succ i ih =>
      intro h
      have hi : i < l.length := by omega
      rw [refAll_take hi, ih (by omega)]
      have hn : notK l[i].1 (l.take i) = l.take i := notK_self fun x hx e => by
        obtain ⟨p, hp, rfl⟩ := List.mem_take_iff_getElem.1 hx
        exact keys_iff.1 hk p i hi (by omega) e
      have hlt : (l.take i).length = i := by simp; omega
      unfold refOffer
      rw [hn, if_pos (.inr (by rw [hlt]; omega))]
      show insL (l[i].1, l[i].2) (l.take i) = _
      rw [List.take_add_one, List.getElem?_eq_getElem hi]
      exact insL_last fun y hy => by
        obtain ⟨p, hp, rfl⟩ := List.mem_take_iff_getElem.1 hy
        exact List.pairwise_iff_getElem.1 hs p i (by omega) hi (by omega)
  have h := this l.length (Nat.le_refl _)
  rwa [List.take_length] at h
theorem offer_top {room : Int} {m : List Itm} (hs : Srt m) (hk : Keys m) (hl : (m.length : Int) ≤ room) (hr : 1 ≤ room) (k : ByteArray) (c : Int) : Srt (refOffer room m k c).1 ∧ Keys (refOffer room m k c).1 ∧ ((refOffer room m k c).1.length : Int) ≤ room := by
  have hins : ∀ r : List Itm, Srt r → Keys r → (∀ y ∈ r, y.1 ≠ k) → Srt (insL (k, c) r) ∧ Keys (insL (k, c) r) := fun r h1 h2 h3 => by
    refine ⟨insL_srt _ _ h1 h3, ?_⟩
    have hp := (insL_perm (k, c) r).map (·.1)
    refine hp.nodup_iff.2 ?_
    rw [List.map_cons, List.nodup_cons]
    refine ⟨fun h => ?_, h2⟩
    obtain ⟨y, hy, e⟩ := List.mem_map.1 h
    exact h3 y hy e
  have hsub : (notK k m).Sublist m := List.filter_sublist
  have hns : Srt (notK k m) := List.Pairwise.sublist hsub hs
  have hnk : Keys (notK k m) := (hsub.map _).nodup hk
  unfold refOffer
  split
  · rename_i h
    refine ⟨(hins _ hns hnk notK_ne).1, (hins _ hns hnk notK_ne).2, ?_⟩
    have := hsub.length_le
    simp only [insL_len]
    omega
  · rename_i h
    have hnn : notK k m = m := by
      have := hsub.length_le
      exact hsub.eq_of_length (by omega)
    split
    · rename_i hc
      have hd : (m.dropLast).Sublist m := List.dropLast_sublist m
      have hdk : ∀ y ∈ m.dropLast, y.1 ≠ k := fun y hy => by
        have := hd.subset hy
        rw [← hnn] at this
        exact notK_ne y this
      have h1 := hins m.dropLast (List.Pairwise.sublist hd hs) ((hd.map _).nodup hk) hdk
      refine ⟨h1.1, h1.2, ?_⟩
      simp only [insL_len, List.length_dropLast]
      omega
    · exact ⟨hs, hk, hl⟩

/-! Sketches that are right. -/
def fstR (s : Us) : List (List Int) := (s.2.2.headD (0, [], [])).2.1
noncomputable def lvB (s : Us) (j : Nat) (l : Lv) : Bool := okB l.2.1 && (decide (l.1 = hrow s.1 ((j : Int) + 1)) && (decide (l.2.1.length = (fstR s).length) && (decide ((l.2.1.headD []).length = ((fstR s).headD []).length) && (decide ((l.2.2.length : Int) ≤ s.2.1) && topB l.2.2))))
structure LvOk (s : Us) (j : Nat) (l : Lv) : Prop where
  ok : OkR l.2.1
  seed : l.1 = hrow s.1 ((j : Int) + 1)
  rows : l.2.1.length = (fstR s).length
  cols : (l.2.1.headD []).length = ((fstR s).headD []).length
  room : (l.2.2.length : Int) ≤ s.2.1
  srt : Srt l.2.2
  keys : Keys l.2.2
theorem lvB_iff {s : Us} {j : Nat} {l : Lv} : lvB s j l = true ↔ LvOk s j l := by
  unfold lvB
  simp only [Bool.and_eq_true, decide_eq_true_eq, okB_iff, topB_iff]
  exact ⟨fun ⟨a, b, c, d, e, f, g⟩ => ⟨a, b, c, d, e, f, g⟩, fun ⟨a, b, c, d, e, f, g⟩ => ⟨a, b, c, d, e, f, g⟩⟩
structure UOk (s : Us) : Prop where
  r1 : 1 ≤ s.2.1
  r2 : s.2.1 ≤ 64
  l1 : 1 ≤ s.2.2.length
  l2 : s.2.2.length ≤ 16
  lv : ∀ j, ∀ h : j < s.2.2.length, LvOk s j s.2.2[j]
open Classical in
noncomputable def uOk (s : Us) : Bool := decide (UOk s)
open Classical in
theorem uOk_iff {s : Us} : uOk s = true ↔ UOk s := by unfold uOk; exact decide_eq_true_iff
open Classical in
theorem uOk_no {s : Us} (h : ¬ UOk s) : uOk s = false := by unfold uOk; exact decide_eq_false h
theorem uOk_lv {s : Us} {j : Nat} (h : j < s.2.2.length) (hb : lvB s j s.2.2[j] = false) : uOk s = false := uOk_no fun u => by
  rw [lvB_iff.2 (u.lv j h)] at hb; cases hb
/-- Of any data of the type. -/
structure UGood (s : Us) : Prop where
  s0 : 0 ≤ s.1
  s1 : s.1 < 18446744073709551616
  len : s.2.2.length < 4611686018427387904
  lv : ∀ l ∈ s.2.2, 0 ≤ l.1 ∧ l.1 < 18446744073709551616 ∧ l.2.1.length < 4611686018427387904 ∧ (∀ r ∈ l.2.1, r.length < 4611686018427387904) ∧ l.2.2.length < 4611686018427387904
/-- A key's level. -/
def uLev (s : Us) (key : ByteArray) : Int := hlev (hrow s.1 0) key ((s.2.2.length : Int) - 1)
theorem uLev_range {s : Us} (h : 1 ≤ s.2.2.length) (key : ByteArray) : 0 ≤ uLev s key ∧ uLev s key < s.2.2.length := by
  have := hlev_range (hrow s.1 0) key ((s.2.2.length : Int) - 1)
  unfold uLev
  omega
/-- What a level tells of a key. -/
def lvGet (l : Lv) (key : ByteArray) : Int := med (getL l.1 key l.2.1)
def addL (l : Lv) (key : ByteArray) : List (List Int) := addRows l.1 key 1 l.2.1
def updL (room : Int) (key : ByteArray) (l : Lv) : Lv := (l.1, addL l key, (refOffer room l.2.2 key (med (getL l.1 key (addL l key)))).1)
def fitL (key : ByteArray) (l : Lv) : Prop := ∀ j, ∀ h : j < l.2.1.length, fitsB (newV l.1 key 1 (j : Int) l.2.1[j]) = true
/-- The levels, so many of them with a key more. -/
def lvTo (s : Us) (key : ByteArray) (k : Nat) : List Lv := s.2.2.mapIdx fun j l => if j < k then updL s.2.1 key l else l
theorem lvTo_len (s : Us) (key : ByteArray) (k : Nat) : (lvTo s key k).length = s.2.2.length := by simp [lvTo]
theorem lvTo_zero (s : Us) (key : ByteArray) : lvTo s key 0 = s.2.2 := by
  apply List.ext_getElem
  · simp [lvTo]
  · intro j h1 h2; simp [lvTo]
theorem lvTo_at (s : Us) (key : ByteArray) (k : Nat) (h : k < s.2.2.length) : (lvTo s key k)[k]'(by rw [lvTo_len]; exact h) = s.2.2[k] := by simp [lvTo]
theorem lvTo_set (s : Us) (key : ByteArray) (k : Nat) (h : k < s.2.2.length) : (lvTo s key k).set k (updL s.2.1 key s.2.2[k]) = lvTo s key (k + 1) := by
  apply List.ext_getElem
  · simp [lvTo]
  · intro j h1 h2
    rw [List.getElem_set]
    simp only [lvTo, List.getElem_mapIdx]
    by_cases hj : k = j
    · subst hj; simp
    · rw [if_neg hj]
      by_cases hj2 : j < k
      · rw [if_pos hj2, if_pos (by omega)]
      · rw [if_neg hj2, if_neg (by omega)]
/-- A key more. -/
def uAdd (s : Us) (key : ByteArray) : Us := (s.1, s.2.1, lvTo s key ((uLev s key).toNat + 1))
def fitU (s : Us) (key : ByteArray) : Prop := ∀ j, ∀ h : j < s.2.2.length, (j : Int) ≤ uLev s key → fitL key s.2.2[j]
end Go.Proofs.YtngpmpmhpggpgaaGreatDoorF
end

section
/- Is a sketch of levels right? -/
set_option maxRecDepth 8192
set_option maxHeartbeats 2000000
namespace Go.Proofs.YtngpmpmhpggpgaaGreatDoorF
open Go Go.Proofs.Vm

theorem stands (a b : Itm) : TV.pu 79 [.agg (cItm a), .agg (cItm b)] = some (cI .i64 (ordI a b)) := by
  refine run79 (by simp) ?_
  simp -implicitDefEqProofs [Tryz.f79, Compare, Or, cItm, ordI, cmpPu, vbuildSlice_eq es53 el3, cellsOf?, fzParts, setAll, rchParts, rch]
theorem index_itms {g : CV} {caps : List CV} {f : FuncId} (hg : g = .fn f caps) {p : Itm → Bool} {r : List Itm} (hp : ∀ x ∈ r, TV.pu f (.agg (cItm x) :: caps.map .one) = some (cB (p x))) (hl : r.length < 9223372036854775807) :
    TV.pu 74 [.one (cItms r), .one g] = some (cI .i64 (idxF p r)) := by
  subst hg
  refine run74 (by simp) ?_
  simp [Tryz.f74, cItms]
  obtain ⟨I, hI⟩ : ∃ I : Nat → St → Prop, ∀ k s', I k s' ↔ (∃ e j, s' = ⟨e, []⟩ ∧ e 0 = .one (.c (cItms r)) ∧ e 1 = .one (.c (.fn f caps)) ∧ e 7 = vI .i64 r.length ∧ e 8 = vI .i64 (j : Nat) ∧ j + k = r.length ∧ ∀ q, q < j → ∀ x, r[q]? = some x → p x = false) := ⟨_, fun _ _ => Iff.rfl⟩
  refine wpL_ind I ?_ r.length _ ((hI _ _).2 ⟨_, 0, rfl, by simp [cItms], by simp, by simp, by simp, by omega, by simp⟩)
  intro k st hst
  obtain ⟨e, j, rfl, e0, e1, e7, e8, hk, hno⟩ := (hI _ _).1 hst
  by_cases c : j < r.length
  · have hx : r[j]? = some r[j] := List.getElem?_eq_getElem c
    have hpj := hp r[j] (List.getElem_mem c)
    have w1 : IntKind.i64.wrap ((j : Int) + 1) = ((j + 1 : Nat) : Int) := by rw [w64_id (by omega) (by omega)]; omega
    simp only [cItm] at hpj
    simp [e0, e1, e7, e8, cItms, cItm, c, hpj, w1]
    by_cases hj : p r[j] = true
    · simp [hj, idxF_at p r j c hj hno]
    · simp [hj]
      refine ⟨k - 1, by omega, (hI _ _).2 ⟨_, j + 1, rfl, by simp [e0], by simp [e1], by simp [e7], by simp, by omega, ?_⟩⟩
      intro q hq x hx2
      by_cases hqj : q = j
      · subst hqj
        rw [hx] at hx2
        cases hx2
        simpa using hj
      · exact hno q (by omega) x hx2
  · have c' : ¬ (j : Int) < (r.length : Int) := by omega
    simp [e0, e1, e7, e8, c']
    rw [idxF_none p r fun q hq => hno q (by omega)]
theorem top_lam (x y : Itm) : TV.pu 80 [.agg (cItm y), .one (.cptr (cItm x))] = some (cB (decide (y.1 = x.1))) := by
  refine run80 (by simp) ?_
  by_cases h : y.1 = x.1
  · simp -implicitDefEqProofs [Tryz.f80, cItm, sbin_eql, h]
  · simp -implicitDefEqProofs [Tryz.f80, cItm, sbin_eql, toList_inj, h]
theorem idx_key {l : List Itm} {i : Nat} (c : i < l.length) : ∃ q, ∃ hq : q ≤ i, idxF (fun y => decide (y.1 = l[i].1)) l = (q : Int) ∧ (l[q]'(by omega)).1 = l[i].1 ∧ ∀ p, ∀ hp : p < q, (l[p]'(by omega)).1 ≠ l[i].1 := by
  obtain ⟨q, hq, h1, h2⟩ : ∃ q, ∃ hq : q ≤ i, (l[q]'(by omega)).1 = l[i].1 ∧ ∀ p, ∀ hp : p < q, (l[p]'(by omega)).1 ≠ l[i].1 := by
    have : ∀ n, ∀ i', ∀ hi : i' ≤ i, i' < n → (l[i']'(by omega)).1 = l[i].1 → ∃ q, ∃ hq : q ≤ i, (l[q]'(by omega)).1 = l[i].1 ∧ ∀ p, ∀ hp : p < q, (l[p]'(by omega)).1 ≠ l[i].1 := by
      intro n
      induction n with
      | zero => intro i' _ h; omega
      | succ n ih =>
        intro i' hi hn he
        by_cases hx : ∃ p, ∃ hp : p < i', (l[p]'(by omega)).1 = l[i].1
        · obtain ⟨p, hp, hpe⟩ := hx
          exact ih p (by omega) (by omega) hpe
        · exact ⟨i', hi, he, fun p hp e => hx ⟨p, hp, e⟩⟩
    exact this (i + 1) i (Nat.le_refl _) (by omega) rfl
  refine ⟨q, hq, ?_, h1, h2⟩
  exact idxF_at _ _ q (by omega) (decide_eq_true h1) fun p hp x hx => by
    obtain ⟨hp2, rfl⟩ := List.getElem?_eq_some_iff.1 hx
    exact decide_eq_false (h2 p hp)
theorem univ_top (l : List Itm) (hl : l.length < 4611686018427387904) : TV.pu 51 [.one (cItms l)] = some (cB (topB l)) := by
  refine run51 (by simp) ?_
  obtain ⟨R, hR⟩ : ∃ R, topB l = R := ⟨_, rfl⟩
  rw [hR]
  simp -implicitDefEqProofs [Tryz.f51, cItms]
  obtain ⟨I, hI⟩ : ∃ I : Nat → St → Prop, ∀ k s', I k s' ↔ (∃ e i L, s' = ⟨e, L⟩ ∧ e 0 = .one (.c (cItms l)) ∧ e 5 = .one (.c (cItms l)) ∧ e 6 = vI .i64 l.length ∧ e 7 = vI .i64 (i : Nat) ∧ (i + k = l.length) ∧ (∀ q, ∀ h0 : 0 < q, ∀ hq : q < l.length, q < i → ordI (l[q - 1]'(by omega)) l[q] < 0) ∧ (∀ p q, ∀ hq : q < l.length, ∀ hp : p < q, q < i → l[p].1 ≠ l[q].1)) := ⟨_, fun _ _ => Iff.rfl⟩
  refine wpL_ind I ?_ l.length _ ((hI _ _).2 ⟨_, 0, _, (by first | rfl | (simp [cItms]; done) | (simp [cItms]; rfl) | (simp [cItms]; and_intros <;> rfl)), by simp [cItms], by simp [cItms], by simp, by simp, by omega, fun q _ _ h => absurd h (Nat.not_lt_zero _), fun p q _ _ h => absurd h (Nat.not_lt_zero _)⟩)
  intro k stI hstI
  obtain ⟨e, i, L, rfl, e0, e5, e6, e7, hk, ha, hn⟩ := (hI _ _).1 hstI
  by_cases c : i < l.length
  rotate_left
  · have hRt : R = true := by
      rw [← hR, topB_iff]
      exact ⟨srt_of_adj fun q h0 hq => ha q h0 hq (by omega), keys_iff.2 fun p q hq hp => hn p q hq hp (by omega)⟩
    simp -implicitDefEqProofs [e6, e7, c, hRt]
  have w_i : IntKind.i64.wrap ((i : Int) + 1) = ((i + 1 : Nat) : Int) := by rw [w64_id (by omega) (by omega)]; omega
  obtain ⟨q, hq, hix, hqe, hqn⟩ := idx_key c
  have hI2 := index_itms (g := .fn 80 [.cptr (cItm l[i])]) rfl (p := fun y => decide (y.1 = l[i].1)) (r := l) (fun x _ => top_lam l[i] x) (by omega)
  rw [hix] at hI2
  simp only [cItms, cItm] at hI2
  have hlt : ((q : Int) < (i : Int)) ∨ ¬ ((q : Int) < (i : Int)) := Classical.em _
  by_cases c0 : 0 < i
  · have c0' : 0 < (i : Int) := by omega
    have hs := stands l[i - 1] l[i]
    simp only [cItm] at hs
    have w1 : IntKind.i64.wrap ((i : Int) - 1) = ((i - 1 : Nat) : Int) := by rw [w64_id (by omega) (by omega)]; omega
    have c1 : i - 1 < l.length := by omega
    by_cases d : 0 ≤ ordI l[i - 1] l[i]
    · have hRf : R = false := by
        rw [← hR]
        exact topB_no fun h => by have := srt_adj h.1 c0 c; omega
      simp -implicitDefEqProofs [e0, e5, e6, e7, c, c1, c0, w1, hs, d, hRf, cItms, cItm, vstore, cellsOf?, Ent.wrO, wr]
    · by_cases d2 : q < i
      · have d2' : (q : Int) < i := by omega
        have hRf : R = false := by
          rw [← hR]
          exact topB_no fun h => keys_iff.1 h.2 q i c d2 hqe
        simp -implicitDefEqProofs [e0, e5, e6, e7, c, c1, c0, w1, hs, d, d2', hI2, hRf, cItms, cItm, vstore, cellsOf?, Ent.wrO, wr, rcha, rch, frzAll]
      · have d2' : ¬ (q : Int) < i := by omega
        simp -implicitDefEqProofs [e0, e5, e6, e7, c, c1, c0, w1, hs, d, d2', hI2, w_i, cItms, cItm, vstore, cellsOf?, Ent.wrO, wr, rcha, rch, frzAll]
        exact ⟨k - 1, by omega, (hI _ _).2 ⟨_, i + 1, _, (by first | rfl | (simp [cItms]; done) | (simp [cItms]; rfl) | (simp [cItms]; and_intros <;> rfl)), by simp [e0, cItms], by simp [e5, cItms], by simp [e6], by simp, by omega, (fun q h0 hq h => if e : q = i then by subst e; omega else ha q h0 hq (by omega)), (fun p q' hq' hp h => if e : q' = i then by subst e; exact hqn p (by omega) else hn p q' hq' hp (by omega))⟩⟩
  · have hi0 : i = 0 := by omega
    subst hi0
    have hq0 : q = 0 := by omega
    subst hq0
    have w1 : IntKind.i64.wrap 1 = 1 := by decide
    simp -implicitDefEqProofs [e0, e5, e6, e7, c, hI2, cItms, cItm, vstore, cellsOf?, Ent.wrO, wr, rcha, rch, frzAll]
    exact ⟨k - 1, by omega, (hI _ _).2 ⟨_, 1, _, (by first | rfl | (simp [cItms, w1]; done) | (simp [cItms, w1]; rfl) | (simp [cItms, w1]; and_intros <;> rfl)), by simp [e0, cItms, w1], by simp [e5, cItms, w1], by simp [e6, w1], by simp [w1], by omega, (fun q h0 hq h => absurd h (by omega)), (fun p q' hq' hp h => absurd h (by omega))⟩⟩
end Go.Proofs.YtngpmpmhpggpgaaGreatDoorF
end

section
/- The middle of numbers: plain facts. -/
set_option maxRecDepth 8192
set_option maxHeartbeats 2000000
namespace Go.Proofs.YtngpmpmhpggpgaaGreatDoorF
open Go Go.Proofs.Vm

theorem ssign_sq (seed : Int) (key : ByteArray) (i : Int) : ssign seed key i * ssign seed key i = 1 := by
  rcases ssign_or seed key i with h | h <;> rw [h] <;> rfl
theorem getL_add {rows : List (List Int)} (hok : OkR rows) (seed : Int) (key : ByteArray) (n : Int) : getL seed key (addRows seed key n rows) = (getL seed key rows).map (· + n) := by
  apply List.ext_getElem
  · simp [getL, addRows_len]
  · intro i h1 h2
    have hi : i < rows.length := by simpa [getL] using h2
    have hcell := hcell_range (hrow seed (2 * (i : Int))) key (rows[i].length : Int) (by have := (hok.row _ (List.getElem_mem hi)).1; omega)
    have hql : (scell seed key (i : Int) rows[i].length).toNat < rows[i].length := by
      have h1 : scell seed key (i : Int) rows[i].length < rows[i].length := hcell.2
      have h2 : 0 ≤ scell seed key (i : Int) rows[i].length := hcell.1
      omega
    have hl : (updRow seed key n (i : Int) rows[i]).length = rows[i].length := by simp [updRow]
    simp only [getL, List.getElem_mapIdx, List.getElem_map, addRows_at i hi]
    rw [hl]
    have hg : (updRow seed key n (i : Int) rows[i]).getD (scell seed key (i : Int) rows[i].length).toNat 0 = newV seed key n (i : Int) rows[i] := by
      unfold updRow
      rw [List.getD_eq_getElem?_getD, List.getElem?_set_self hql]
      rfl
    rw [hg, newV, Int.mul_add, ← Int.mul_assoc, ssign_sq, Int.one_mul]
theorem med_const {l : List Int} (h : l ≠ []) (n : Int) (hc : ∀ x ∈ l, x = n) : med l = n := hc _ (med_mem h)

theorem srt_length (l : List Int) : (srt l).length = l.length := by simp [srt]
theorem srt_perm (l : List Int) : (srt l).Perm l := List.mergeSort_perm l _
theorem srt_sorted (l : List Int) : (srt l).Pairwise (fun x y => x ≤ y) := by
  have h := List.pairwise_mergeSort (le := fun x y : Int => decide (x ≤ y)) (fun a b c h1 h2 => by simp at *; omega) (fun a b => by simp; omega) l
  exact h.imp (fun h => by simpa using h)
theorem srt_le (l : List Int) (i j : Nat) (hij : i ≤ j) (hj : j < (srt l).length) : (srt l)[i] ≤ (srt l)[j] := by
  by_cases e : i = j
  · subst e; exact Int.le_refl _
  · exact List.pairwise_iff_getElem.1 (srt_sorted l) i j (by omega) hj (by omega)
theorem count_take (l : List Int) (p : Int → Bool) (m : Nat) (hp : ∀ i, i < m → ∀ (h : i < l.length), p l[i] = true) (hm : m ≤ l.length) : m ≤ l.countP p := by
  have e := List.take_append_drop m l
  rw [← e, List.countP_append]
  have : (l.take m).countP p = (l.take m).length := List.countP_eq_length.2 (fun x hx => by
    obtain ⟨i, hi, rfl⟩ := List.getElem_of_mem hx
    rw [List.length_take] at hi
    rw [List.getElem_take]
    exact hp i (by omega) (by omega))
  rw [this, List.length_take]; omega
theorem count_drop (l : List Int) (p : Int → Bool) (m : Nat) (hp : ∀ i, m ≤ i → ∀ (h : i < l.length), p l[i] = true) : l.length - m ≤ l.countP p := by
  have e := List.take_append_drop m l
  rw [← e, List.countP_append]
  have : (l.drop m).countP p = (l.drop m).length := List.countP_eq_length.2 (fun x hx => by
    obtain ⟨i, hi, rfl⟩ := List.getElem_of_mem hx
    rw [List.length_drop] at hi
    rw [List.getElem_drop]
    exact hp (m + i) (by omega) (by omega))
  rw [this, List.length_drop, List.take_append_drop]; omega
theorem count_none (l : List Int) (p : Int → Bool) (m : Nat) (hp : ∀ i, m ≤ i → ∀ (h : i < l.length), p l[i] = false) : l.countP p ≤ m := by
  have e := List.take_append_drop m l
  rw [← e, List.countP_append]
  have h2 : (l.drop m).countP p = 0 := List.countP_eq_zero.2 (fun x hx => by
    obtain ⟨i, hi, rfl⟩ := List.getElem_of_mem hx
    rw [List.length_drop] at hi
    rw [List.getElem_drop, hp (m + i) (by omega) (by omega)]
    simp)
  have h1 : (l.take m).countP p ≤ (l.take m).length := List.countP_le_length
  rw [List.length_take] at h1
  omega
theorem count_none' (l : List Int) (p : Int → Bool) (m : Nat) (hp : ∀ i, i < m → ∀ (h : i < l.length), p l[i] = false) : l.countP p ≤ l.length - m := by
  have e := List.take_append_drop m l
  have h2 : (l.take m).countP p = 0 := List.countP_eq_zero.2 (fun x hx => by
    obtain ⟨i, hi, rfl⟩ := List.getElem_of_mem hx
    rw [List.length_take] at hi
    rw [List.getElem_take, hp i (by omega) (by omega)]
    simp)
  have h1 : (l.drop m).countP p ≤ (l.drop m).length := List.countP_le_length
  rw [List.length_drop] at h1
  have h3 : l.countP p = (l.take m).countP p + (l.drop m).countP p := by rw [← List.countP_append, e]
  omega
theorem med_get {l : List Int} (h : l ≠ []) : ∃ hm : l.length / 2 < (srt l).length, med l = (srt l)[l.length / 2] := by
  have hp : 0 < l.length := List.length_pos_iff.2 h
  have hm : l.length / 2 < (srt l).length := by rw [srt_length]; omega
  exact ⟨hm, by unfold med; rw [List.getD_eq_getElem?_getD, List.getElem?_eq_getElem hm]; rfl⟩
/-- More than half of a list's numbers are at least so big: then so is the middle one. -/
theorem med_ge {l : List Int} (h : l ≠ []) (v : Int) (hc : l.length / 2 < l.countP (fun x => decide (v ≤ x))) : v ≤ med l := by
  obtain ⟨hm, e⟩ := med_get h
  rw [← (srt_perm l).countP_eq] at hc
  rw [e]
  by_cases c : v ≤ (srt l)[l.length / 2]
  · exact c
  · exfalso
    have hl := srt_length l
    have h1 := count_none' (srt l) (fun x => decide (v ≤ x)) (l.length / 2 + 1) (fun i hi hx => decide_eq_false (by
      have := srt_le l i (l.length / 2) (by omega) hm
      omega))
    omega
theorem med_le {l : List Int} (h : l ≠ []) (_ho : l.length % 2 = 1) (v : Int) (hc : l.length / 2 < l.countP (fun x => decide (x ≤ v))) : med l ≤ v := by
  obtain ⟨hm, e⟩ := med_get h
  rw [← (srt_perm l).countP_eq] at hc
  rw [e]
  by_cases c : (srt l)[l.length / 2] ≤ v
  · exact c
  · exfalso
    have h1 := count_none (srt l) (fun x => decide (x ≤ v)) (l.length / 2) (fun i hi hx => decide_eq_false (by
      have := srt_le l (l.length / 2) i hi hx
      omega))
    omega
end Go.Proofs.YtngpmpmhpggpgaaGreatDoorF
end

section
/- Items added, cell by cell. -/
set_option maxRecDepth 8192
set_option maxHeartbeats 2000000
namespace Go.Proofs.YtngpmpmhpggpgaaGreatDoorF
open Go Go.Proofs.Vm

def addAll (seed : Int) (rows : List (List Int)) (l : List Itm) : List (List Int) := l.foldl (fun r x => addRows seed x.1 x.2 r) rows

abbrev Sh := Nat → Nat → Nat → Int
def shiftR (f : Sh) (rows : List (List Int)) : List (List Int) := rows.mapIdx fun i r => r.mapIdx fun q v => v + f i r.length q
def one1 (seed : Int) (key : ByteArray) (n : Int) : Sh := fun i len q => if (scell seed key (i : Int) (len : Int)).toNat = q then ssign seed key (i : Int) * n else 0
def dlt (seed : Int) : List Itm → Sh
  | [], _, _, _ => 0
  | x :: t, i, len, q => one1 seed x.1 x.2 i len q + dlt seed t i len q

theorem shiftR_len (f : Sh) (rows : List (List Int)) : (shiftR f rows).length = rows.length := by simp [shiftR]
theorem shiftR_at (f : Sh) (rows : List (List Int)) (i : Nat) (h : i < rows.length) (h2 : i < (shiftR f rows).length) : (shiftR f rows)[i] = rows[i].mapIdx fun q v => v + f i rows[i].length q := by simp [shiftR]
theorem ext2 {a b : List (List Int)} (h : a.length = b.length) (h2 : ∀ i, ∀ h1 : i < a.length, ∀ h2 : i < b.length, a[i].length = b[i].length ∧ ∀ q, ∀ g1 : q < a[i].length, ∀ g2 : q < b[i].length, a[i][q] = b[i][q]) : a = b := by
  apply List.ext_getElem h
  intro i g1 g2
  obtain ⟨h3, h4⟩ := h2 i g1 g2
  exact List.ext_getElem h3 h4
theorem addRows_shift (seed : Int) (key : ByteArray) (n : Int) (rows : List (List Int)) : addRows seed key n rows = shiftR (one1 seed key n) rows := by
  apply List.ext_getElem
  · rw [addRows_len, shiftR_len]
  · intro i h1 h2
    have h : i < rows.length := by rw [addRows_len] at h1; exact h1
    rw [addRows_at i h, shiftR_at _ _ i h]
    apply List.ext_getElem
    · simp [updRow]
    · intro q g1 g2
      simp only [updRow, List.getElem_set, List.getElem_mapIdx, one1]
      by_cases c : (scell seed key (i : Int) rows[i].length).toNat = q
      · rw [if_pos c, if_pos c]
        have hq : q < rows[i].length := by simpa [updRow] using g1
        simp [newV, c, hq]
      · rw [if_neg c, if_neg c, Int.add_zero]
theorem shiftR_shiftR (f g : Sh) (rows : List (List Int)) : shiftR g (shiftR f rows) = shiftR (fun i len q => f i len q + g i len q) rows := by
  apply ext2
  · simp [shiftR_len]
  · intro i h1 h2
    have h : i < rows.length := by rw [shiftR_len] at h2; exact h2
    have h' : i < (shiftR f rows).length := by rw [shiftR_len]; exact h
    rw [shiftR_at _ _ i h', shiftR_at _ _ i h, shiftR_at _ _ i h]
    refine ⟨by simp, fun q g1 g2 => ?_⟩
    simp [Int.add_assoc]
theorem shiftR_congr {f g : Sh} (h : ∀ i len q, f i len q = g i len q) (rows : List (List Int)) : shiftR f rows = shiftR g rows := by
  have : f = g := by funext i len q; exact h i len q
  rw [this]
theorem shiftR_zero (rows : List (List Int)) : shiftR (fun _ _ _ => 0) rows = rows := by
  apply ext2
  · simp [shiftR_len]
  · intro i h1 h2
    rw [shiftR_at _ _ i h2]
    exact ⟨by simp, fun q g1 g2 => by simp⟩
theorem addAll_shift (seed : Int) : ∀ (l : List Itm) (rows : List (List Int)), addAll seed rows l = shiftR (dlt seed l) rows
  | [], rows => by
    rw [show dlt seed [] = fun _ _ _ => 0 from by funext i len q; rfl, shiftR_zero]; rfl
  | x :: t, rows => by
    rw [show addAll seed rows (x :: t) = addAll seed (addRows seed x.1 x.2 rows) t from rfl, addAll_shift seed t, addRows_shift, shiftR_shiftR]
    rfl
theorem addAll_len (seed : Int) (l : List Itm) (rows : List (List Int)) : (addAll seed rows l).length = rows.length := by rw [addAll_shift, shiftR_len]
end Go.Proofs.YtngpmpmhpggpgaaGreatDoorF
end

section
/- What rows tell of a key. -/
set_option maxRecDepth 8192
set_option maxHeartbeats 2000000
namespace Go.Proofs.YtngpmpmhpggpgaaGreatDoorF
open Go Go.Proofs.Vm

/-- What was added for the key, and for the others of its cell in row i (of so many cells). -/
def ownS (key : ByteArray) : List Itm → Int
  | [] => 0
  | x :: t => (if x.1 = key then x.2 else 0) + ownS key t
def othS (seed : Int) (key : ByteArray) (cols : Nat) (i : Nat) : List Itm → Int
  | [] => 0
  | x :: t => (if x.1 = key then 0 else if scell seed x.1 (i : Int) (cols : Int) = scell seed key (i : Int) (cols : Int) then max x.2 (-x.2) else 0) + othS seed key cols i t
/-- What is told of a key in row i. -/
def told (seed : Int) (key : ByteArray) (cols i : Nat) (l : List Itm) : Int := ssign seed key (i : Int) * dlt seed l i cols (scell seed key (i : Int) (cols : Int)).toNat
theorem told_near (seed : Int) (key : ByteArray) (cols i : Nat) (hc : 1 ≤ cols) : ∀ l : List Itm, ownS key l - othS seed key cols i l ≤ told seed key cols i l ∧ told seed key cols i l ≤ ownS key l + othS seed key cols i l
  | [] => by simp [told, ownS, othS, dlt]
  | x :: t => by
    have ih := told_near seed key cols i hc t
    have cx := hcell_range (hrow seed (2 * (i : Int))) x.1 (cols : Int) (by omega)
    have ck := hcell_range (hrow seed (2 * (i : Int))) key (cols : Int) (by omega)
    have e1 : told seed key cols i (x :: t) = ssign seed key (i : Int) * one1 seed x.1 x.2 i cols (scell seed key (i : Int) (cols : Int)).toNat + told seed key cols i t := by
      simp only [told, dlt, Int.mul_add]
    rw [e1]
    simp only [ownS, othS, one1]
    by_cases e : x.1 = key
    · rw [if_pos e, if_pos e, if_pos (by rw [e]), e, ← Int.mul_assoc, ssign_sq, Int.one_mul]
      omega
    · rw [if_neg e, if_neg e]
      by_cases c : scell seed x.1 (i : Int) (cols : Int) = scell seed key (i : Int) (cols : Int)
      · rw [if_pos c, if_pos (by rw [c])]
        rcases ssign_or seed key (i : Int) with h1 | h1 <;> rcases ssign_or seed x.1 (i : Int) with h2 | h2 <;> rw [h1, h2] <;> omega
      · have cx1 : 0 ≤ scell seed x.1 (i : Int) (cols : Int) := cx.1
        have ck1 : 0 ≤ scell seed key (i : Int) (cols : Int) := ck.1
        rw [if_neg c, if_neg (by omega)]
        omega
theorem getL_zero {seed : Int} {key : ByteArray} {rows : List (List Int)} {cols : Nat} (l : List Itm) (hz : Within 0 rows) (hr : ∀ r ∈ rows, r.length = cols) (hc : 1 ≤ cols) (i : Nat) (h : i < rows.length) (h2 : i < (getL seed key (addAll seed rows l)).length) :
    (getL seed key (addAll seed rows l))[i] = told seed key cols i l := by
  have hl := hr _ (List.getElem_mem h)
  have ck := hcell_range (hrow seed (2 * (i : Int))) key (cols : Int) (by omega)
  have ck1 : 0 ≤ scell seed key (i : Int) (cols : Int) := ck.1
  have ck2 : scell seed key (i : Int) (cols : Int) < cols := ck.2
  have hq : (scell seed key (i : Int) (cols : Int)).toNat < rows[i].length := by rw [hl]; omega
  have hz2 := hz _ (List.getElem_mem h) _ (List.getElem_mem hq)
  have h3 : i < (addAll seed rows l).length := by rw [addAll_len]; exact h
  have e : (addAll seed rows l)[i] = rows[i].mapIdx fun q v => v + dlt seed l i rows[i].length q := by
    simp only [addAll_shift]
    exact shiftR_at _ _ i h _
  simp only [getL, List.getElem_mapIdx, e, told, List.length_mapIdx, hl]
  rw [List.getD_eq_getElem?_getD, List.getElem?_mapIdx, List.getElem?_eq_getElem hq]
  simp only [Option.map_some, Option.getD_some]
  rw [show rows[i][(scell seed key (i : Int) (cols : Int)).toNat] = 0 by omega, Int.zero_add]
end Go.Proofs.YtngpmpmhpggpgaaGreatDoorF
end

section
/- One level to which keys came, one after the other: plain facts. -/
set_option maxRecDepth 8192
set_option maxHeartbeats 2000000
namespace Go.Proofs.YtngpmpmhpggpgaaGreatDoorF
open Go Go.Proofs.Vm

theorem nodup_le : ∀ {a b : List ByteArray}, a.Nodup → (∀ x ∈ a, x ∈ b) → a.length ≤ b.length
  | [], b, _, _ => Nat.zero_le _
  | x :: a, b, h, hs => by
    have h' := List.nodup_cons.1 h
    have hx := hs x List.mem_cons_self
    have := nodup_le (b := b.erase x) h'.2 fun y hy => by
      have hne : y ≠ x := by rintro rfl; exact h'.1 hy
      exact (List.mem_erase_of_ne hne).2 (hs y (List.mem_cons_of_mem _ hy))
    rw [List.length_erase_of_mem hx] at this
    have hp := List.length_pos_of_mem hx
    simp only [List.length_cons]
    omega
theorem mem_notK {k : ByteArray} {m : List Itm} {y : Itm} : y ∈ notK k m ↔ y ∈ m ∧ y.1 ≠ k := by
  unfold notK
  rw [List.mem_filter, decide_eq_true_iff]
/-- An offer, where there is room for all that come. -/
theorem offer_in {room : Int} {m : List Itm} {k : ByteArray} {c : Int} {D : List ByteArray} (hk : Keys m) (hDl : (D.length : Int) ≤ room) (hm : ∀ y ∈ m, y.1 ∈ D) (hkD : k ∈ D) : refOffer room m k c = (insL (k, c) (notK k m), true) := by
  unfold refOffer
  by_cases h : ∃ x ∈ m, x.1 = k
  · obtain ⟨x, hx, e⟩ := h
    rw [if_pos (.inl (notK_lt hx e))]
  · have hn : notK k m = m := notK_self fun x hx e => h ⟨x, hx, e⟩
    have : (k :: m.map (·.1)).length ≤ D.length := nodup_le (List.nodup_cons.2 ⟨fun hh => by
      obtain ⟨x, hx, e⟩ := List.mem_map.1 hh
      exact h ⟨x, hx, e⟩, hk⟩) fun y hy => by
        rcases List.mem_cons.1 hy with rfl | hy
        · exact hkD
        · obtain ⟨x, hx, rfl⟩ := List.mem_map.1 hy
          exact hm x hx
    simp only [List.length_cons, List.length_map] at this
    rw [if_pos (.inr (by omega)), hn]
theorem mem_insL {x y : Itm} {m : List Itm} : y ∈ insL x m ↔ y = x ∨ y ∈ m := by rw [(insL_perm x m).mem_iff, List.mem_cons]
theorem offer_mem {room : Int} {m : List Itm} {k : ByteArray} {c : Int} {y : Itm} (h : y ∈ (refOffer room m k c).1) : y = (k, c) ∨ y ∈ m := by
  unfold refOffer at h
  split at h
  · rcases mem_insL.1 h with h | h
    · exact .inl h
    · exact .inr (mem_notK.1 h).1
  · split at h
    · rcases mem_insL.1 h with h | h
      · exact .inl h
      · exact .inr ((List.dropLast_sublist m).subset h)
    · exact .inr h

def lvZ (seed : Int) (rows cols : Nat) : Lv := (seed, List.replicate rows (List.replicate cols 0), [])
/-- A level to which keys came. -/
def lvFed (room : Int) (l : Lv) (ks : List ByteArray) : Lv := ks.foldl (fun l k => updL room k l) l
theorem lvFed_snoc (room : Int) (l : Lv) (ks : List ByteArray) (k : ByteArray) : lvFed room l (ks ++ [k]) = updL room k (lvFed room l ks) := by simp [lvFed]
def ones (ks : List ByteArray) : List Itm := ks.map fun k => (k, (1 : Int))
theorem addAll_snoc (seed : Int) (R : List (List Int)) (a : List Itm) (x : Itm) : addAll seed R (a ++ [x]) = addRows seed x.1 x.2 (addAll seed R a) := by simp [addAll]
theorem ones_snoc (ks : List ByteArray) (k : ByteArray) : ones (ks ++ [k]) = ones ks ++ [(k, 1)] := by simp [ones]
theorem ownS_ones (key : ByteArray) : ∀ ks : List ByteArray, ownS key (ones ks) = (ks.count key : Int)
  | [] => by simp [ones, ownS]
  | k :: r => by
    have ih := ownS_ones key r
    simp only [ones, List.map_cons, ownS] at ih ⊢
    rw [ih, List.count_cons]
    by_cases h : k = key <;> simp [h] <;> omega
theorem othS_ones {seed : Int} {key : ByteArray} {cols i : Nat} : ∀ {ks : List ByteArray}, (∀ k ∈ ks, k ≠ key → scell seed k (i : Int) (cols : Int) ≠ scell seed key (i : Int) (cols : Int)) → othS seed key cols i (ones ks) = 0
  | [], _ => rfl
  | k :: r, h => by
    have ih := othS_ones (ks := r) fun x hx => h x (List.mem_cons_of_mem _ hx)
    simp only [ones, List.map_cons, othS] at ih ⊢
    rw [ih]
    by_cases e : k = key
    · rw [if_pos e]; rfl
    · rw [if_neg e, if_neg (h k List.mem_cons_self e)]; rfl
/-- What a level is, that was fed. -/
structure LFed (room seed : Int) (rows cols : Nat) (ks : List ByteArray) (l : Lv) : Prop where
  fseed : l.1 = seed
  frows : l.2.1 = addAll seed (List.replicate rows (List.replicate cols 0)) (ones ks)
  ok : OkR l.2.1
  wi : Within (ks.length : Int) l.2.1
  len : l.2.1.length = rows
  hd : (l.2.1.headD []).length = cols
  srt : Srt l.2.2
  keys : Keys l.2.2
  froom : (l.2.2.length : Int) ≤ room
  seen : ∀ y ∈ l.2.2, y.1 ∈ ks
theorem fit_of {room seed : Int} {rows cols : Nat} {ks : List ByteArray} {l : Lv} (F : LFed room seed rows cols ks l) (hk : ks.length < 1000000) (key : ByteArray) : fitL key l :=
  addRows_fits (N := 1) F.wi F.ok (by omega) (by omega)
theorem LFed.step {room seed : Int} {rows cols : Nat} {ks : List ByteArray} {l : Lv} (F : LFed room seed rows cols ks l) (hr : 1 ≤ room) (hk : ks.length < 1000000) (k : ByteArray) : LFed room seed rows cols (ks ++ [k]) (updL room k l) := by
  have hT := offer_top F.srt F.keys F.froom hr k (med (getL l.1 k (addL l k)))
  have ho := addRows_ok (N := 1) F.wi F.ok (seed := l.1) (key := k) (n := 1) (by omega) (by omega)
  have h0 : 0 < l.2.1.length := by have := F.ok.odd; omega
  have e1 : ∀ m : List (List Int), (h : 0 < m.length) → m.headD [] = m[0] := fun m h => by cases m with | nil => simp at h | cons a t => rfl
  refine ⟨F.fseed, ?_, ho, ?_, ?_, ?_, hT.1, hT.2.1, hT.2.2, fun y hy => ?_⟩
  · show addRows l.1 k 1 l.2.1 = _
    rw [ones_snoc, addAll_snoc, ← F.frows, F.fseed]
  · have := addRows_within (N := 1) F.wi F.ok (seed := l.1) (key := k) (n := 1) (by omega)
    show Within ((ks ++ [k]).length : Int) (addRows l.1 k 1 l.2.1)
    simpa using this
  · show (addRows l.1 k 1 l.2.1).length = _
    rw [addRows_len, F.len]
  · show ((addRows l.1 k 1 l.2.1).headD []).length = _
    rw [e1 _ (by rw [addRows_len]; exact h0), addRows_at 0 h0, ← F.hd, e1 _ h0]
    simp [updRow]
  · rcases offer_mem hy with rfl | hy
    · simp
    · exact List.mem_append.2 (.inl (F.seen y hy))
theorem LFed.zero {room seed rows cols : Int} (h : newOk rows cols) (hr : 1 ≤ room) : LFed room seed rows.toNat cols.toNat [] (lvZ seed rows.toNat cols.toNat) := by
  have h1 := h.1
  refine ⟨rfl, rfl, new_ok h, (by show Within (([] : List ByteArray).length : Int) (List.replicate rows.toNat (List.replicate cols.toNat 0)); simpa using new_within), by simp [lvZ], ?_, List.Pairwise.nil, List.nodup_nil, by simp [lvZ]; omega, fun y hy => by simp [lvZ] at hy⟩
  obtain ⟨k, hk⟩ : ∃ k, rows.toNat = k + 1 := ⟨rows.toNat - 1, by omega⟩
  simp [lvZ, hk, List.replicate_succ]
theorem lvFed_is {room seed rows cols : Int} (h : newOk rows cols) (hr : 1 ≤ room) (ks : List ByteArray) (hk : ks.length < 1000000) : LFed room seed rows.toNat cols.toNat ks (lvFed room (lvZ seed rows.toNat cols.toNat) ks) := by
  obtain ⟨n, hn⟩ : ∃ n, n = ks.length := ⟨_, rfl⟩
  induction n generalizing ks with
  | zero =>
    have : ks = [] := List.length_eq_zero_iff.1 hn.symm
    subst this
    exact .zero h hr
  | succ n ih =>
    have hne : ks ≠ [] := by rintro rfl; simp at hn
    rw [← List.dropLast_concat_getLast hne] at hk ⊢
    rw [lvFed_snoc]
    simp only [List.length_append, List.length_singleton] at hk
    exact (ih ks.dropLast (by omega) (by rw [List.length_dropLast]; omega)).step hr (by omega) _
/-- Where there is room for all, all that came is there. -/
theorem lvFed_all {room seed rows cols : Int} (h : newOk rows cols) (hr : 1 ≤ room) {D : List ByteArray} (hD : (D.length : Int) ≤ room) : ∀ (n : Nat) (ks : List ByteArray), ks.length = n → n < 1000000 → (∀ k ∈ ks, k ∈ D) → ∀ k ∈ ks, ∃ c, (k, c) ∈ (lvFed room (lvZ seed rows.toNat cols.toNat) ks).2.2
  | 0, ks, hn, _, _, k, hk => by
    have : ks = [] := List.length_eq_zero_iff.1 hn
    subst this
    cases hk
  | n + 1, ks, hn, hl, hs, k, hk => by
    have hne : ks ≠ [] := by rintro rfl; simp at hn
    obtain ⟨a, b, rfl⟩ : ∃ a b, ks = a ++ [b] := ⟨_, _, (List.dropLast_concat_getLast hne).symm⟩
    simp only [List.length_append, List.length_singleton] at hn
    have F := lvFed_is (room := room) (seed := seed) h hr a (by omega)
    have ih := lvFed_all (seed := seed) h hr hD n a (by omega) (by omega) fun x hx => hs x (List.mem_append.2 (.inl hx))
    rw [lvFed_snoc]
    have ho := offer_in (c := med (getL (lvFed room (lvZ seed rows.toNat cols.toNat) a).1 b (addL (lvFed room (lvZ seed rows.toNat cols.toNat) a) b))) F.keys hD (fun y hy => hs _ (List.mem_append.2 (.inl (F.seen y hy)))) (hs b (by simp))
    show ∃ c, (k, c) ∈ (refOffer room _ b _).1
    rw [ho]
    by_cases e : k = b
    · exact ⟨_, mem_insL.2 (.inl (by rw [e]))⟩
    · rcases List.mem_append.1 hk with h1 | h1
      · obtain ⟨c, hc⟩ := ih k h1
        exact ⟨c, mem_insL.2 (.inr (mem_notK.2 ⟨hc, e⟩))⟩
      · exact absurd (List.mem_singleton.1 h1) e
/-- Alone in more than half of the rows: told as it came. -/
def alone (seed : Int) (rows cols : Nat) (D : List ByteArray) (key : ByteArray) : Prop := rows < 2 * (List.range rows).countP fun (i : Nat) => decide (∀ k ∈ D, k ≠ key → scell seed k (i : Int) (cols : Int) ≠ scell seed key (i : Int) (cols : Int))
theorem get_alone {room seed : Int} {rows cols : Nat} {ks : List ByteArray} {l : Lv} (F : LFed room seed rows cols ks l) {D : List ByteArray} (hs : ∀ k ∈ ks, k ∈ D) {key : ByteArray} (ha : alone seed rows cols D key) : med (getL l.1 key l.2.1) = (ks.count key : Int) := by
  have hlen : (getL l.1 key l.2.1).length = rows := by rw [getL_len, F.len]
  have h0 : 0 < rows := by have := F.ok.odd; rw [F.len] at this; omega
  have hne : getL l.1 key l.2.1 ≠ [] := by intro e; rw [e] at hlen; simp at hlen; omega
  have hodd : (getL l.1 key l.2.1).length % 2 = 1 := by rw [hlen, ← F.len]; exact F.ok.odd
  have hc1 : 1 ≤ cols := by
    have h1 := F.hd
    have e1 : l.2.1.headD [] ∈ l.2.1 := by
      have := F.ok.ne
      cases hh : l.2.1 with | nil => exact absurd hh this | cons a t => simp
    have := (F.ok.row _ e1).1
    omega
  have hall : ∀ i, ∀ h : i < (getL l.1 key l.2.1).length, (∀ k ∈ D, k ≠ key → scell seed k (i : Int) (cols : Int) ≠ scell seed key (i : Int) (cols : Int)) → (getL l.1 key l.2.1)[i] = (ks.count key : Int) := fun i h hi => by
    have hz : Within 0 (List.replicate rows (List.replicate cols (0 : Int))) := fun r hr v hv => by
      rw [List.eq_of_mem_replicate hr] at hv
      rw [List.eq_of_mem_replicate hv]; omega
    have h2 : i < (getL seed key (addAll seed (List.replicate rows (List.replicate cols 0)) (ones ks))).length := by rw [← F.frows, ← F.fseed]; exact h
    have hg := getL_zero (seed := seed) (key := key) (ones ks) hz (fun r hr => by rw [List.eq_of_mem_replicate hr]; simp) hc1 i (by rw [List.length_replicate]; omega) h2
    have hn := told_near seed key cols i hc1 (ones ks)
    have ho := othS_ones (seed := seed) (key := key) (cols := cols) (i := i) (ks := ks) fun k hk => hi k (hs k hk)
    rw [ho, ownS_ones] at hn
    have e : (getL l.1 key l.2.1)[i] = (getL seed key (addAll seed (List.replicate rows (List.replicate cols 0)) (ones ks)))[i] := by
      simp only [F.frows, F.fseed]
    rw [e, hg]
    omega
  have hcnt : ∀ p : Int → Bool, p (ks.count key : Int) = true → (getL l.1 key l.2.1).length / 2 < (getL l.1 key l.2.1).countP p := fun p hp => by
    have : (List.range rows).countP (fun (i : Nat) => decide (∀ k ∈ D, k ≠ key → scell seed k (i : Int) (cols : Int) ≠ scell seed key (i : Int) (cols : Int))) ≤ (getL l.1 key l.2.1).countP p := by
      have e : getL l.1 key l.2.1 = (List.range rows).map fun i => (getL l.1 key l.2.1).getD i 0 := by
        apply List.ext_getElem
        · simp [hlen]
        · intro i h1 h2
          simp [List.getD_eq_getElem?_getD, h1]
      rw [e, List.countP_map]
      refine List.countP_mono_left fun i hi hd => ?_
      have hi' : i < (getL l.1 key l.2.1).length := by rw [hlen]; exact List.mem_range.1 hi
      have := hall i hi' (of_decide_eq_true hd)
      show p ((getL l.1 key l.2.1).getD i 0) = true
      rw [List.getD_eq_getElem?_getD, List.getElem?_eq_getElem hi', this]
      exact hp
    unfold alone at ha
    omega
  have g1 := med_ge hne (ks.count key : Int) (hcnt _ (by simp))
  have g2 := med_le hne hodd (ks.count key : Int) (hcnt _ (by simp))
  omega
theorem lvFed_alone {room seed rows cols : Int} (h : newOk rows cols) (hr : 1 ≤ room) {D : List ByteArray} (hD : (D.length : Int) ≤ room) (ha : ∀ k ∈ D, alone seed rows.toNat cols.toNat D k) : ∀ (n : Nat) (ks : List ByteArray), ks.length = n → n < 1000000 → (∀ k ∈ ks, k ∈ D) → ∀ k ∈ ks, (k, (ks.count k : Int)) ∈ (lvFed room (lvZ seed rows.toNat cols.toNat) ks).2.2
  | 0, ks, hn, _, _, k, hk => by
    have : ks = [] := List.length_eq_zero_iff.1 hn
    subst this
    cases hk
  | n + 1, ks, hn, hl, hs, k, hk => by
    have hne : ks ≠ [] := by rintro rfl; simp at hn
    obtain ⟨a, b, rfl⟩ : ∃ a b, ks = a ++ [b] := ⟨_, _, (List.dropLast_concat_getLast hne).symm⟩
    simp only [List.length_append, List.length_singleton] at hn
    have F := lvFed_is (room := room) (seed := seed) h hr a (by omega)
    have F2 := F.step hr (by omega) b
    have ih := lvFed_alone (seed := seed) h hr hD ha n a (by omega) (by omega) fun x hx => hs x (List.mem_append.2 (.inl hx))
    rw [lvFed_snoc]
    have hg := get_alone F2 hs (ha b (hs b (by simp)))
    have ho := offer_in (c := med (getL (lvFed room (lvZ seed rows.toNat cols.toNat) a).1 b (addL (lvFed room (lvZ seed rows.toNat cols.toNat) a) b))) F.keys hD (fun y hy => hs _ (List.mem_append.2 (.inl (F.seen y hy)))) (hs b (by simp))
    show _ ∈ (refOffer room _ b _).1
    rw [ho]
    by_cases e : k = b
    · refine mem_insL.2 (.inl ?_)
      rw [e]
      exact congrArg (Prod.mk b) hg.symm
    · rcases List.mem_append.1 hk with h1 | h1
      · refine mem_insL.2 (.inr (mem_notK.2 ⟨?_, e⟩))
        have : (a ++ [b]).count k = a.count k := by
          rw [List.count_append, List.count_singleton]
          simp [Ne.symm e]
        rw [this]
        exact ih k h1
      · exact absurd (List.mem_singleton.1 h1) e
end Go.Proofs.YtngpmpmhpggpgaaGreatDoorF
end

section
/- Keys with how often they came, and the sums over levels: plain facts. -/
set_option maxRecDepth 8192
set_option maxHeartbeats 2000000
namespace Go.Proofs.YtngpmpmhpggpgaaGreatDoorF
open Go Go.Proofs.Vm

/-- Each key that came, once, with how often it came. -/
structure AllOk (ks : List ByteArray) (all : List Itm) : Prop where
  keys : Keys all
  mem : ∀ y : Itm, y ∈ all ↔ y.1 ∈ ks ∧ y.2 = (ks.count y.1 : Int)
theorem allOk_nil : AllOk [] [] := ⟨List.nodup_nil, fun y => by simp⟩
theorem AllOk.len {ks : List ByteArray} {all : List Itm} (h : AllOk ks all) : all.length ≤ ks.length := by
  have := nodup_le (a := all.map fun x : Itm => x.1) (b := ks) h.keys fun x hx => by
    obtain ⟨y, hy, rfl⟩ := List.mem_map.1 hx
    exact ((h.mem y).1 hy).1
  simpa using this
theorem AllOk.add {ks : List ByteArray} {all : List Itm} (h : AllOk ks all) {k : ByteArray} (hk : ∀ i, ∀ hi : i < all.length, all[i].1 ≠ k) : AllOk (ks ++ [k]) (all ++ [(k, 1)]) := by
  have hno : k ∉ ks := fun hm => by
    obtain ⟨i, hi, e⟩ := List.getElem_of_mem ((h.mem (k, (ks.count k : Int))).2 ⟨hm, rfl⟩)
    exact hk i hi (by rw [e])
  refine ⟨?_, fun y => ?_⟩
  · unfold Keys
    rw [List.map_append, List.nodup_append]
    refine ⟨h.keys, by simp, fun a ha b hb => ?_⟩
    simp only [List.map_cons, List.map_nil, List.mem_singleton] at hb
    subst hb
    rintro rfl
    obtain ⟨y, hy, e⟩ := List.mem_map.1 ha
    exact hno (e ▸ ((h.mem y).1 hy).1)
  · rw [List.mem_append, h.mem, List.mem_singleton, List.count_append, List.count_singleton, List.mem_append, List.mem_singleton]
    obtain ⟨a, c⟩ := y
    simp only [Prod.mk.injEq]
    by_cases e : a = k
    · subst e
      have : ks.count a = 0 := List.count_eq_zero.2 hno
      simp [this, hno]
    · simp [e, Ne.symm e]
theorem AllOk.inc {ks : List ByteArray} {all : List Itm} (h : AllOk ks all) {k : ByteArray} {i : Nat} (hi : i < all.length) (hk : all[i].1 = k) : AllOk (ks ++ [k]) (all.set i (k, all[i].2 + 1)) := by
  have hin := (h.mem all[i]).1 (List.getElem_mem hi)
  rw [hk] at hin
  refine ⟨?_, fun y => ?_⟩
  · have : (all.set i (k, all[i].2 + 1)).map (·.1) = all.map (·.1) := by
      rw [List.map_set]
      apply List.ext_getElem
      · simp
      · intro j h1 h2
        rw [List.getElem_set]
        split
        · rename_i e; subst e; simp [hk]
        · rfl
    unfold Keys
    rw [this]
    exact h.keys
  · have hm : y ∈ all.set i (k, all[i].2 + 1) ↔ y = (k, all[i].2 + 1) ∨ (y.1 ≠ k ∧ y ∈ all) := by
      constructor
      · intro hy
        obtain ⟨j, hj, rfl⟩ := List.getElem_of_mem hy
        rw [List.length_set] at hj
        rw [List.getElem_set]
        split
        · exact .inl rfl
        · rename_i hne
          refine .inr ⟨fun e => ?_, List.getElem_mem hj⟩
          rcases Nat.lt_or_gt_of_ne hne with g | g
          · exact keys_iff.1 h.keys i j hj g (by rw [hk, e])
          · exact keys_iff.1 h.keys j i hi g (by rw [hk, e])
      · rintro (rfl | ⟨h1, h2⟩)
        · exact List.mem_iff_getElem.2 ⟨i, by simpa using hi, by simp⟩
        · obtain ⟨j, hj, rfl⟩ := List.getElem_of_mem h2
          refine List.mem_iff_getElem.2 ⟨j, by simpa using hj, ?_⟩
          rw [List.getElem_set, if_neg]
          rintro rfl
          exact h1 hk
    rw [hm, h.mem, List.count_append, List.count_singleton, List.mem_append, List.mem_singleton]
    obtain ⟨a, c⟩ := y
    simp only [Prod.mk.injEq]
    by_cases e : a = k
    · subst e
      simp only [true_and, ne_eq, not_true, false_and, or_false, or_true, beq_self_eq_true, if_true]
      rw [hin.2]
      constructor <;> intro h <;> omega
    · simp [e, Ne.symm e]

theorem perm_of_mem {a b : List Itm} (ha : Keys a) (hb : Keys b) (h : ∀ y, y ∈ a ↔ y ∈ b) : a.Perm b := by
  have n1 : a.Nodup := (List.pairwise_map.1 ha).imp fun hne e => hne (by rw [e])
  have n2 : b.Nodup := (List.pairwise_map.1 hb).imp fun hne e => hne (by rw [e])
  exact (List.perm_ext_iff_of_nodup n1 n2).2 fun y => h y

/-! Sums over the levels. -/
/-- What one level adds. -/
def lvSum (kind : Int) (last : Bool) (lev : ByteArray → Int) (j : Nat) (top : List Itm) : Int := (top.map fun x => if last = false ∧ (j : Int) < lev x.1 then - cntI kind x.2 else cntI kind x.2).sum
theorem lvSum_nil (kind : Int) (last : Bool) (lev : ByteArray → Int) (j : Nat) : lvSum kind last lev j [] = 0 := rfl
theorem lvSum_take (kind : Int) (last : Bool) (lev : ByteArray → Int) (j : Nat) {top : List Itm} {i : Nat} (hi : i < top.length) :
    lvSum kind last lev j (top.take (i + 1)) = lvSum kind last lev j (top.take i) + (if last = false ∧ (j : Int) < lev top[i].1 then - cntI kind top[i].2 else cntI kind top[i].2) := by
  unfold lvSum
  rw [List.take_add_one, List.getElem?_eq_getElem hi]
  simp only [Option.toList_some, List.map_append, List.map_cons, List.map_nil, List.sum_append, List.sum_cons, List.sum_nil, Int.add_zero]
theorem lvSum_range (kind : Int) (last : Bool) (lev : ByteArray → Int) (j : Nat) : ∀ top : List Itm, -(top.length * 1443109011456) ≤ lvSum kind last lev j top ∧ lvSum kind last lev j top ≤ top.length * 1443109011456
  | [] => by simp [lvSum]
  | x :: r => by
    have ih := lvSum_range kind last lev j r
    have hc := cntI_range kind x.2
    unfold lvSum at *
    simp only [List.map_cons, List.sum_cons, List.length_cons]
    split <;> omega
/-- The sum over the last levels. -/
def uSumD (s : Us) (kind : Int) : Nat → Int
  | 0 => 0
  | d + 1 => 2 * uSumD s kind d + lvSum kind (decide (d = 0)) (uLev s) (s.2.2.length - 1 - d) (s.2.2.getD (s.2.2.length - 1 - d) (0, [], [])).2.2
theorem uSumD_range {s : Us} (h : ∀ l ∈ s.2.2, l.2.2.length ≤ 64) (kind : Int) : ∀ d, -((2 ^ d - 1 : Nat) * 92358976733184) ≤ uSumD s kind d ∧ uSumD s kind d ≤ (2 ^ d - 1 : Nat) * 92358976733184
  | 0 => by simp [uSumD]
  | d + 1 => by
    have ih := uSumD_range h kind d
    have hl := lvSum_range kind (decide (d = 0)) (uLev s) (s.2.2.length - 1 - d) (s.2.2.getD (s.2.2.length - 1 - d) (0, [], [])).2.2
    have h64 : (s.2.2.getD (s.2.2.length - 1 - d) (0, [], [])).2.2.length ≤ 64 := by
      rw [List.getD_eq_getElem?_getD]
      cases hg : s.2.2[s.2.2.length - 1 - d]? with
      | none => simp
      | some l => exact h l (List.mem_of_getElem? hg)
    have hp : 0 < 2 ^ d := Nat.pow_pos (by decide)
    have e : 2 ^ (d + 1) = 2 ^ d * 2 := Nat.pow_succ ..
    unfold uSumD
    rw [e]
    generalize lvSum kind (decide (d = 0)) (uLev s) (s.2.2.length - 1 - d) (s.2.2.getD (s.2.2.length - 1 - d) (0, [], [])).2.2 = q at *
    generalize (s.2.2.getD (s.2.2.length - 1 - d) (0, [], [])).2.2.length = m at *
    generalize uSumD s kind d = u at *
    generalize 2 ^ d = p at *
    omega
def cntSum (kind : Int) (all : List Itm) : Int := (all.map fun x => cntI kind x.2).sum
theorem cntSum_take (kind : Int) {all : List Itm} {i : Nat} (hi : i < all.length) : cntSum kind (all.take (i + 1)) = cntSum kind (all.take i) + cntI kind all[i].2 := by
  unfold cntSum
  rw [List.take_add_one, List.getElem?_eq_getElem hi]
  simp only [Option.toList_some, List.map_append, List.map_cons, List.map_nil, List.sum_append, List.sum_cons, List.sum_nil, Int.add_zero]
theorem cntSum_range (kind : Int) : ∀ all : List Itm, 0 ≤ cntSum kind all ∧ cntSum kind all ≤ all.length * 1443109011456
  | [] => by simp [cntSum]
  | x :: r => by
    have ih := cntSum_range kind r
    have hc := cntI_range kind x.2
    unfold cntSum at *
    simp only [List.map_cons, List.sum_cons, List.length_cons]
    omega
def fromL (lev : ByteArray → Int) (j : Int) (all : List Itm) : List Itm := all.filter fun x => decide (j ≤ lev x.1)
theorem sum_split (kind : Int) (lev : ByteArray → Int) (j : Nat) : ∀ all : List Itm, 2 * cntSum kind (fromL lev ((j : Int) + 1) all) + lvSum kind false lev j (fromL lev j all) = cntSum kind (fromL lev j all)
  | [] => by simp [cntSum, lvSum, fromL]
  | x :: r => by
    have ih := sum_split kind lev j r
    unfold fromL cntSum lvSum at *
    simp only [eq_self, true_and] at ih ⊢
    simp only [List.filter_cons]
    by_cases h1 : (j : Int) + 1 ≤ lev x.1
    · have h2 : (j : Int) ≤ lev x.1 := by omega
      have h3 : (j : Int) < lev x.1 := by omega
      simp only [h1, h2, h3, decide_true, if_true, List.map_cons, List.sum_cons]
      omega
    · by_cases h2 : (j : Int) ≤ lev x.1
      · have h3 : ¬ (j : Int) < lev x.1 := by omega
        simp only [h1, h2, h3, decide_true, decide_false, if_true, if_false, List.map_cons, List.sum_cons, Bool.false_eq_true]
        omega
      · simp only [h1, h2, decide_false, Bool.false_eq_true, if_false]
        exact ih
theorem lvSum_last (kind : Int) (lev : ByteArray → Int) (j : Nat) (all : List Itm) : lvSum kind true lev j all = cntSum kind all := by
  unfold lvSum cntSum
  simp
theorem perm_sum {a b : List Int} (h : a.Perm b) : a.sum = b.sum := by
  induction h with
  | nil => rfl
  | cons x _ ih => simp [ih]
  | swap x y l => simp only [List.sum_cons]; omega
  | trans _ _ h1 h2 => exact h1.trans h2
theorem lvSum_perm {a b : List Itm} (h : a.Perm b) (kind : Int) (last : Bool) (lev : ByteArray → Int) (j : Nat) : lvSum kind last lev j a = lvSum kind last lev j b := by
  unfold lvSum
  exact perm_sum (h.map _)
/-- All keys are among the items of each of their levels: the sum is that over all keys. -/
theorem sums_all {s : Us} {ks : List ByteArray} {all : List Itm} (hA : AllOk ks all) (hl : 1 ≤ s.2.2.length) (hk : ∀ j, ∀ h : j < s.2.2.length, Keys s.2.2[j].2.2) (hs : ∀ j, ∀ h : j < s.2.2.length, ∀ y ∈ s.2.2[j].2.2, y.1 ∈ ks ∧ (j : Int) ≤ uLev s y.1)
    (ht : ∀ x ∈ all, ∀ j, ∀ h : j < s.2.2.length, (j : Int) ≤ uLev s x.1 → x ∈ s.2.2[j].2.2) (kind : Int) : uSumD s kind s.2.2.length = cntSum kind all := by
  have hp : ∀ j, ∀ h : j < s.2.2.length, s.2.2[j].2.2.Perm (fromL (uLev s) j all) := fun j h => by
    have hkf : Keys (fromL (uLev s) j all) := ((List.filter_sublist (p := fun x : Itm => decide ((j : Int) ≤ uLev s x.1)) (l := all)).map fun x : Itm => x.1).nodup hA.keys
    refine perm_of_mem (hk j h) hkf fun y => ?_
    unfold fromL
    rw [List.mem_filter, decide_eq_true_iff]
    constructor
    · intro hy
      obtain ⟨h1, h2⟩ := hs j h y hy
      have hx : (y.1, (ks.count y.1 : Int)) ∈ all := (hA.mem _).2 ⟨h1, rfl⟩
      have hx2 := ht _ hx j h h2
      have : y = (y.1, (ks.count y.1 : Int)) := by
        obtain ⟨a, ha, ea⟩ := List.getElem_of_mem hy
        obtain ⟨b, hb, eb⟩ := List.getElem_of_mem hx2
        have hab : a = b := by
          rcases Nat.lt_trichotomy a b with g | g | g
          · exact absurd (by rw [ea, eb]) (keys_iff.1 (hk j h) a b hb g)
          · exact g
          · exact absurd (by rw [ea, eb]) (keys_iff.1 (hk j h) b a ha g)
        subst hab
        exact ea.symm.trans eb
      exact ⟨by rw [this]; exact hx, h2⟩
    · rintro ⟨h1, h2⟩
      exact ht y h1 j h h2
  have main : ∀ d, d ≤ s.2.2.length → uSumD s kind d = cntSum kind (fromL (uLev s) ((s.2.2.length - d : Nat) : Int) all) := by
    intro d
    induction d with
    | zero =>
      intro _
      have : fromL (uLev s) ((s.2.2.length - 0 : Nat) : Int) all = [] := by
        refine List.filter_eq_nil_iff.2 fun x hx => ?_
        have := uLev_range hl x.1
        simp only [decide_eq_true_iff]
        omega
      rw [this]; rfl
    | succ d ih =>
      intro h
      have hj : s.2.2.length - 1 - d < s.2.2.length := by omega
      have e1 : s.2.2.getD (s.2.2.length - 1 - d) (0, [], []) = s.2.2[s.2.2.length - 1 - d] := by rw [List.getD_eq_getElem?_getD, List.getElem?_eq_getElem hj]; rfl
      have e2 : s.2.2.length - (d + 1) = s.2.2.length - 1 - d := by omega
      unfold uSumD
      rw [e1, ih (by omega), lvSum_perm (hp _ hj), e2]
      by_cases hd : d = 0
      · subst hd
        have : fromL (uLev s) ((s.2.2.length - 0 : Nat) : Int) all = [] := by
          refine List.filter_eq_nil_iff.2 fun x hx => ?_
          have := uLev_range hl x.1
          simp only [decide_eq_true_iff]
          omega
        rw [this, decide_eq_true rfl, lvSum_last]
        simp [cntSum]
      · have hs := sum_split kind (uLev s) (s.2.2.length - 1 - d) all
        have e3 : ((s.2.2.length - d : Nat) : Int) = ((s.2.2.length - 1 - d : Nat) : Int) + 1 := by omega
        rw [decide_eq_false hd, e3]
        exact hs
  have h0 := main s.2.2.length (Nat.le_refl _)
  rw [h0, Nat.sub_self]
  have : fromL (uLev s) ((0 : Nat) : Int) all = all := List.filter_eq_self.2 fun x _ => decide_eq_true (by have := uLev_range hl x.1; omega)
  rw [this]
end Go.Proofs.YtngpmpmhpggpgaaGreatDoorF
end

section
/- A sketch to which keys came: plain facts. -/
set_option maxRecDepth 8192
set_option maxHeartbeats 2000000
namespace Go.Proofs.YtngpmpmhpggpgaaGreatDoorF
open Go Go.Proofs.Vm

/-- A sketch's numbers. -/
structure Sz where
  seed : Int
  levels : Int
  rows : Int
  cols : Int
  room : Int
structure ZOk (z : Sz) : Prop where
  s0 : 0 ≤ z.seed
  s1 : z.seed < 18446744073709551616
  l1 : 1 ≤ z.levels
  l2 : z.levels ≤ 16
  new : newOk z.rows z.cols
  r1 : 1 ≤ z.room
  r2 : z.room ≤ 64
def zLev (z : Sz) (k : ByteArray) : Int := hlev (hrow z.seed 0) k (z.levels - 1)
def zKeys (z : Sz) (j : Nat) (ks : List ByteArray) : List ByteArray := ks.filter fun k => decide ((j : Int) ≤ zLev z k)
def zL (z : Sz) (ks : List ByteArray) (j : Nat) : Lv := lvFed z.room (lvZ (hrow z.seed ((j : Int) + 1)) z.rows.toNat z.cols.toNat) (zKeys z j ks)
/-- The sketch to which these keys came. -/
def uFed (z : Sz) (ks : List ByteArray) : Us := (z.seed, z.room, (List.range z.levels.toNat).map (zL z ks))
theorem uFed_len (z : Sz) (ks : List ByteArray) : (uFed z ks).2.2.length = z.levels.toNat := by simp [uFed]
theorem uFed_at (z : Sz) (ks : List ByteArray) (j : Nat) (h : j < (uFed z ks).2.2.length) : (uFed z ks).2.2[j] = zL z ks j := by simp [uFed]
theorem uFed_lev {z : Sz} (h : ZOk z) (ks : List ByteArray) (k : ByteArray) : uLev (uFed z ks) k = zLev z k := by
  have := h.l1
  unfold uLev zLev
  rw [uFed_len]
  show hlev (hrow z.seed 0) k _ = _
  congr 1
  omega
theorem zKeys_len (z : Sz) (j : Nat) (ks : List ByteArray) : (zKeys z j ks).length ≤ ks.length := List.length_filter_le _ _
theorem zL_fed {z : Sz} (h : ZOk z) {ks : List ByteArray} (hk : ks.length < 1000000) (j : Nat) : LFed z.room (hrow z.seed ((j : Int) + 1)) z.rows.toNat z.cols.toNat (zKeys z j ks) (zL z ks j) :=
  lvFed_is h.new h.r1 _ (by have := zKeys_len z j ks; omega)
theorem uFed_add {z : Sz} (h : ZOk z) (ks : List ByteArray) (k : ByteArray) : uAdd (uFed z ks) k = uFed z (ks ++ [k]) := by
  have hr := uLev_range (s := uFed z ks) (by rw [uFed_len]; have := h.l1; omega) k
  rw [uFed_lev h] at hr
  unfold uAdd
  rw [uFed_lev h]
  refine Prod.ext rfl (Prod.ext rfl ?_)
  show lvTo (uFed z ks) k _ = (uFed z (ks ++ [k])).2.2
  apply List.ext_getElem
  · rw [lvTo_len, uFed_len, uFed_len]
  · intro j h1 h2
    have hj : j < (uFed z ks).2.2.length := by rw [lvTo_len] at h1; exact h1
    rw [uFed_at _ _ _ h2]
    simp only [lvTo, List.getElem_mapIdx]
    rw [uFed_at _ _ _ hj]
    unfold zL zKeys
    rw [List.filter_append]
    by_cases c : (j : Int) ≤ zLev z k
    · rw [if_pos (by omega)]
      simp only [List.filter_cons, c, decide_true, if_true, List.filter_nil]
      rw [lvFed_snoc]
      rfl
    · rw [if_neg (by omega)]
      simp [c]
theorem headD_at {l : List Lv} (h : 0 < l.length) (d : Lv) : l.headD d = l[0] := by cases l with | nil => simp at h | cons a t => rfl
theorem uFed_ok {z : Sz} (h : ZOk z) {ks : List ByteArray} (hk : ks.length < 1000000) : UOk (uFed z ks) := by
  have hl := uFed_len z ks
  have h0 : 0 < (uFed z ks).2.2.length := by rw [hl]; have := h.l1; omega
  have hf : fstR (uFed z ks) = (zL z ks 0).2.1 := by unfold fstR; rw [headD_at h0, uFed_at]
  have F0 := zL_fed h hk 0
  refine ⟨h.r1, h.r2, by omega, by rw [hl]; have := h.l2; omega, fun j hj => ?_⟩
  rw [uFed_at]
  have F := zL_fed h hk j
  exact ⟨F.ok, F.fseed, by rw [hf, F.len, F0.len], by rw [hf, F.hd, F0.hd], F.froom, F.srt, F.keys⟩
theorem uGood_of {s : Us} (h : UOk s) (h0 : 0 ≤ s.1) (h1 : s.1 < 18446744073709551616) : UGood s := by
  refine ⟨h0, h1, by have := h.l2; omega, fun l hl => ?_⟩
  obtain ⟨j, hj, rfl⟩ := List.getElem_of_mem hl
  have L := h.lv j hj
  have hr := hrow_range s.1 ((j : Int) + 1)
  refine ⟨by rw [L.seed]; exact hr.1, by rw [L.seed]; omega, by have := L.ok.l7; omega, fun r hr => by have := (L.ok.row r hr).2.1; omega, by have := L.room; have := h.r2; omega⟩
theorem uFed_good {z : Sz} (h : ZOk z) {ks : List ByteArray} (hk : ks.length < 1000000) : UGood (uFed z ks) := uGood_of (uFed_ok h hk) h.s0 h.s1
theorem uFed_fit {z : Sz} (h : ZOk z) {ks : List ByteArray} (hk : ks.length < 1000000) (k : ByteArray) : fitU (uFed z ks) k := fun j hj _ => by
  rw [uFed_at]
  exact fit_of (zL_fed h hk j) (by have := zKeys_len z j ks; omega) k
theorem uFed_seen {z : Sz} (h : ZOk z) {ks : List ByteArray} (hk : ks.length < 1000000) (j : Nat) (hj : j < (uFed z ks).2.2.length) : ∀ y ∈ ((uFed z ks).2.2[j]).2.2, y.1 ∈ ks ∧ (j : Int) ≤ uLev (uFed z ks) y.1 := fun y hy => by
  rw [uFed_at] at hy
  have := (zL_fed h hk j).seen y hy
  unfold zKeys at this
  rw [List.mem_filter, decide_eq_true_iff] at this
  rw [uFed_lev h]
  exact this
theorem uFed_get {z : Sz} (h : ZOk z) (h0 : 0 < (uFed z []).2.2.length) (k : ByteArray) : lvGet (uFed z []).2.2[0] k = 0 := by
  have F := zL_fed h (ks := []) (by simp) 0
  rw [uFed_at]
  unfold lvGet
  refine med_const ?_ 0 ?_
  · intro e
    have := congrArg List.length e
    rw [getL_len] at this
    have := F.ok.odd
    simp_all
  · intro x hx
    obtain ⟨i, hi, rfl⟩ := List.getElem_of_mem hx
    simp only [getL, List.getElem_mapIdx]
    have hi' : i < (zL z [] 0).2.1.length := by rw [getL_len] at hi; exact hi
    have : ∀ q, ((zL z [] 0).2.1[i]).getD q 0 = 0 := by
      intro q
      rw [List.getD_eq_getElem?_getD]
      cases hx : ((zL z [] 0).2.1[i])[q]? with
      | none => rfl
      | some v =>
        have := F.wi _ (List.getElem_mem hi') v (List.mem_of_getElem? hx)
        simp [zKeys] at this
        simp only [Option.getD_some]
        omega
    rw [this]; simp
/-- The first level counts every key that came; where none else came, it tells it. -/
theorem uFed_one {z : Sz} (h : ZOk z) (k : ByteArray) (n : Nat) (hn : n < 1000) (h0 : 0 < (uFed z (List.replicate n k)).2.2.length) : lvGet (uFed z (List.replicate n k)).2.2[0] k = n := by
  have F := zL_fed h (ks := List.replicate n k) (by simp; omega) 0
  rw [uFed_at]
  have hlev : ∀ x, (0 : Int) ≤ zLev z x := fun x => (hlev_range (hrow z.seed 0) x (z.levels - 1)).1
  have hz : zKeys z 0 (List.replicate n k) = List.replicate n k := List.filter_eq_self.2 fun x _ => decide_eq_true (by have := hlev x; omega)
  rw [hz] at F
  have := get_alone F (D := [k]) (key := k) (fun x hx => by rw [List.eq_of_mem_replicate hx]; simp) (by
    unfold alone
    have : (List.range z.rows.toNat).countP (fun (i : Nat) => decide (∀ x ∈ [k], x ≠ k → scell (hrow z.seed ((0 : Nat) + 1)) x (i : Int) (z.cols.toNat : Int) ≠ scell (hrow z.seed ((0 : Nat) + 1)) k (i : Int) (z.cols.toNat : Int))) = z.rows.toNat := by
      rw [List.countP_eq_length.2 (fun i _ => by simp), List.length_range]
    rw [this]
    have := h.new.1
    omega)
  unfold lvGet
  rw [this]
  simp
end Go.Proofs.YtngpmpmhpggpgaaGreatDoorF
end

section
/- Sketches of levels: right, a key's level, what is told of a key. -/
set_option maxRecDepth 8192
set_option maxHeartbeats 4000000
namespace Go.Proofs.YtngpmpmhpggpgaaGreatDoorF
open Go Go.Proofs.Vm

theorem okR_zero {rows : List (List Int)} (h : OkR rows) : ∃ r0, rows[0]? = some r0 ∧ rows.headD [] = r0 := by
  have := h.ne
  cases rows with
  | nil => exact absurd rfl this
  | cons a t => exact ⟨a, rfl, rfl⟩
theorem univ_Right {s : Us} (g : UGood s) : TV.pu 21 [.agg (cUs s)] = some (cB (uOk s)) := by
  refine run21 (by simp) ?_
  obtain ⟨R, hR⟩ : ∃ R, uOk s = R := ⟨_, rfl⟩
  rw [hR]
  obtain ⟨sd, room, lvs⟩ := s
  have hl : lvs.length < 4611686018427387904 := g.len
  have s0 : 0 ≤ sd := g.s0
  have s1 : sd < 18446744073709551616 := g.s1
  by_cases c1 : room < 1
  · have hRf : R = false := by rw [← hR]; exact uOk_no fun u => by have h : 1 ≤ room := u.r1; omega
    simp -implicitDefEqProofs [Tryz.f21, cUs, c1, hRf]
  by_cases c2 : 64 < room
  · have hRf : R = false := by rw [← hR]; exact uOk_no fun u => by have h : room ≤ 64 := u.r2; omega
    simp -implicitDefEqProofs [Tryz.f21, cUs, c1, c2, hRf]
  by_cases c3 : (lvs.length : Int) < 1
  · have hRf : R = false := by rw [← hR]; exact uOk_no fun u => by have h : 1 ≤ lvs.length := u.l1; omega
    simp -implicitDefEqProofs [Tryz.f21, cUs, c1, c2, c3, hRf]
  by_cases c4 : 16 < (lvs.length : Int)
  · have hRf : R = false := by rw [← hR]; exact uOk_no fun u => by have h : lvs.length ≤ 16 := u.l2; omega
    simp -implicitDefEqProofs [Tryz.f21, cUs, c1, c2, c3, c4, hRf]
  obtain ⟨f, hf⟩ : ∃ f, lvs[0]? = some f := ⟨_, List.getElem?_eq_getElem (show 0 < lvs.length by omega)⟩
  have hfst : fstR (sd, room, lvs) = f.2.1 := by
    unfold fstR
    have h0 : 0 < lvs.length := by omega
    show (lvs.headD _).2.1 = _
    rw [headD_at h0]
    rw [List.getElem?_eq_getElem h0] at hf
    rw [Option.some.inj hf]
  obtain ⟨fs, fr, ft⟩ := f
  simp -implicitDefEqProofs [Tryz.f21, cUs, cLv, cRows, c1, c2, c3, c4, hf, vstore, cellsOf?, Ent.wrO, wr, vmove, isNil]
  obtain ⟨I, hI⟩ : ∃ I : Nat → St → Prop, ∀ k s', I k s' ↔ (∃ e i L, s' = ⟨e, .opn [(cUs (sd, room, lvs)).map .c] false :: .opn [[.c (.v (.int .u64 fs)), .c (cRows fr)]] false :: L⟩ ∧ e 1 = .one (.ptr ⟨0, 0, 0, 1⟩) ∧ e 3 = .one (.ptr ⟨1, 0, 0, 1⟩) ∧ e 33 = .one (.c (.arr (lvs.map cLv))) ∧ e 34 = vI .i64 lvs.length ∧ e 35 = vI .i64 (i : Nat) ∧ (i + k = lvs.length) ∧ (∀ q, ∀ h : q < lvs.length, q < i → lvB (sd, room, lvs) q lvs[q] = true)) := ⟨_, fun _ _ => Iff.rfl⟩
  refine wpL_ind I ?_ lvs.length _ ((hI _ _).2 ⟨_, 0, _, (by first | rfl | (simp [cUs, cLv, cRows]; done) | (simp [cUs, cLv, cRows]; rfl) | (simp [cUs, cLv, cRows]; and_intros <;> rfl)), by simp, by simp, by simp, by simp, by simp, by omega, fun q _ h => absurd h (Nat.not_lt_zero _)⟩)
  intro k stI hstI
  obtain ⟨e, i, L, rfl, e1, e3, e33, e34, e35, hk, hall⟩ := (hI _ _).1 hstI
  by_cases c : i < lvs.length
  rotate_left
  · have hRt : R = true := by
      rw [← hR, uOk_iff]
      refine ⟨?_, ?_, ?_, ?_, fun j hj => lvB_iff.1 (hall j hj ?_)⟩
      · show 1 ≤ room; omega
      · show room ≤ 64; omega
      · show 1 ≤ lvs.length; omega
      · show lvs.length ≤ 16; omega
      · have : j < lvs.length := hj
        omega
    simp -implicitDefEqProofs [e34, e35, c, hRt]
  have w_i : IntKind.i64.wrap ((i : Int) + 1) = ((i + 1 : Nat) : Int) := by rw [w64_id (by omega) (by omega)]; omega
  obtain ⟨l, hli⟩ : ∃ l, lvs[i] = l := ⟨_, rfl⟩
  have hlg := g.lv lvs[i] (List.getElem_mem c)
  rw [hli] at hlg
  obtain ⟨ls, lr, lt⟩ := l
  obtain ⟨g0, g1, g2, g3, g4⟩ := hlg
  dsimp only at g0 g1 g2 g3 g4
  have hS := signed_Right (seed := ls) (rows := lr) (by omega) (fun x hx => by have := g3 x hx; omega)
  have bad : lvB (sd, room, lvs) i (ls, lr, lt) = false → R = false := fun h => by
    rw [← hR]
    exact uOk_lv (s := (sd, room, lvs)) c (by show lvB _ i lvs[i] = false; rw [hli]; exact h)
  simp only [cSk, cRows, cRow] at hS
  cases hok : okB lr with
  | false =>
    rw [hok] at hS
    have hRf := bad (by unfold lvB; simp [hok])
    simp -implicitDefEqProofs [e33, e34, e35, c, hli, cUs, cLv, cRows, cRow, hS, hRf, vstore, cellsOf?, Ent.wrO, wr]
  | true =>
  rw [hok] at hS
  obtain ⟨r0, hr0, hrd⟩ := okR_zero ((okB_iff lr).1 hok)
  have hfo : OkR fr := by
    by_cases h : i = 0
    · subst h
      rw [List.getElem?_eq_getElem c, hli] at hf
      cases hf
      exact (okB_iff _).1 hok
    · have h0 : 0 < lvs.length := by omega
      have := (lvB_iff.1 (hall 0 h0 (by omega))).ok
      rw [List.getElem?_eq_getElem h0] at hf
      rw [Option.some.inj hf] at this
      exact this
  obtain ⟨f0, hf0, hfd⟩ := okR_zero hfo
  have hRow := hash_Row (s := sd) (i := (i : Int) + 1) s0 s1 (by omega) (by omega)
  have hw : IntKind.i64.wrap ((i : Int) + 1) = (i : Int) + 1 := w64_id (by omega) (by omega)
  have hT := univ_top lt (by omega)
  simp only [cItms] at hT
  by_cases e1' : ls = hrow sd ((i : Int) + 1)
  rotate_left
  · have h1 : (ls != hrow sd ((i : Int) + 1)) = true := by simpa using e1'
    have hRf := bad (by unfold lvB; simp [e1'])
    simp -implicitDefEqProofs [e1, e33, e34, e35, c, hli, cUs, cLv, cRows, cRow, hS, hRow, hw, h1, hRf, vstore, cellsOf?, Ent.wrO, wr]
  have h1 : (ls != hrow sd ((i : Int) + 1)) = false := by simpa using e1'
  by_cases e2' : lr.length = fr.length
  rotate_left
  · have h2 : ((lr.length : Int) != (fr.length : Int)) = true := by simp; omega
    have hRf := bad (by unfold lvB; rw [hfst]; simp [e2'])
    simp -implicitDefEqProofs [e1, e3, e33, e34, e35, c, hli, cUs, cLv, cRows, cRow, hS, hRow, hw, h1, h2, hRf, vstore, cellsOf?, Ent.wrO, wr]
  have h2 : ((lr.length : Int) != (fr.length : Int)) = false := by simp; omega
  by_cases e3' : r0.length = f0.length
  rotate_left
  · have h3 : ((r0.length : Int) != (f0.length : Int)) = true := by simp; omega
    have hRf := bad (by unfold lvB; rw [hfst, hrd, hfd]; simp [e3'])
    simp -implicitDefEqProofs [e1, e3, e33, e34, e35, c, hli, cUs, cLv, cRows, cRow, hS, hRow, hw, h1, h2, hr0, hf0, h3, hRf, vstore, cellsOf?, Ent.wrO, wr]
  have h3 : ((r0.length : Int) != (f0.length : Int)) = false := by simp; omega
  by_cases e4' : room < (lt.length : Int)
  · have hRf := bad (by
      unfold lvB
      have : ¬ (lt.length : Int) ≤ room := by omega
      simp [this])
    simp -implicitDefEqProofs [e1, e3, e33, e34, e35, c, hli, cUs, cLv, cRows, cRow, cItms, hS, hRow, hw, h1, h2, hr0, hf0, h3, e4', hRf, vstore, cellsOf?, Ent.wrO, wr]
  cases hto : topB lt with
  | false =>
    rw [hto] at hT
    have hRf := bad (by unfold lvB; simp [hto])
    simp -implicitDefEqProofs [e1, e3, e33, e34, e35, c, hli, cUs, cLv, cRows, cRow, cItms, hS, hRow, hw, h1, h2, hr0, hf0, h3, e4', hT, hRf, vstore, cellsOf?, Ent.wrO, wr]
  | true =>
    rw [hto] at hT
    have hlv : lvB (sd, room, lvs) i (ls, lr, lt) = true := lvB_iff.2 ⟨(okB_iff _).1 hok, e1', by rw [hfst]; exact e2', by rw [hfst, hfd]; show (lr.headD []).length = _; rw [hrd]; exact e3', by show (lt.length : Int) ≤ room; omega, (topB_iff.1 hto).1, (topB_iff.1 hto).2⟩
    simp -implicitDefEqProofs [e1, e3, e33, e34, e35, c, hli, cUs, cLv, cRows, cRow, cItms, hS, hRow, hw, h1, h2, hr0, hf0, h3, e4', hT, vstore, cellsOf?, Ent.wrO, wr]
    exact ⟨k - 1, by omega, (hI _ _).2 ⟨_, i + 1, _, (by first | rfl | (simp [cUs, cLv, cRows, cRow, cItms, hw]; done) | (simp [cUs, cLv, cRows, cRow, cItms, hw]; rfl) | (simp [cUs, cLv, cRows, cRow, cItms, hw]; and_intros <;> rfl)), by simp [e1], by simp [e3], by simp [e33], by simp [e34], by simp, by omega, (fun q h hq => if e : q = i then by subst e; rw [hli]; exact hlv else hall q h (by omega))⟩⟩
theorem univ_level {s : Us} {key : ByteArray} {H : Hp} (g : UGood s) (hs : key.size ≤ 140737488351232) : TV.S 40 [.agg ((cUs s).map .c), vS key] H = some (vI .i64 (uLev s key), H ++ [.opn [(cUs s).map .c] false]) := by
  refine run40 (by simp) (by simp) ?_
  obtain ⟨sd, room, lvs⟩ := s
  have hl : lvs.length < 4611686018427387904 := g.len
  have s0 : 0 ≤ sd := g.s0
  have s1 : sd < 18446744073709551616 := g.s1
  have hRow := hash_Row (s := sd) (i := 0) s0 s1 (by omega) (by omega)
  have hr := hrow_range sd 0
  have hw : IntKind.i64.wrap ((lvs.length : Int) - 1) = (lvs.length : Int) - 1 := w64_id (by omega) (by omega)
  have hL := hash_Level (seed := hrow sd 0) (most := (lvs.length : Int) - 1) (s := key) hr.1 (by omega) hs (by omega) (by omega)
  simp -implicitDefEqProofs [Tryz.f40, cUs, hRow, hw, hL, uLev]
/-- The same, where the levels lie in own memory. -/
theorem univ_levelS {sd room : Int} {n d : Nat} {Ls : List (List CV)} {key : ByteArray} {H : Hp} (s0 : 0 ≤ sd) (s1 : sd < 18446744073709551616) (hd : H[d]? = some (.clo Ls false)) (hn : Ls.length = n) (hl : n < 4611686018427387904) (hs : key.size ≤ 140737488351232) :
    TV.S 40 [.agg [.c (.v (.int .u64 sd)), .c (.v (.int .i64 room)), .sl d 0 n n], vS key] H = some (vI .i64 (hlev (hrow sd 0) key ((n : Int) - 1)), H ++ [.opn [[.c (.v (.int .u64 sd)), .c (.v (.int .i64 room)), .sl d 0 n n]] false]) := by
  refine run40 (by simp) (by simp) ?_
  have hRow := hash_Row (s := sd) (i := 0) s0 s1 (by omega) (by omega)
  have hr := hrow_range sd 0
  have hw : IntKind.i64.wrap ((n : Int) - 1) = (n : Int) - 1 := w64_id (by omega) (by omega)
  have hL := hash_Level (seed := hrow sd 0) (most := (n : Int) - 1) (s := key) hr.1 (by omega) hs (by omega) (by omega)
  have hd2 : (H ++ [.opn [[.c (.v (.int .u64 sd)), .c (.v (.int .i64 room)), .sl d 0 n n]] false])[d]? = some (.clo Ls false) := by
    rw [List.getElem?_append_left (List.getElem?_eq_some_iff.1 hd).1]; exact hd
  simp -implicitDefEqProofs [Tryz.f40, hRow, hw, hL, hd2, hn]
theorem univ_Get {s : Us} {key : ByteArray} (g : UGood s) (hs : key.size ≤ 140737488351232) : TV.pu 19 [.agg (cUs s), cS key] = some (cI .i64 (if uOk s = true then lvGet (s.2.2.headD (0, [], [])) key else 0)) := by
  refine run19 (by simp) ?_
  have hR := univ_Right g
  obtain ⟨sd, room, lvs⟩ := s
  cases hok : uOk (sd, room, lvs) with
  | false =>
    rw [hok] at hR
    simp only [cUs] at hR
    simp -implicitDefEqProofs [Tryz.f19, cUs, hR]
  | true =>
    rw [hok] at hR
    have u := uOk_iff.1 hok
    have h0 : 0 < lvs.length := u.l1
    obtain ⟨f, hf⟩ : ∃ f, lvs[0] = f := ⟨_, rfl⟩
    have hf2 : lvs[0]? = some f := by rw [List.getElem?_eq_getElem h0, hf]
    have hhd : lvs.headD (0, [], []) = f := by rw [headD_at h0, hf]
    have hL : LvOk (sd, room, lvs) 0 f := by
      have := u.lv 0 h0
      rw [show (sd, room, lvs).2.2[0] = lvs[0] from rfl, hf] at this
      exact this
    have hlg := g.lv lvs[0] (List.getElem_mem h0)
    rw [hf] at hlg
    obtain ⟨fs, fr, ft⟩ := f
    have hG := signed_Get (seed := fs) (rows := fr) (key := key) hlg.1 hlg.2.1 hs hL.ok
    rw [if_pos rfl]
    show wpV _ _ _ _ (endK _ _ (cI .i64 (lvGet (lvs.headD (0, [], [])) key))) _
    rw [hhd]
    simp only [cUs, cSk, cRows] at hR hG
    simp -implicitDefEqProofs [Tryz.f19, cUs, cLv, cRows, hR, hf2, hG, lvGet]
end Go.Proofs.YtngpmpmhpggpgaaGreatDoorF
end

section
/- A sketch of levels made; logarithms and counts. -/
set_option maxRecDepth 8192
set_option maxHeartbeats 4000000
namespace Go.Proofs.YtngpmpmhpggpgaaGreatDoorF
open Go Go.Proofs.Vm

def zOkB (levels rows cols room : Int) : Prop := 1 ≤ levels ∧ levels ≤ 16 ∧ newOk rows cols ∧ 1 ≤ room ∧ room ≤ 64
theorem univ_New {z : Sz} (h : ZOk z) : TV.pu 12 [cI .u64 z.seed, cI .i64 z.levels, cI .i64 z.rows, cI .i64 z.cols, cI .i64 z.room] = some (.tup [(true, cUs (uFed z [])), (false, [.v (.int .i64 0)])]) := by
  refine run12 (by simp) ?_
  obtain ⟨sd, levels, rows, cols, room⟩ := z
  obtain ⟨s0, s1, l1, l2, hn, r1, r2⟩ := h
  dsimp only at s0 s1 l1 l2 hn r1 r2
  obtain ⟨n, rfl⟩ := Int.eq_ofNat_of_zero_le (show 0 ≤ levels by omega)
  have c1 : ¬ (n : Int) < 1 := by omega
  have c2 : ¬ 16 < (n : Int) := by omega
  have c3 : ¬ room < 1 := by omega
  have c4 : ¬ 64 < room := by omega
  obtain ⟨Rz, hRz⟩ : ∃ Rz, List.replicate rows.toNat (List.replicate cols.toNat (0 : Int)) = Rz := ⟨_, rfl⟩
  have hN := fun (s : Int) => signed_New (seed := s) hn
  simp only [hRz, cSk, cRows] at hN
  have hz : ∀ j : Nat, cLv (zL ⟨sd, n, rows, cols, room⟩ [] j) = [.v (.int .u64 (hrow sd ((j : Int) + 1))), .arr (Rz.map fun r => [cRow r]), .arr []] := fun j => by rw [← hRz]; rfl
  have hfin : cUs (uFed ⟨sd, n, rows, cols, room⟩ []) = [.v (.int .u64 sd), .v (.int .i64 room), .arr (((List.range n).map (zL ⟨sd, n, rows, cols, room⟩ [])).map cLv)] := rfl
  rw [hfin]
  have hal : ∀ i : Nat, AllLen (((List.range i).map (zL ⟨sd, n, rows, cols, room⟩ [])).map cLv) 3 := fun i x hx => by obtain ⟨y, _, rfl⟩ := List.mem_map.1 hx; rfl
  have hll : ∀ i : Nat, (((List.range i).map (zL ⟨sd, n, rows, cols, room⟩ [])).map cLv).length = i := fun i => by simp
  have hsn : ∀ i : Nat, ((List.range i).map (zL ⟨sd, n, rows, cols, room⟩ [])).map cLv ++ [[.v (.int .u64 (hrow sd ((i : Int) + 1))), .arr (Rz.map fun r => [cRow r]), .arr []]] = ((List.range (i + 1)).map (zL ⟨sd, n, rows, cols, room⟩ [])).map cLv := fun i => by
    rw [List.range_succ, List.map_append, List.map_append, List.map_cons, List.map_cons, List.map_nil, List.map_nil, hz]
  obtain ⟨Lv', hLv⟩ : ∃ Lv' : Nat → List (List CV), ∀ i, ((List.range i).map (zL ⟨sd, n, rows, cols, room⟩ [])).map cLv = Lv' i := ⟨_, fun _ => rfl⟩
  simp only [hLv] at hal hll hsn ⊢
  have hL0 : Lv' 0 = [] := by rw [← hLv]; rfl
  simp -implicitDefEqProofs [Tryz.f12, c1, c2, c3, c4, vstore, cellsOf?, Ent.wrO, wr, vmove, isNil]
  obtain ⟨I, hI⟩ : ∃ I : Nat → St → Prop, ∀ k s', I k s' ↔ (∃ e i L, s' = ⟨e, .opn [[.c (.v (.int .u64 0)), .c (.v (.int .i64 0)), .sl 1 0 0 0]] false :: .clo [] false :: .clo (Lv' i) false :: .opn [[.c (.v (.int .u64 sd)), .c (.v (.int .i64 room)), .sl 2 0 i i]] false :: L⟩ ∧ e 0 = vI .u64 sd ∧ e 2 = vI .i64 rows ∧ e 3 = vI .i64 cols ∧ e 10 = .one (.ptr ⟨0, 0, 0, 1⟩) ∧ e 12 = .one (.ptr ⟨3, 0, 0, 1⟩) ∧ e 34 = vI .i64 (n : Nat) ∧ e 35 = vI .i64 (i : Nat) ∧ (i + k = n)) := ⟨_, fun _ _ => Iff.rfl⟩
  refine wpL_ind I ?_ n _ ((hI _ _).2 ⟨_, 0, _, (by first | rfl | (simp [hL0]; done) | (simp [hL0]; rfl) | (simp [hL0]; and_intros <;> rfl)), by simp, by simp, by simp, by simp, by simp, by simp, by simp, by omega⟩)
  intro k stI hstI
  obtain ⟨e, i, L, rfl, e0, e2, e3, e10, e12, e34, e35, hk⟩ := (hI _ _).1 hstI
  by_cases c : i < n
  rotate_left
  · have hi : i = n := by omega
    subst hi
    have htk : (Lv' i).take i = Lv' i := List.take_of_length_le (by rw [hll]; exact Nat.le_refl _)
    simp -implicitDefEqProofs [e10, e12, e34, e35, vstore, cellsOf?, Ent.wrO, wr, vmove, isNil]
    simp [qa, hll, htk]
  have w_i : IntKind.i64.wrap ((i : Int) + 1) = ((i + 1 : Nat) : Int) := by rw [w64_id (by omega) (by omega)]; omega
  have hRow := hash_Row (s := sd) (i := (i : Int) + 1) s0 s1 (by omega) (by omega)
  have hw : IntKind.i64.wrap ((i : Int) + 1) = (i : Int) + 1 := w64_id (by omega) (by omega)
  have hNi := hN (hrow sd ((i : Int) + 1))
  have b1 : 56 * (i + 1) ≤ 140737488355328 := by omega
  have b2 : i + 1 ≤ 4611686018427387904 := by omega
  simp -implicitDefEqProofs [e0, e2, e3, e12, e34, e35, c, hRow, hw, hNi, hll, hal, hsn, vstore, cellsOf?, Ent.wrO, wr, vmove, isNil, vappend_sp es26 es26 el42, vbuildSlice_eq es26 el42, fzParts, setAll, rchParts, rch, rcha, frzAll, elemsOf, b1, b2]
  exact ⟨k - 1, by omega, (hI _ _).2 ⟨_, i + 1, _, (by first | rfl | (simp [hw]; done) | (simp [hw]; rfl) | (simp [hw]; and_intros <;> rfl)), by simp [e0], by simp [e2], by simp [e3], by simp [e10], by simp [e12], by simp [e34], by simp, by omega⟩⟩
end Go.Proofs.YtngpmpmhpggpgaaGreatDoorF
end

section
/- Logarithms and counts. -/
set_option maxRecDepth 8192
set_option maxHeartbeats 4000000
namespace Go.Proofs.YtngpmpmhpggpgaaGreatDoorF
open Go Go.Proofs.Vm

def lenN (n : Nat) : Nat := if n = 0 then 0 else Nat.log2 n + 1
theorem lenN_div {n k : Nat} (h : n / 2 ^ k ≠ 0) : lenN n = lenN (n / 2 ^ k) + k := by
  have hp : 0 < 2 ^ k := Nat.pow_pos (by decide)
  have hn : n ≠ 0 := by rintro rfl; simp at h
  have e : Nat.log2 n = Nat.log2 (n / 2 ^ k) + k := by
    have a1 := Nat.log2_self_le h
    have a2 := (Nat.log2_lt h).1 (Nat.lt_succ_self _)
    generalize Nat.log2 (n / 2 ^ k) = m at *
    have b1 : m + k ≤ Nat.log2 n := (Nat.le_log2 hn).2 (by rw [Nat.pow_add]; exact (Nat.le_div_iff_mul_le hp).1 a1)
    have b2 : Nat.log2 n < m + 1 + k := (Nat.log2_lt hn).2 (by rw [Nat.pow_add]; exact (Nat.div_lt_iff_lt_mul hp).1 a2)
    omega
  unfold lenN
  rw [if_neg hn, if_neg h, e]
  omega
theorem lenN_32 {n : Nat} (h : 4294967296 ≤ n) : lenN n = lenN (n / 4294967296) + 32 := lenN_div (k := 32) (by simp; omega)
theorem lenN_16 {n : Nat} (h : 65536 ≤ n) : lenN n = lenN (n / 65536) + 16 := lenN_div (k := 16) (by simp; omega)
theorem lenN_8 {n : Nat} (h : 256 ≤ n) : lenN n = lenN (n / 256) + 8 := lenN_div (k := 8) (by simp; omega)
/-- A table of lengths. -/
def lenTab (s : ByteArray) : Bool := decide (s.size = 256) && (List.range 256).all fun i => s.data.toList[i]? == some (UInt8.ofNat (lenN i))
theorem idx_tab {P : Program} {t : TypeId} (hu : pv P (underlying t) = some .string) {s : ByteArray} {k : IntKind} {y : Int} (hs : lenTab s = true) (h0 : 0 ≤ y) (h1 : y < 256) : vindex P t (vS s) (vI k y) = qa (vI .u8 (lenN y.toNat : Nat)) := by
  unfold lenTab at hs
  rw [Bool.and_eq_true, decide_eq_true_iff] at hs
  obtain ⟨hz, ha⟩ := hs
  rw [idx_str hu h0 (by omega)]
  have h := List.all_eq_true.1 ha y.toNat (List.mem_range.2 (by omega))
  have hb : byt s y = (lenN y.toNat : Nat) := by
    have e := beq_iff_eq.1 h
    unfold byt
    have hlt : y.toNat < s.size := by omega
    have h2 : s[y.toNat]? = some s[y.toNat] := by simp [hlt]
    rw [h2]
    have h3 : s.data.toList[y.toNat]? = some s[y.toNat] := by
      rw [List.getElem?_eq_getElem (by simpa using hlt)]
      rfl
    rw [h3] at e
    have hl : lenN y.toNat < 256 := by
      unfold lenN
      split
      · omega
      · rename_i hne
        have := (Nat.log2_lt hne (k := 8)).2 (by omega)
        omega
    show ((s[y.toNat].toNat : Nat) : Int) = _
    rw [Option.some.inj e]
    have := UInt8.toNat_ofNat (n := lenN y.toNat)
    simp
    omega
  rw [hb]
theorem u8_id {x : Int} (h0 : 0 ≤ x) (h1 : x < 256) : IntKind.u8.wrap x = x := by simp [IntKind.wrap, IntKind.bits, IntKind.signed]; omega
theorem bits_Len64 {x : Int} (h0 : 0 ≤ x) (h1 : x < 18446744073709551616) : TV.pu 86 [cI .u64 x] = some (cI .i64 (lenN x.toNat : Nat)) := by
  refine run86 (by simp) ?_
  have small : ∀ n, n < 256 → lenN n ≤ 8 := fun n hn => by
    unfold lenN
    split
    · omega
    · rename_i hne
      have := (Nat.log2_lt hne (k := 8)).2 (by omega)
      omega
  have fin : ∀ (y : Int) (b : Nat), 0 ≤ y → y < 256 → lenN x.toNat = lenN y.toNat + b → b ≤ 100 → IntKind.i64.wrap ((b : Int) + IntKind.i64.wrap (lenN y.toNat : Nat)) = (lenN x.toNat : Nat) := fun y b y0 y1 e hb => by
    have := small y.toNat (by omega)
    rw [w64_id (x := ((lenN y.toNat : Nat) : Int)) (by omega) (by omega), w64_id (by omega) (by omega), e]
    omega
  obtain ⟨n, rfl⟩ := Int.eq_ofNat_of_zero_le h0
  have k8 : IntKind.i64.wrap 8 = 8 := by decide
  have k16 : IntKind.i64.wrap 16 = 16 := by decide
  have k24 : IntKind.i64.wrap 24 = 24 := by decide
  have k40 : IntKind.i64.wrap 40 = 40 := by decide
  have k48 : IntKind.i64.wrap 48 = 48 := by decide
  have k56 : IntKind.i64.wrap 56 = 56 := by decide
  by_cases c1 : 4294967296 ≤ (n : Int)
  · by_cases c2 : 65536 ≤ (n : Int) / 4294967296
    · by_cases c3 : 256 ≤ (n : Int) / 4294967296 / 65536
      · have q0 := lenN_32 (n := n) (by omega)
        have q1 := lenN_16 (n := n / 4294967296) (by omega)
        have q2 := lenN_8 (n := n / 4294967296 / 65536) (by omega)
        have hy : ((n : Int) / 4294967296 / 65536 / 256).toNat = n / 4294967296 / 65536 / 256 := by omega
        have hf := fin ((n : Int) / 4294967296 / 65536 / 256) 56 (by omega) (by omega) (by simp only [hy, Int.toNat_natCast]; omega) (by omega)
        have hu := u8_id (x := (n : Int) / 4294967296 / 65536 / 256) (by omega) (by omega)
        simp -implicitDefEqProofs [Tryz.f86, c1, c2, c3, bin_shr, IntKind.bits, hu]
        rw [idx_tab us9 ?_ (by omega) (by omega)]
        rotate_left
        · decide +kernel
        simp at hf
        simp -implicitDefEqProofs [k48, k56, hf]
      · have q0 := lenN_32 (n := n) (by omega)
        have q1 := lenN_16 (n := n / 4294967296) (by omega)
        have hy : ((n : Int) / 4294967296 / 65536).toNat = n / 4294967296 / 65536 := by omega
        have hf := fin ((n : Int) / 4294967296 / 65536) 48 (by omega) (by omega) (by simp only [hy, Int.toNat_natCast]; omega) (by omega)
        have hu := u8_id (x := (n : Int) / 4294967296 / 65536) (by omega) (by omega)
        simp -implicitDefEqProofs [Tryz.f86, c1, c2, c3, bin_shr, IntKind.bits, hu]
        rw [idx_tab us9 ?_ (by omega) (by omega)]
        rotate_left
        · decide +kernel
        simp at hf
        simp -implicitDefEqProofs [k48, hf]
    · by_cases c3 : 256 ≤ (n : Int) / 4294967296
      · have q0 := lenN_32 (n := n) (by omega)
        have q1 := lenN_8 (n := n / 4294967296) (by omega)
        have hy : ((n : Int) / 4294967296 / 256).toNat = n / 4294967296 / 256 := by omega
        have hf := fin ((n : Int) / 4294967296 / 256) 40 (by omega) (by omega) (by simp only [hy, Int.toNat_natCast]; omega) (by omega)
        have hu := u8_id (x := (n : Int) / 4294967296 / 256) (by omega) (by omega)
        simp -implicitDefEqProofs [Tryz.f86, c1, c2, c3, bin_shr, IntKind.bits, hu]
        rw [idx_tab us9 ?_ (by omega) (by omega)]
        rotate_left
        · decide +kernel
        simp at hf
        simp -implicitDefEqProofs [k40, hf]
      · have q0 := lenN_32 (n := n) (by omega)
        have hy : ((n : Int) / 4294967296).toNat = n / 4294967296 := by omega
        have hf := fin ((n : Int) / 4294967296) 32 (by omega) (by omega) (by simp only [hy, Int.toNat_natCast]; omega) (by omega)
        have hu := u8_id (x := (n : Int) / 4294967296) (by omega) (by omega)
        simp -implicitDefEqProofs [Tryz.f86, c1, c2, c3, bin_shr, IntKind.bits, hu]
        rw [idx_tab us9 ?_ (by omega) (by omega)]
        rotate_left
        · decide +kernel
        simp at hf
        simp -implicitDefEqProofs [hf]
  · by_cases c2 : 65536 ≤ (n : Int)
    · by_cases c3 : 256 ≤ (n : Int) / 65536
      · have q0 := lenN_16 (n := n) (by omega)
        have q1 := lenN_8 (n := n / 65536) (by omega)
        have hy : ((n : Int) / 65536 / 256).toNat = n / 65536 / 256 := by omega
        have hf := fin ((n : Int) / 65536 / 256) 24 (by omega) (by omega) (by simp only [hy, Int.toNat_natCast]; omega) (by omega)
        have hu := u8_id (x := (n : Int) / 65536 / 256) (by omega) (by omega)
        simp -implicitDefEqProofs [Tryz.f86, c1, c2, c3, bin_shr, IntKind.bits, hu]
        rw [idx_tab us9 ?_ (by omega) (by omega)]
        rotate_left
        · decide +kernel
        simp at hf
        simp -implicitDefEqProofs [k16, k24, hf]
      · have q0 := lenN_16 (n := n) (by omega)
        have hy : ((n : Int) / 65536).toNat = n / 65536 := by omega
        have hf := fin ((n : Int) / 65536) 16 (by omega) (by omega) (by simp only [hy, Int.toNat_natCast]; omega) (by omega)
        have hu := u8_id (x := (n : Int) / 65536) (by omega) (by omega)
        simp -implicitDefEqProofs [Tryz.f86, c1, c2, c3, bin_shr, IntKind.bits, hu]
        rw [idx_tab us9 ?_ (by omega) (by omega)]
        rotate_left
        · decide +kernel
        simp at hf
        simp -implicitDefEqProofs [k16, hf]
    · by_cases c3 : 256 ≤ (n : Int)
      · have q0 := lenN_8 (n := n) (by omega)
        have hy : ((n : Int) / 256).toNat = n / 256 := by omega
        have hf := fin ((n : Int) / 256) 8 (by omega) (by omega) (by simp only [hy, Int.toNat_natCast]; omega) (by omega)
        have hu := u8_id (x := (n : Int) / 256) (by omega) (by omega)
        simp -implicitDefEqProofs [Tryz.f86, c1, c2, c3, bin_shr, IntKind.bits, hu]
        rw [idx_tab us9 ?_ (by omega) (by omega)]
        rotate_left
        · decide +kernel
        simp at hf
        simp -implicitDefEqProofs [k8, hf]
      · have hy : ((n : Int)).toNat = n := by omega
        have hf := fin ((n : Int)) 0 (by omega) (by omega) (by simp only [hy]; omega) (by omega)
        have hu := u8_id (x := (n : Int)) (by omega) (by omega)
        simp -implicitDefEqProofs [Tryz.f86, c1, c2, c3, hu]
        rw [idx_tab us9 ?_ (by omega) (by omega)]
        rotate_left
        · decide +kernel
        simp at hf
        simp -implicitDefEqProofs [hf]
theorem bits_Len {x : Int} (h0 : 0 ≤ x) (h1 : x < 18446744073709551616) : TV.pu 58 [cI .u64 x] = some (cI .i64 (lenN x.toNat : Nat)) := by
  refine run58 (by simp) ?_
  have h := bits_Len64 h0 h1
  simp -implicitDefEqProofs [Tryz.f58, h]
end Go.Proofs.YtngpmpmhpggpgaaGreatDoorF
end

section
/- The program's logarithm, and what it counts. -/
set_option maxRecDepth 8192
set_option maxHeartbeats 4000000
namespace Go.Proofs.YtngpmpmhpggpgaaGreatDoorF
open Go Go.Proofs.Vm

theorem or_one {a : Nat} (h : a < 1099511627776) : Go.bits .or .i64 ((a : Int) * 2) 1 = (a : Int) * 2 + 1 := by
  have e : ((a : Int) * 2) = ((2 * a : Nat) : Int) := by omega
  rw [e]
  show IntKind.i64.wrap ((BitVec.ofInt 64 ((2 * a : Nat) : Int) ||| BitVec.ofInt 64 ((1 : Nat) : Int)).toNat : Int) = _
  rw [BitVec.toNat_or, ofInt_u64 _ (by omega), ofInt_u64 _ (by omega), nat_join1 _ _ (by omega) (by omega), w64_id (by omega) (by omega)]
  omega
theorem univ_Log {n : Int} (h1 : n < 9223372036854775808) : TV.pu 29 [cI .i64 n] = some (cI .i64 (logI n)) := by
  refine run29 (by simp) ?_
  by_cases c1 : n < 1
  · simp -implicitDefEqProofs [Tryz.f29, c1, logI]
  obtain ⟨m, rfl⟩ := Int.eq_ofNat_of_zero_le (show 0 ≤ n by omega)
  have hm : m ≠ 0 := by omega
  have hl : logI (m : Int) = (lgN m : Nat) := by unfold logI; rw [if_neg c1, Int.toNat_natCast]
  rw [hl]
  have wu : IntKind.u64.wrap (m : Int) = m := u64_id (by omega) (by omega)
  have hL := bits_Len (x := (m : Int)) (by omega) (by omega)
  rw [Int.toNat_natCast] at hL
  obtain ⟨k, hk⟩ : ∃ k, Nat.log2 m = k := ⟨_, rfl⟩
  have hk63 := log2_lt63 (n := m) (by omega) hm
  have hln : ((lenN m : Nat) : Int) = (k : Int) + 1 := by unfold lenN; rw [if_neg hm, hk]; omega
  rw [hln] at hL
  have wk : IntKind.i64.wrap (k : Int) = (k : Int) := w64_id (by omega) (by omega)
  have hX := lgX_ok hm
  obtain ⟨X, hXe⟩ : ∃ X, lgX m (Nat.log2 m) = X := ⟨_, rfl⟩
  have hfin : lgN m = (lgIt 16 (k, X)).1 := by unfold lgN; rw [hXe, hk]
  rw [hXe, hk] at hX
  rw [hk] at hk63
  rw [hfin]
  obtain ⟨I, hI⟩ : ∃ I : Nat → St → Prop, ∀ q s', I q s' ↔ (∃ e i s, s' = ⟨e, []⟩ ∧ e 4 = vI .u64 (s.2 : Nat) ∧ e 5 = vI .i64 (s.1 : Nat) ∧ e 25 = vI .i64 (i : Nat) ∧ i + q = 16 ∧ s = lgIt i (k, X)) := ⟨_, fun _ _ => Iff.rfl⟩
  by_cases c2 : 30 < k
  · have c2' : 30 < (k : Int) := by omega
    have wk2 : IntKind.i64.wrap ((k : Int) - 30) = ((k - 30 : Nat) : Int) := by rw [w64_id (by omega) (by omega)]; omega
    have hmin : min (k - 30) 64 = k - 30 := by omega
    have hsh : (m : Int).fdiv (2 ^ (k - 30)) = (X : Int) := by
      rw [← hXe, hk]
      unfold lgX
      rw [if_pos c2, Int.fdiv_eq_ediv_of_nonneg _ (Int.pow_nonneg (by decide))]
      simp
    simp -implicitDefEqProofs [Tryz.f29, c1, wu, hL, wk, wk2, c2', hmin, hsh, bin_shr, IntKind.bits]
    refine wpL_ind I ?_ 16 _ ((hI _ _).2 ⟨_, 0, (k, X), rfl, by simp, by simp, by simp, by omega, rfl⟩)
    intro q st hst
    obtain ⟨e, i, s, rfl, e4, e5, e25, hq, hs⟩ := (hI _ _).1 hst
    have ok : lgOk s := by rw [hs]; exact lgIt_ok i hX
    have hb : s.1 < 4194304 := by
      have h1 := lgIt_lt i (k, X)
      rw [← hs] at h1
      have h2 : 2 ^ i ≤ 2 ^ 16 := Nat.pow_le_pow_right (by omega) (by omega)
      have h3 := Nat.mul_le_mul (show k + 1 ≤ 64 by omega) h2
      dsimp only at h1
      omega
    obtain ⟨a, x⟩ := s
    have sq := lgStep_sq ok
    obtain ⟨o1, o2⟩ := ok
    dsimp only at e4 e5 hb sq o1 o2
    by_cases c : i < 16
    · have c' : (i : Int) < 16 := by omega
      have w_i : IntKind.i64.wrap ((i : Int) + 1) = ((i + 1 : Nat) : Int) := by rw [w64_id (by omega) (by omega)]; omega
      obtain ⟨y, hy⟩ : ∃ y, x * x / 1073741824 = y := ⟨_, rfl⟩
      have hxx : (x : Int) * (x : Int) = ((x * x : Nat) : Int) := by simp
      have w1 : IntKind.u64.wrap ((x : Int) * (x : Int)) = (x : Int) * (x : Int) := by rw [hxx]; exact u64_id (by omega) (by omega)
      have hd : (x : Int) * (x : Int) / 1073741824 = (y : Int) := by rw [hxx]; omega
      have w2 : IntKind.i64.wrap ((a : Int) * 2) = (a : Int) * 2 := w64_id (by omega) (by omega)
      have ho := or_one (a := a) (by omega)
      have hst2 : lgStep (a, x) = if 2147483648 ≤ y then (2 * a + 1, y / 2) else (2 * a, y) := by unfold lgStep; simp only [hy]
      by_cases d : 2147483648 ≤ y
      · have d' : 2147483648 ≤ (y : Int) := by omega
        simp -implicitDefEqProofs [e4, e5, e25, c', w1, hd, w2, d', ho, bin_shr, bin_shl, IntKind.bits]
        exact ⟨q - 1, by omega, (hI _ _).2 ⟨_, i + 1, (2 * a + 1, y / 2), rfl, by simp, by simp; omega, by simp [w_i], by omega, by rw [lgIt_snoc, ← hs, hst2, if_pos d]⟩⟩
      · have d' : ¬ 2147483648 ≤ (y : Int) := by omega
        simp -implicitDefEqProofs [e4, e5, e25, c', w1, hd, w2, d', bin_shr, bin_shl, IntKind.bits]
        exact ⟨q - 1, by omega, (hI _ _).2 ⟨_, i + 1, (2 * a, y), rfl, by simp, by simp; omega, by simp [w_i], by omega, by rw [lgIt_snoc, ← hs, hst2, if_neg d]⟩⟩
    · have hi : i = 16 := by omega
      subst hi
      rw [← hs]
      simp -implicitDefEqProofs [e5, e25]
  · have c2' : ¬ 30 < (k : Int) := by omega
    have wk2 : IntKind.i64.wrap (30 - (k : Int)) = ((30 - k : Nat) : Int) := by rw [w64_id (by omega) (by omega)]; omega
    have hmin : min (30 - k) 64 = 30 - k := by omega
    have hx2 := hX.2
    have hsh : IntKind.u64.wrap ((m : Int) * 2 ^ (30 - k)) = (X : Int) := by
      have e : (m : Int) * 2 ^ (30 - k) = (X : Int) := by
        rw [← hXe, hk]
        unfold lgX
        rw [if_neg c2]
        simp
      rw [e]
      dsimp only at hx2
      exact u64_id (by omega) (by omega)
    simp -implicitDefEqProofs [Tryz.f29, c1, wu, hL, wk, wk2, c2', hmin, hsh, bin_shl, IntKind.bits]
    refine wpL_ind I ?_ 16 _ ((hI _ _).2 ⟨_, 0, (k, X), rfl, by simp, by simp, by simp, by omega, rfl⟩)
    intro q st hst
    obtain ⟨e, i, s, rfl, e4, e5, e25, hq, hs⟩ := (hI _ _).1 hst
    have ok : lgOk s := by rw [hs]; exact lgIt_ok i hX
    have hb : s.1 < 4194304 := by
      have h1 := lgIt_lt i (k, X)
      rw [← hs] at h1
      have h2 : 2 ^ i ≤ 2 ^ 16 := Nat.pow_le_pow_right (by omega) (by omega)
      have h3 := Nat.mul_le_mul (show k + 1 ≤ 64 by omega) h2
      dsimp only at h1
      omega
    obtain ⟨a, x⟩ := s
    have sq := lgStep_sq ok
    obtain ⟨o1, o2⟩ := ok
    dsimp only at e4 e5 hb sq o1 o2
    by_cases c : i < 16
    · have c' : (i : Int) < 16 := by omega
      have w_i : IntKind.i64.wrap ((i : Int) + 1) = ((i + 1 : Nat) : Int) := by rw [w64_id (by omega) (by omega)]; omega
      obtain ⟨y, hy⟩ : ∃ y, x * x / 1073741824 = y := ⟨_, rfl⟩
      have hxx : (x : Int) * (x : Int) = ((x * x : Nat) : Int) := by simp
      have w1 : IntKind.u64.wrap ((x : Int) * (x : Int)) = (x : Int) * (x : Int) := by rw [hxx]; exact u64_id (by omega) (by omega)
      have hd : (x : Int) * (x : Int) / 1073741824 = (y : Int) := by rw [hxx]; omega
      have w2 : IntKind.i64.wrap ((a : Int) * 2) = (a : Int) * 2 := w64_id (by omega) (by omega)
      have ho := or_one (a := a) (by omega)
      have hst2 : lgStep (a, x) = if 2147483648 ≤ y then (2 * a + 1, y / 2) else (2 * a, y) := by unfold lgStep; simp only [hy]
      by_cases d : 2147483648 ≤ y
      · have d' : 2147483648 ≤ (y : Int) := by omega
        simp -implicitDefEqProofs [e4, e5, e25, c', w1, hd, w2, d', ho, bin_shr, bin_shl, IntKind.bits]
        exact ⟨q - 1, by omega, (hI _ _).2 ⟨_, i + 1, (2 * a + 1, y / 2), rfl, by simp, by simp; omega, by simp [w_i], by omega, by rw [lgIt_snoc, ← hs, hst2, if_pos d]⟩⟩
      · have d' : ¬ 2147483648 ≤ (y : Int) := by omega
        simp -implicitDefEqProofs [e4, e5, e25, c', w1, hd, w2, d', bin_shr, bin_shl, IntKind.bits]
        exact ⟨q - 1, by omega, (hI _ _).2 ⟨_, i + 1, (2 * a, y), rfl, by simp, by simp; omega, by simp [w_i], by omega, by rw [lgIt_snoc, ← hs, hst2, if_neg d]⟩⟩
    · have hi : i = 16 := by omega
      subst hi
      rw [← hs]
      simp -implicitDefEqProofs [e5, e25]
end Go.Proofs.YtngpmpmhpggpgaaGreatDoorF
end

section
/- What a number counts, by the program and by the document; the document's logarithm. -/
set_option maxRecDepth 8192
set_option maxHeartbeats 4000000
namespace Go.Proofs.YtngpmpmhpggpgaaGreatDoorF
open Go Go.Proofs.Vm

theorem univ_Count {kind n : Int} : TV.pu 16 [cI .i64 kind, cI .i64 n] = some (cI .i64 (cntI kind n)) := by
  refine run16 (by simp) ?_
  have hcl : (if 1048576 < (if n < 0 then 0 else n) then 1048576 else if n < 0 then 0 else n) = clip n := by unfold clip; split <;> split <;> omega
  have hr := clip_range n
  have hL := univ_Log (n := clip n) (by omega)
  have hR := cntI_range kind n
  unfold cntI at hR ⊢
  obtain ⟨c, hc⟩ : ∃ c, clip n = c := ⟨_, rfl⟩
  rw [hc] at hcl hr hL hR ⊢
  by_cases k0 : kind = 0
  · subst k0
    have e : (if 1 < c then 1 else c) = if c < 1 then c else 1 := by split <;> split <;> omega
    simp -implicitDefEqProofs [Tryz.f16, hcl, e]
  by_cases k1 : kind = 1
  · subst k1
    simp -implicitDefEqProofs [Tryz.f16, hcl]
  by_cases k2 : kind = 2
  · subst k2
    simp only [if_neg (show ¬ ((2 : Int) = 0) by decide), if_neg (show ¬ ((2 : Int) = 1) by decide), if_true] at hR ⊢
    have w : IntKind.i64.wrap (c * c) = c * c := w64_id (by omega) (by omega)
    simp -implicitDefEqProofs [Tryz.f16, hcl, w]
  by_cases k3 : kind = 3
  · subst k3
    simp only [if_neg (show ¬ ((3 : Int) = 0) by decide), if_neg (show ¬ ((3 : Int) = 1) by decide), if_neg (show ¬ ((3 : Int) = 2) by decide), if_true] at hR ⊢
    have w : IntKind.i64.wrap (c * logI c) = c * logI c := w64_id (by omega) (by omega)
    simp -implicitDefEqProofs [Tryz.f16, hcl, hL, w]
  · simp -implicitDefEqProofs [Tryz.f16, hcl, k0, k1, k2, k3]
end Go.Proofs.YtngpmpmhpggpgaaGreatDoorF
end
