/- Steps shared by the proofs of this seat's statements (part 4). -/
import Derived.Test.YtngpmpmhpggpgaaGreatDoorM3
import Derived.Test.YtngpmpmhpggpgaaGreatDoorM2
section
/- The document's logarithm, and what a number counts. -/
set_option maxRecDepth 8192
set_option maxHeartbeats 4000000
namespace Go.Proofs.YtngpmpmhpggpgaaGreatDoorF
open Go Go.Proofs.Vm

theorem r18_Log {n : Int} (h0 : 1 ≤ n) (h1 : n < 9223372036854775808) : TV.pu 81 [cI .i64 n] = some (cI .i64 (logI n)) := by
  refine run81 (by simp) ?_
  obtain ⟨m, rfl⟩ := Int.eq_ofNat_of_zero_le (show 0 ≤ n by omega)
  have hm : m ≠ 0 := by omega
  have hl : logI (m : Int) = (lgN m : Nat) := by unfold logI; rw [if_neg (by omega), Int.toNat_natCast]
  rw [hl]
  obtain ⟨K, hK⟩ : ∃ K, Nat.log2 m = K := ⟨_, rfl⟩
  have hk63 := log2_lt63 (n := m) (by omega) hm
  have hX := lgX_ok hm
  obtain ⟨X, hXe⟩ : ∃ X, lgX m (Nat.log2 m) = X := ⟨_, rfl⟩
  have hfin : lgN m = (lgIt 16 (K, X)).1 := by unfold lgN; rw [hXe, hK]
  have lo := Nat.log2_self_le hm
  have hi2 := (Nat.log2_lt hm).1 (Nat.lt_succ_self _)
  rw [hXe, hK] at hX
  rw [hK] at hk63 lo hi2
  rw [hK] at hXe
  rw [hfin]
  simp -implicitDefEqProofs [Tryz.f81]
  obtain ⟨I, hI⟩ : ∃ I : Nat → St → Prop, ∀ q s', I q s' ↔ (∃ e k, s' = ⟨e, []⟩ ∧ e 0 = vI .i64 (m : Nat) ∧ e 3 = vI .i64 (k : Nat) ∧ e 4 = vI .i64 ((2 ^ k : Nat) : Int) ∧ (k + q = K)) := ⟨_, fun _ _ => Iff.rfl⟩
  refine wpL_ind I ?_ K _ ((hI _ _).2 ⟨_, 0, (by first | rfl | (simp; done) | (simp; rfl) | (simp; and_intros <;> rfl)), by simp, by simp, by simp, by omega⟩)
  intro q stI hstI
  obtain ⟨e, k, rfl, e0, e3, e4, hq⟩ := (hI _ _).1 hstI
  have hp0 : 0 < 2 ^ k := Nat.pow_pos (by decide)
  have hpk : 2 ^ k ≤ 2 ^ K := Nat.pow_le_pow_right (by decide) (by omega)
  obtain ⟨p, hp⟩ : ∃ p, 2 ^ k = p := ⟨_, rfl⟩
  have hpn : ((2 ^ k : Nat) : Int) = (p : Int) := by rw [hp]
  rw [hpn] at e4
  have hne : (p : Int) ≠ 0 := by omega
  have hne' : p ≠ 0 := by omega
  obtain ⟨d, hd⟩ : ∃ d, m / p = d := ⟨_, rfl⟩
  have htd : (m : Int).tdiv (p : Int) = (d : Int) := by rw [Int.tdiv_eq_ediv_of_nonneg (by omega), ← hd]; simp
  have hle : d ≤ m := by rw [← hd]; exact Nat.div_le_self _ _
  have wq : IntKind.i64.wrap (d : Int) = (d : Int) := w64_id (by omega) (by omega)
  by_cases c : k < K
  · have h2 : 2 ^ (k + 1) ≤ 2 ^ K := Nat.pow_le_pow_right (by decide) (by omega)
    have h22 : 2 ^ (k + 1) = p * 2 := by rw [Nat.pow_succ, hp]
    have hgt : 1 < d := by rw [← hd]; exact (Nat.le_div_iff_mul_le (by omega)).2 (by omega)
    have hgt' : 1 < (d : Int) := by omega
    have w1 : IntKind.i64.wrap ((p : Int) * 2) = (p : Int) * 2 := w64_id (by omega) (by omega)
    have w_k : IntKind.i64.wrap ((k : Int) + 1) = ((k + 1 : Nat) : Int) := by rw [w64_id (by omega) (by omega)]; omega
    simp -implicitDefEqProofs [e0, e3, e4, bin_quo, hne', htd, wq, hgt', w1, w_k]
    exact ⟨q - 1, by omega, (hI _ _).2 ⟨_, k + 1, rfl, by simp [e0], by simp, by simp [h22], by omega⟩⟩
  · have hkK : k = K := by omega
    subst hkK
    have hle1 : ¬ 1 < d := by
      intro h
      rw [← hd] at h
      have := (Nat.le_div_iff_mul_le (show 0 < p by omega)).1 h
      rw [Nat.succ_eq_add_one, Nat.pow_succ, hp] at hi2
      omega
    have hle' : ¬ 1 < (d : Int) := by omega
    by_cases c2 : 30 < k
    · have c2' : 30 < (k : Int) := by omega
      simp -implicitDefEqProofs [e0, e3, e4, bin_quo, hne', htd, wq, hle', c2']
      obtain ⟨B, hB⟩ : ∃ B : Nat → St → Prop, ∀ r s', B r s' ↔ (∃ e j, s' = ⟨e, []⟩ ∧ e 0 = vI .i64 ((m / 2 ^ j : Nat) : Int) ∧ e 3 = vI .i64 (k : Nat) ∧ e 6 = vI .i64 ((30 + j : Nat) : Int) ∧ (30 + j + r = k)) := ⟨_, fun _ _ => Iff.rfl⟩
      refine wpL_ind B ?_ (k - 30) _ ((hB _ _).2 ⟨_, 0, (by first | rfl | (simp [e0, e3]; done) | (simp [e0, e3]; rfl) | (simp [e0, e3]; and_intros <;> rfl)), by simp [e0], by simp [e3], by simp, by omega⟩)
      intro r stB hstB
      obtain ⟨e, j, rfl, e0, e3, e6, hr⟩ := (hB _ _).1 hstB
      obtain ⟨v, hv⟩ : ∃ v, m / 2 ^ j = v := ⟨_, rfl⟩
      have hvm : v ≤ m := by rw [← hv]; exact Nat.div_le_self _ _
      have hvn : ((m / 2 ^ j : Nat) : Int) = (v : Int) := by rw [hv]
      rw [hvn] at e0
      obtain ⟨i, hi⟩ : ∃ i, 30 + j = i := ⟨_, rfl⟩
      have hin : ((30 + j : Nat) : Int) = (i : Int) := by rw [hi]
      rw [hin] at e6
      by_cases c3 : i < k
      · have wv : (v : Int).tdiv 2 = ((v / 2 : Nat) : Int) := by rw [Int.tdiv_eq_ediv_of_nonneg (by omega)]; simp
        have wv2 : IntKind.i64.wrap ((v / 2 : Nat) : Int) = ((v / 2 : Nat) : Int) := w64_id (by omega) (by omega)
        obtain ⟨v2, hv2⟩ : ∃ v2, v / 2 = v2 := ⟨_, rfl⟩
        rw [hv2] at wv wv2
        have hnx : m / 2 ^ (j + 1) = v2 := by rw [Nat.pow_succ, ← Nat.div_div_eq_div_mul, hv, hv2]
        have w_i : IntKind.i64.wrap ((i : Int) + 1) = ((i + 1 : Nat) : Int) := by rw [w64_id (by omega) (by omega)]; omega
        simp -implicitDefEqProofs [e0, e3, e6, c3, wv, wv2, w_i, bin_quo]
        exact ⟨r - 1, by omega, (hB _ _).2 ⟨_, j + 1, rfl, by simp [hnx], by simp [e3], by simp; omega, by omega⟩⟩
      · have hjk : j = k - 30 := by omega
        have hXv : v = X := by
          rw [← hv, ← hXe, hjk]
          unfold lgX
          rw [if_pos c2]
        rw [hXv] at e0
        simp -implicitDefEqProofs [e0, e3, e6, c3]
        obtain ⟨J, hJ⟩ : ∃ J : Nat → St → Prop, ∀ r s', J r s' ↔ (∃ e' i s, s' = ⟨e', []⟩ ∧ e' 3 = vI .i64 (s.1 : Nat) ∧ e' 5 = vI .i64 (s.2 : Nat) ∧ e' 8 = vI .i64 (i : Nat) ∧ (i + r = 16) ∧ (s = lgIt i (k, X))) := ⟨_, fun _ _ => Iff.rfl⟩
        refine wpL_ind J ?_ 16 _ ((hJ _ _).2 ⟨_, 0, (k, X), (by first | rfl | (simp [e0, e3]; done) | (simp [e0, e3]; rfl) | (simp [e0, e3]; and_intros <;> rfl)), by simp [e3], by simp, by simp, by omega, rfl⟩)
        intro r stJ hstJ
        obtain ⟨e', i, s, rfl, e3, e5, e8, hr, hs⟩ := (hJ _ _).1 hstJ
        have ok : lgOk s := by rw [hs]; exact lgIt_ok i hX
        have hb : s.1 < 4194304 := by
          have h1 := lgIt_lt i (k, X)
          rw [← hs] at h1
          have h2 : 2 ^ i ≤ 2 ^ 16 := Nat.pow_le_pow_right (by omega) (by omega)
          have h3 := Nat.mul_le_mul (show k + 1 ≤ 64 by omega) h2
          dsimp only at h1
          omega
        obtain ⟨a, x⟩ := s
        have sq := lgStep_sq ok
        obtain ⟨o1, o2⟩ := ok
        dsimp only at e3 e5 hb sq o1 o2
        by_cases c : i < 16
        · have c' : (i : Int) < 16 := by omega
          have w_i : IntKind.i64.wrap ((i : Int) + 1) = ((i + 1 : Nat) : Int) := by rw [w64_id (by omega) (by omega)]; omega
          obtain ⟨y, hy⟩ : ∃ y, x * x / 1073741824 = y := ⟨_, rfl⟩
          have hxx : (x : Int) * (x : Int) = ((x * x : Nat) : Int) := by simp
          have w1 : IntKind.i64.wrap ((x : Int) * (x : Int)) = (x : Int) * (x : Int) := by rw [hxx]; exact w64_id (by omega) (by omega)
          have hd1 : ((x : Int) * (x : Int)).tdiv 1073741824 = (y : Int) := by rw [Int.tdiv_eq_ediv_of_nonneg (by rw [hxx]; omega), hxx]; omega
          have wy : IntKind.i64.wrap (y : Int) = (y : Int) := w64_id (by omega) (by omega)
          have w2 : IntKind.i64.wrap ((a : Int) * 2) = (a : Int) * 2 := w64_id (by omega) (by omega)
          have w3 : IntKind.i64.wrap ((a : Int) * 2 + 1) = (a : Int) * 2 + 1 := w64_id (by omega) (by omega)
          have hy2 : (y : Int).tdiv 2 = ((y / 2 : Nat) : Int) := by rw [Int.tdiv_eq_ediv_of_nonneg (by omega)]; simp
          have wy2 : IntKind.i64.wrap ((y / 2 : Nat) : Int) = ((y / 2 : Nat) : Int) := w64_id (by omega) (by omega)
          obtain ⟨y2, hy3⟩ : ∃ y2, y / 2 = y2 := ⟨_, rfl⟩
          rw [hy3] at hy2 wy2
          have hst2 : lgStep (a, x) = if 2147483648 ≤ y then (2 * a + 1, y / 2) else (2 * a, y) := by unfold lgStep; simp only [hy]
          by_cases d2 : 2147483648 ≤ y
          · have d' : 2147483648 ≤ (y : Int) := by omega
            simp -implicitDefEqProofs [e3, e5, e8, c', w1, hd1, wy, w2, w3, hy2, wy2, d', bin_quo]
            exact ⟨r - 1, by omega, (hJ _ _).2 ⟨_, i + 1, (2 * a + 1, y2), rfl, by simp; omega, by simp, by simp [w_i], by omega, by rw [lgIt_snoc, ← hs, hst2, if_pos d2, hy3]⟩⟩
          · have d' : ¬ 2147483648 ≤ (y : Int) := by omega
            simp -implicitDefEqProofs [e3, e5, e8, c', w1, hd1, wy, w2, d', bin_quo]
            exact ⟨r - 1, by omega, (hJ _ _).2 ⟨_, i + 1, (2 * a, y), rfl, by simp; omega, by simp, by simp [w_i], by omega, by rw [lgIt_snoc, ← hs, hst2, if_neg d2]⟩⟩
        · have hi : i = 16 := by omega
          subst hi
          rw [← hs]
          simp -implicitDefEqProofs [e3, e8]
    · have c2' : ¬ 30 < (k : Int) := by omega
      simp -implicitDefEqProofs [e0, e3, e4, bin_quo, hne', htd, wq, hle', c2']
      obtain ⟨B, hB⟩ : ∃ B : Nat → St → Prop, ∀ r s', B r s' ↔ (∃ e j, s' = ⟨e, []⟩ ∧ e 3 = vI .i64 (k : Nat) ∧ e 5 = vI .i64 ((m * 2 ^ j : Nat) : Int) ∧ e 7 = vI .i64 ((k + j : Nat) : Int) ∧ (k + j + r = 30)) := ⟨_, fun _ _ => Iff.rfl⟩
      refine wpL_ind B ?_ (30 - k) _ ((hB _ _).2 ⟨_, 0, (by first | rfl | (simp [e0, e3]; done) | (simp [e0, e3]; rfl) | (simp [e0, e3]; and_intros <;> rfl)), by simp [e3], by simp, by simp, by omega⟩)
      intro r stB hstB
      obtain ⟨e, j, rfl, e3, e5, e7, hr⟩ := (hB _ _).1 hstB
      have hxb : m * 2 ^ j ≤ X := by
        rw [← hXe]
        unfold lgX
        rw [if_neg c2]
        exact Nat.mul_le_mul_left _ (Nat.pow_le_pow_right (by decide) (by omega))
      have hx2 := hX.2
      dsimp only at hx2
      obtain ⟨v, hv⟩ : ∃ v, m * 2 ^ j = v := ⟨_, rfl⟩
      have hvn : ((m * 2 ^ j : Nat) : Int) = (v : Int) := by rw [hv]
      rw [hvn] at e5
      rw [hv] at hxb
      obtain ⟨i, hi⟩ : ∃ i, k + j = i := ⟨_, rfl⟩
      have hin : ((k + j : Nat) : Int) = (i : Int) := by rw [hi]
      rw [hin] at e7
      by_cases c3 : i < 30
      · have c3' : (i : Int) < 30 := by omega
        have wv : IntKind.i64.wrap ((v : Int) * 2) = (v : Int) * 2 := w64_id (by omega) (by omega)
        have hnx : m * 2 ^ (j + 1) = v * 2 := by rw [Nat.pow_succ, ← Nat.mul_assoc, hv]
        have w_i : IntKind.i64.wrap ((i : Int) + 1) = ((i + 1 : Nat) : Int) := by rw [w64_id (by omega) (by omega)]; omega
        simp -implicitDefEqProofs [e5, e7, c3', wv, w_i]
        exact ⟨r - 1, by omega, (hB _ _).2 ⟨_, j + 1, rfl, by simp [e3], by simp [hnx], by simp; omega, by omega⟩⟩
      · have c3' : ¬ (i : Int) < 30 := by omega
        have hjk : j = 30 - k := by omega
        have hXv : v = X := by
          rw [← hv, ← hXe, hjk]
          unfold lgX
          rw [if_neg c2]
        rw [hXv] at e5
        simp -implicitDefEqProofs [e7, c3']
        obtain ⟨J, hJ⟩ : ∃ J : Nat → St → Prop, ∀ r s', J r s' ↔ (∃ e' i s, s' = ⟨e', []⟩ ∧ e' 3 = vI .i64 (s.1 : Nat) ∧ e' 5 = vI .i64 (s.2 : Nat) ∧ e' 8 = vI .i64 (i : Nat) ∧ (i + r = 16) ∧ (s = lgIt i (k, X))) := ⟨_, fun _ _ => Iff.rfl⟩
        refine wpL_ind J ?_ 16 _ ((hJ _ _).2 ⟨_, 0, (k, X), (by first | rfl | (simp [e3, e5]; done) | (simp [e3, e5]; rfl) | (simp [e3, e5]; and_intros <;> rfl)), by simp [e3], by simp [e5], by simp, by omega, rfl⟩)
        intro r stJ hstJ
        obtain ⟨e', i, s, rfl, e3, e5, e8, hr, hs⟩ := (hJ _ _).1 hstJ
        have ok : lgOk s := by rw [hs]; exact lgIt_ok i hX
        have hb : s.1 < 4194304 := by
          have h1 := lgIt_lt i (k, X)
          rw [← hs] at h1
          have h2 : 2 ^ i ≤ 2 ^ 16 := Nat.pow_le_pow_right (by omega) (by omega)
          have h3 := Nat.mul_le_mul (show k + 1 ≤ 64 by omega) h2
          dsimp only at h1
          omega
        obtain ⟨a, x⟩ := s
        have sq := lgStep_sq ok
        obtain ⟨o1, o2⟩ := ok
        dsimp only at e3 e5 hb sq o1 o2
        by_cases c : i < 16
        · have c' : (i : Int) < 16 := by omega
          have w_i : IntKind.i64.wrap ((i : Int) + 1) = ((i + 1 : Nat) : Int) := by rw [w64_id (by omega) (by omega)]; omega
          obtain ⟨y, hy⟩ : ∃ y, x * x / 1073741824 = y := ⟨_, rfl⟩
          have hxx : (x : Int) * (x : Int) = ((x * x : Nat) : Int) := by simp
          have w1 : IntKind.i64.wrap ((x : Int) * (x : Int)) = (x : Int) * (x : Int) := by rw [hxx]; exact w64_id (by omega) (by omega)
          have hd1 : ((x : Int) * (x : Int)).tdiv 1073741824 = (y : Int) := by rw [Int.tdiv_eq_ediv_of_nonneg (by rw [hxx]; omega), hxx]; omega
          have wy : IntKind.i64.wrap (y : Int) = (y : Int) := w64_id (by omega) (by omega)
          have w2 : IntKind.i64.wrap ((a : Int) * 2) = (a : Int) * 2 := w64_id (by omega) (by omega)
          have w3 : IntKind.i64.wrap ((a : Int) * 2 + 1) = (a : Int) * 2 + 1 := w64_id (by omega) (by omega)
          have hy2 : (y : Int).tdiv 2 = ((y / 2 : Nat) : Int) := by rw [Int.tdiv_eq_ediv_of_nonneg (by omega)]; simp
          have wy2 : IntKind.i64.wrap ((y / 2 : Nat) : Int) = ((y / 2 : Nat) : Int) := w64_id (by omega) (by omega)
          obtain ⟨y2, hy3⟩ : ∃ y2, y / 2 = y2 := ⟨_, rfl⟩
          rw [hy3] at hy2 wy2
          have hst2 : lgStep (a, x) = if 2147483648 ≤ y then (2 * a + 1, y / 2) else (2 * a, y) := by unfold lgStep; simp only [hy]
          by_cases d2 : 2147483648 ≤ y
          · have d' : 2147483648 ≤ (y : Int) := by omega
            simp -implicitDefEqProofs [e3, e5, e8, c', w1, hd1, wy, w2, w3, hy2, wy2, d', bin_quo]
            exact ⟨r - 1, by omega, (hJ _ _).2 ⟨_, i + 1, (2 * a + 1, y2), rfl, by simp; omega, by simp, by simp [w_i], by omega, by rw [lgIt_snoc, ← hs, hst2, if_pos d2, hy3]⟩⟩
          · have d' : ¬ 2147483648 ≤ (y : Int) := by omega
            simp -implicitDefEqProofs [e3, e5, e8, c', w1, hd1, wy, w2, d', bin_quo]
            exact ⟨r - 1, by omega, (hJ _ _).2 ⟨_, i + 1, (2 * a, y), rfl, by simp; omega, by simp, by simp [w_i], by omega, by rw [lgIt_snoc, ← hs, hst2, if_neg d2]⟩⟩
        · have hi : i = 16 := by omega
          subst hi
          rw [← hs]
          simp -implicitDefEqProofs [e3, e8]
theorem r18_Count {kind n : Int} (h1 : n < 9223372036854775808) : TV.pu 53 [cI .i64 kind, cI .i64 n] = some (cI .i64 (cntI kind n)) := by
  refine run53 (by simp) ?_
  have hR := cntI_range kind n
  by_cases c1 : n < 1
  · have e : cntI kind n = 0 := by
      have : clip n = 0 := by unfold clip; split <;> (try split) <;> omega
      unfold cntI
      rw [this]
      simp
    rw [e]
    simp -implicitDefEqProofs [Tryz.f53, c1]
  by_cases c2 : kind < 0
  · have e : cntI kind n = 0 := by unfold cntI; rw [if_neg (by omega), if_neg (by omega), if_neg (by omega), if_neg (by omega)]
    rw [e]
    simp -implicitDefEqProofs [Tryz.f53, c1, c2]
  by_cases c3 : 3 < kind
  · have e : cntI kind n = 0 := by unfold cntI; rw [if_neg (by omega), if_neg (by omega), if_neg (by omega), if_neg (by omega)]
    rw [e]
    simp -implicitDefEqProofs [Tryz.f53, c1, c2, c3]
  have hr := clip_range n
  have hc1 : 1 ≤ clip n := by unfold clip; split <;> (try split) <;> omega
  have hL := r18_Log hc1 (by omega)
  have hk : kind = 0 ∨ kind = 1 ∨ kind = 2 ∨ kind = 3 := by omega
  obtain ⟨c, hc⟩ : ∃ c, clip n = c := ⟨_, rfl⟩
  unfold cntI at hR ⊢
  rw [hc] at hR hL hr hc1 ⊢
  by_cases c4 : 1048576 < n
  · have hcn : c = 1048576 := by rw [← hc]; unfold clip; rw [if_neg (by omega), if_pos c4]
    subst hcn
    rcases hk with rfl | rfl | rfl | rfl
    · simp -implicitDefEqProofs [Tryz.f53, c1, c4]
    · simp -implicitDefEqProofs [Tryz.f53, c1, c4]
    · have w : IntKind.i64.wrap 1099511627776 = 1099511627776 := by decide
      simp -implicitDefEqProofs [Tryz.f53, c1, c4, w]
    · simp only [if_neg (show ¬ ((3 : Int) = 0) by decide), if_neg (show ¬ ((3 : Int) = 1) by decide), if_neg (show ¬ ((3 : Int) = 2) by decide), if_true] at hR ⊢
      have w : IntKind.i64.wrap (1048576 * logI 1048576) = 1048576 * logI 1048576 := w64_id (by omega) (by omega)
      simp -implicitDefEqProofs [Tryz.f53, c1, c4, hL, w]
  · have hcn : c = n := by rw [← hc]; unfold clip; rw [if_neg (by omega), if_neg c4]
    subst hcn
    rcases hk with rfl | rfl | rfl | rfl
    · simp -implicitDefEqProofs [Tryz.f53, c1, c4]
    · simp -implicitDefEqProofs [Tryz.f53, c1, c4]
    · simp only [if_neg (show ¬ ((2 : Int) = 0) by decide), if_neg (show ¬ ((2 : Int) = 1) by decide), if_true] at hR ⊢
      have w : IntKind.i64.wrap (c * c) = c * c := w64_id (by omega) (by omega)
      simp -implicitDefEqProofs [Tryz.f53, c1, c4, w]
    · simp only [if_neg (show ¬ ((3 : Int) = 0) by decide), if_neg (show ¬ ((3 : Int) = 1) by decide), if_neg (show ¬ ((3 : Int) = 2) by decide), if_true] at hR ⊢
      have w : IntKind.i64.wrap (c * logI c) = c * logI c := w64_id (by omega) (by omega)
      simp -implicitDefEqProofs [Tryz.f53, c1, c4, hL, w]
end Go.Proofs.YtngpmpmhpggpgaaGreatDoorF
end

section
/- A key comes to a sketch of levels. -/
set_option maxRecDepth 8192
set_option maxHeartbeats 4000000
namespace Go.Proofs.YtngpmpmhpggpgaaGreatDoorF
open Go Go.Proofs.Vm

theorem okR_add {seed : Int} {key : ByteArray} {n : Int} {rows : List (List Int)} (hok : OkR rows) (hf : ∀ j, ∀ h : j < rows.length, fitsB (newV seed key n (j : Int) rows[j]) = true) : OkR (addRows seed key n rows) where
  l7 := by rw [addRows_len]; exact hok.l7
  odd := by rw [addRows_len]; exact hok.odd
  row r hr := by
    obtain ⟨i, hi, rfl⟩ := List.getElem_of_mem hr
    have hi' : i < rows.length := by rw [addRows_len] at hi; exact hi
    have hlen : ∀ j (h : j < rows.length) (h2 : j < (addRows seed key n rows).length), (addRows seed key n rows)[j].length = rows[j].length := fun j h h2 => by rw [addRows_at j h h2]; simp [updRow]
    have h := hok.row _ (List.getElem_mem hi')
    have h0 : 0 < rows.length := by omega
    have hd : ((addRows seed key n rows).headD []).length = (rows.headD []).length := by
      have e1 : ∀ l : List (List Int), (h : 0 < l.length) → l.headD [] = l[0] := fun l h => by cases l with | nil => simp at h | cons a t => rfl
      rw [e1 _ (by rw [addRows_len]; exact h0), e1 _ h0]
      exact hlen 0 h0 _
    rw [hlen i hi' hi, hd]
    refine ⟨h.1, h.2.1, h.2.2.1, fun v hv => ?_⟩
    rw [addRows_at i hi' hi] at hv
    unfold updRow at hv
    rcases List.mem_or_eq_of_mem_set hv with h1 | h1
    · exact h.2.2.2 v h1
    · subst h1
      exact (fitsB_iff _).1 (hf i hi')
theorem lv_Clone {lvs : List Lv} {H : Hp} (h0 : lvs ≠ []) (hl : lvs.length ≤ 1000) : TV.S 41 [.one (.c (.arr (lvs.map cLv)))] H = some (.one (.sl (H.length + 1) 0 lvs.length lvs.length), H ++ [.clo [] false, .clo (lvs.map cLv) false]) := by
  refine run41 (by simp) (by simp) ?_
  have hal : ∀ x ∈ lvs.map cLv, x.length = 3 := fun x hx => by obtain ⟨y, _, rfl⟩ := List.mem_map.1 hx; rfl
  have ha := vappend_eq (P := Tryz.prog) (H := H ++ [.clo [] false, .clo [] false]) (t := 26) (tx := 26) (id := H.length + 1) (n := 0) (l := []) (xs := lvs.map cLv) (x := .one (.c (.arr (lvs.map cLv)))) es26 es26 el42
    (by simp) rfl rfl (by simp) hal (by simp; omega) (by simp; omega)
  obtain ⟨x, t, rfl⟩ : ∃ h t, lvs = h :: t := by cases lvs with | nil => exact absurd rfl h0 | cons h t => exact ⟨h, t, rfl⟩
  simp at ha
  simp [Tryz.f41, vmove, isNil, bin_sln es26, bs_zero es26 el42, ha]
theorem univ_Add_arg {s : Us} {key : ByteArray} (g : UGood s) (hok : uOk s = false) : TV.pu 18 [.agg (cUs s), cS key] = some (.tup [(true, cUs (0, 0, [])), (false, [.v (.int .i64 1)])]) := by
  refine run18 (by simp) ?_
  have hR := univ_Right g
  rw [hok] at hR
  simp only [cUs] at hR
  simp [Tryz.f18, cUs, hR, vstore, cellsOf?, Ent.wrO, wr, vmove, isNil]
  simp [qa]
/-- The memory of a sketch while a key comes: the sketch, its answer, its levels. -/
structure UH (sd room : Int) (n z o o2 d : Nat) (Ls : List (List CV)) (H : Hp) : Prop where
  gz : H[z]? = some (.opn [[.c (.v (.int .u64 sd)), .c (.v (.int .i64 room)), .sl d 0 n n]] false)
  go : H[o]? = some (.opn [[.c (.v (.int .u64 0)), .c (.v (.int .i64 0)), .sl o2 0 0 0]] false)
  g2 : H[o2]? = some (.clo [] false)
  gd : H[d]? = some (.clo Ls false)
  nd : z ≠ d ∧ o ≠ d ∧ o2 ≠ d ∧ z ≠ o
section
variable {sd room : Int} {n z o o2 d : Nat} {Ls : List (List CV)} {H : Hp}
theorem gapp {G : Hp} {i : Nat} {e : Ent} (T : Hp) (h : G[i]? = some e) : (G ++ T)[i]? = some e := by rw [List.getElem?_append_left (List.getElem?_eq_some_iff.1 h).1]; exact h
theorem glt {G : Hp} {i : Nat} {e : Ent} (h : G[i]? = some e) : i < G.length := (List.getElem?_eq_some_iff.1 h).1
theorem UH.app (h : UH sd room n z o o2 d Ls H) (T : Hp) : UH sd room n z o o2 d Ls (H ++ T) := ⟨gapp T h.gz, gapp T h.go, gapp T h.g2, gapp T h.gd, h.nd⟩
theorem frz_at {G : Hp} {a b : Nat} (h : b ≠ a) : (frzAll G [a])[b]? = G[b]? := by
  simp only [frzAll, List.foldl_cons, List.foldl_nil, List.getElem?_modify]
  cases G[b]? with
  | none => rfl
  | some e => simp [Ne.symm h]
theorem UH.frz (h : UH sd room n z o o2 d Ls H) {a : Nat} (hz : z ≠ a) (ho : o ≠ a) (h2 : o2 ≠ a) (hd : d ≠ a) : UH sd room n z o o2 d Ls (frzAll H [a]) :=
  ⟨by rw [frz_at hz]; exact h.gz, by rw [frz_at ho]; exact h.go, by rw [frz_at h2]; exact h.g2, by rw [frz_at hd]; exact h.gd, h.nd⟩
theorem sget {G : Hp} {a b : Nat} {e : Ent} (h : a ≠ b) : (G.set a e)[b]? = G[b]? := List.getElem?_set_ne h
theorem sself {G : Hp} {a : Nat} {e x : Ent} (h : G[a]? = some x) : (G.set a e)[a]? = some e := List.getElem?_set_self (glt h)
theorem UH.setd (h : UH sd room n z o o2 d Ls H) (Ls' : List (List CV)) : UH sd room n z o o2 d Ls' (H.set d (.clo Ls' false)) :=
  ⟨by rw [sget (Ne.symm h.nd.1)]; exact h.gz, by rw [sget (Ne.symm h.nd.2.1)]; exact h.go, by rw [sget (Ne.symm h.nd.2.2.1)]; exact h.g2, sself h.gd, h.nd⟩
end
open Classical in
theorem univ_Add {s : Us} {key : ByteArray} (g : UGood s) (hs : key.size ≤ 140737488351232) (u : UOk s) : TV.pu 18 [.agg (cUs s), cS key] = some (if fitU s key then .tup [(true, cUs (uAdd s key)), (false, [.v (.int .i64 0)])] else .tup [(true, cUs (0, 0, [])), (false, [.v (.int .i64 5)])]) := by
  refine run18 (by simp) ?_
  have hR := univ_Right g
  rw [uOk_iff.2 u] at hR
  obtain ⟨res, hres⟩ : ∃ res, (if fitU s key then CA.tup [(true, cUs (uAdd s key)), (false, [.v (.int .i64 0)])] else .tup [(true, cUs (0, 0, [])), (false, [.v (.int .i64 5)])]) = res := ⟨_, rfl⟩
  rw [hres]
  have hlr := uLev_range u.l1 key
  have hll := lvTo_len s key
  have hl0 := lvTo_zero s key
  have hls := lvTo_set s key
  have hla := lvTo_at s key
  obtain ⟨sd, room, lvs⟩ := s
  have s0 : 0 ≤ sd := g.s0
  have s1 : sd < 18446744073709551616 := g.s1
  have l1 : 1 ≤ lvs.length := u.l1
  have l2 : lvs.length ≤ 16 := u.l2
  have r1 : 1 ≤ room := u.r1
  have r2 : room ≤ 64 := u.r2
  have hC := fun H => lv_Clone (lvs := lvs) (H := H) (by rintro rfl; simp at l1) (by omega)
  have hV := fun H h => univ_levelS (sd := sd) (room := room) (n := lvs.length) (d := 4) (Ls := lvs.map cLv) (key := key) (H := H) s0 s1 h (by simp) (by omega) hs
  obtain ⟨lev, hlv⟩ : ∃ lev : Nat, uLev (sd, room, lvs) key = (lev : Int) := ⟨_, (Int.toNat_of_nonneg hlr.1).symm⟩
  have hlv2 : hlev (hrow sd 0) key ((lvs.length : Int) - 1) = (lev : Int) := hlv
  rw [hlv] at hlr
  have hlt : lev < lvs.length := by have := hlr.2; show lev < (sd, room, lvs).2.2.length; omega
  have w21 : IntKind.i64.wrap ((lev : Int) + 1) = ((lev + 1 : Nat) : Int) := by rw [w64_id (by omega) (by omega)]; omega
  simp only [cUs] at hR
  simp -implicitDefEqProofs [Tryz.f18, cUs, hR, hC, hV, hlv2, w21, vstore, cellsOf?, Ent.wrO, wr, vmove, isNil]
  obtain ⟨I, hI⟩ : ∃ I : Nat → St → Prop, ∀ k s', I k s' ↔ (∃ e i H z o o2 d, s' = ⟨e, H⟩ ∧ e 1 = vS key ∧ e 2 = .one (.ptr ⟨z, 0, 0, 1⟩) ∧ e 4 = .one (.ptr ⟨o, 0, 0, 1⟩) ∧ e 21 = vI .i64 ((lev + 1 : Nat) : Int) ∧ e 22 = vI .i64 (i : Nat) ∧ (i + k = lev + 1) ∧ (UH sd room lvs.length z o o2 d ((lvTo (sd, room, lvs) key i).map cLv) H) ∧ (∀ j, ∀ h : j < lvs.length, j < i → fitL key lvs[j])) := ⟨_, fun _ _ => Iff.rfl⟩
  refine wpL_ind I ?_ (lev + 1) _ ((hI _ _).2 ⟨_, 0, _, 0, 1, 2, 4, (by first | rfl | (simp; done) | (simp; rfl) | (simp; and_intros <;> rfl)), by simp, by simp, by simp, by simp, by simp, by omega, ⟨rfl, rfl, rfl, by rw [hl0]; rfl, by decide⟩, fun j _ h => absurd h (Nat.not_lt_zero _)⟩)
  intro k stI hstI
  obtain ⟨e, i, H, z, o, o2, d, rfl, e1, e2, e4, e21, e22, hk, hU, hfit⟩ := (hI _ _).1 hstI
  obtain ⟨gz, go, g2, gd, nd⟩ := hU
  by_cases c : i < lev + 1
  rotate_left
  · have hi : i = lev + 1 := by omega
    subst hi
    have hf : fitU (sd, room, lvs) key := fun j h hj => by
      rw [hlv] at hj
      exact hfit j h (by omega)
    have hUa : cUs (uAdd (sd, room, lvs) key) = [.v (.int .u64 sd), .v (.int .i64 room), .arr ((lvTo (sd, room, lvs) key (lev + 1)).map cLv)] := by
      unfold uAdd
      rw [hlv]
      rfl
    rw [if_pos hf, hUa] at hres
    rw [← hres]
    obtain ⟨Ls, hLs⟩ : ∃ Ls, (lvTo (sd, room, lvs) key (lev + 1)).map cLv = Ls := ⟨_, rfl⟩
    have hLl : Ls.length = lvs.length := by rw [← hLs, List.length_map]; exact hll _
    rw [hLs] at gd ⊢
    have htk : Ls.take lvs.length = Ls := List.take_of_length_le (by omega)
    have hso : ∀ E, (H.set o E)[o]? = some E := fun E => sself go
    have hsd : ∀ E, (H.set o E)[d]? = some (.clo Ls false) := fun E => by rw [sget nd.2.1]; exact gd
    simp -implicitDefEqProofs [e2, e4, e21, e22, gz, go, hso, vstore, cellsOf?, Ent.wrO, wr, vmove, isNil]
    simp [qa, hsd, hLl, htk]
  have hil : i < lvs.length := by omega
  have L := u.lv i hil
  have lg := g.lv lvs[i] (List.getElem_mem hil)
  have hrw : ((lvTo (sd, room, lvs) key i).map cLv)[i]? = some (cLv lvs[i]) := by
    have h := hla i hil
    rw [List.getElem?_map, List.getElem?_eq_getElem (by rw [hll]; exact hil), h]
    rfl
  have hst : ((lvTo (sd, room, lvs) key i).map cLv).set i (cLv (updL room key lvs[i])) = (lvTo (sd, room, lvs) key (i + 1)).map cLv := by
    rw [← List.map_set]
    congr 1
    exact hls i hil
  have hfi : fitU (sd, room, lvs) key → fitL key lvs[i] := fun h => h i hil (by rw [hlv]; omega)
  have L' : LvOk (sd, room, lvs) i lvs[i] := L
  obtain ⟨l, hl⟩ : ∃ l, lvs[i] = l := ⟨_, rfl⟩
  rw [hl] at L' lg hrw hst hfi
  obtain ⟨Ls, hLs⟩ : ∃ Ls, (lvTo (sd, room, lvs) key i).map cLv = Ls := ⟨_, rfl⟩
  have hLl : Ls.length = lvs.length := by rw [← hLs, List.length_map]; exact hll _
  rw [hLs] at gd hrw hst
  obtain ⟨ls, lr, lt⟩ := l
  obtain ⟨hLi, hLr⟩ := List.getElem?_eq_some_iff.1 hrw
  have hA := signed_Add (seed := ls) (rows := lr) (key := key) (n := 1) lg.1 lg.2.1 hs L'.ok (by decide)
  have w_i : IntKind.i64.wrap ((i : Int) + 1) = ((i + 1 : Nat) : Int) := by rw [w64_id (by omega) (by omega)]; omega
  have c' : (i : Int) < (lev : Int) + 1 := by omega
  have ez := fun T => gapp T gz
  have eo := fun T => gapp T go
  have ed := fun T => gapp T gd
  by_cases hf : fitL key (ls, lr, lt)
  rotate_left
  · have hf' : ¬ ∀ j, ∀ h : j < lr.length, fitsB (newV ls key 1 (j : Int) lr[j]) = true := hf
    rw [if_neg hf'] at hA
    have hnf : ¬ fitU (sd, room, lvs) key := fun h => hf (hfi h)
    rw [if_neg hnf] at hres
    rw [← hres]
    simp only [cSk, cRows, cRow, List.map_nil] at hA
    simp only [cLv, cRows, cRow, cItms] at hLr
    have hol : o < H.length := glt go
    have so := fun T E => sself (e := E) (eo T)
    have sn : ∀ a b q E, ((H ++ [a, b, q]).set o E)[H.length + 2]? = some q := fun a b q E => by rw [sget (by omega)]; simp
    simp -implicitDefEqProofs [e1, e2, e4, e21, e22, c', gz, gd, eo, so, hLl, hLr, hil, hA, vstore, cellsOf?, Ent.wrO, wr, vmove, isNil]
    have sn2 : ∀ a b q E, ∀ h : H.length + 2 < ((H ++ [a, b, q]).set o E).length, ((H ++ [a, b, q]).set o E)[H.length + 2]'h = q := fun a b q E h => by
      have := sn a b q E
      rw [List.getElem?_eq_getElem h] at this
      exact Option.some.inj this
    simp [qa, sn2]
    rfl
  have hf' : ∀ j, ∀ h : j < lr.length, fitsB (newV ls key 1 (j : Int) lr[j]) = true := hf
  rw [if_pos hf'] at hA
  have oN := okR_add (key := key) (n := 1) (seed := ls) L'.ok hf'
  have hG := signed_Get (seed := ls) (rows := addRows ls key 1 lr) (key := key) lg.1 lg.2.1 hs oN
  obtain ⟨cnt, hcnt⟩ : ∃ cnt, med (getL ls key (addRows ls key 1 lr)) = cnt := ⟨_, rfl⟩
  rw [hcnt] at hG
  have hupd : cLv (updL room key (ls, lr, lt)) = [.v (.int .u64 ls), cRows (addRows ls key 1 lr), cItms (refOffer room lt key cnt).1] := by rw [← hcnt]; rfl
  rw [hupd] at hst
  obtain ⟨R', hR'⟩ : ∃ R', addRows ls key 1 lr = R' := ⟨_, rfl⟩
  rw [hR'] at hA hG hst
  simp only [cSk, cRows, cRow] at hA hG hst
  simp only [cLv, cRows, cRow, cItms] at hLr
  obtain ⟨E7, hE7⟩ : ∃ E7, Ent.opn [[.c (.v (.int .u64 ls)), .c (.arr (R'.map fun r => [.arr (r.map cInt)]))]] false = E7 := ⟨_, rfl⟩
  obtain ⟨a, Z, eOf, l', M, G, rfl, rfl, T⟩ := of_yes (room := room) (H := H ++ [E7, .clo [] false]) (l := lt) r1 r2 (by have := L'.room; have h : (lt.length : Int) ≤ room := this; omega)
  rw [refAll_self L'.srt L'.keys L'.room] at T
  simp only [cItms] at eOf
  obtain ⟨b, l2, M2, G2, eO, v2, o2'⟩ := offerZ (K := H ++ [E7, .clo [] false]) (L := G) r1 T.inv (by have := T.few; have h := L'.room; have : (lt.length : Int) ≤ room := h; omega) key cnt
  obtain ⟨T2, -⟩ := T.step v2 o2'
  have eL := listZ (K := H ++ [E7, .clo [] false]) (room := room) (l := l2) (M := M2) (L := G ++ G2) (by have := T2.few; have h := L'.room; have : (lt.length : Int) ≤ room := h; omega)
  rw [T2.like.isort] at eL
  have hml : l2.length = (refOffer room lt key cnt).1.length := T2.like.perm.length_eq
  rw [hml] at eL
  obtain ⟨m, hm⟩ : ∃ m, (refOffer room lt key cnt).1 = m := ⟨_, rfl⟩
  rw [hm] at eL hst
  -- the memory after each call, by name
  have hlen : (H ++ [E7, Ent.clo [] false]).length = H.length + 2 := by simp
  have z7 : ∀ l M G, (hZ (H ++ [E7, .clo [] false]) room l M G)[H.length]? = some E7 := fun l M G => by
    unfold hZ
    rw [List.getElem?_append_left (by simp)]
    simp
  have zU : ∀ l M G, UH sd room lvs.length z o o2 d Ls (hZ (H ++ [E7, .clo [] false]) room l M G) := fun l M G => by
    unfold hZ
    exact UH.app (UH.app ⟨gz, go, g2, gd, nd⟩ _) _
  have zI : (hZ (H ++ [E7, .clo [] false]) room l2 M2 (G ++ G2 ++ [.clo [] false, .clo [] false, .clo (m.map cItm) false]))[(H ++ [E7, Ent.clo [] false]).length + (G ++ G2).length + 5]? = some (.clo (m.map cItm) false) := by
    rw [show (H ++ [E7, Ent.clo [] false]).length + (G ++ G2).length + 5 = (H ++ [E7, Ent.clo [] false]).length + ((G ++ G2).length + 2) + 3 by omega, hZ_get, List.getElem?_append_right (by omega)]
    simp
  obtain ⟨id, hid⟩ : ∃ id, (H ++ [E7, Ent.clo [] false]).length + (G ++ G2).length + 5 = id := ⟨_, rfl⟩
  rw [hid] at eL zI
  have hidl : H.length < id := by rw [← hid, hlen]; omega
  obtain ⟨pid, hpid⟩ : ∃ pid, (H ++ [E7, Ent.clo [] false]).length + 2 = pid := ⟨_, rfl⟩
  rw [hpid] at eOf eO eL
  have U1 := zU l' M G
  have U2 := zU l2 M2 (G ++ G2)
  have U3 := zU l2 M2 (G ++ G2 ++ [.clo [] false, .clo [] false, .clo (m.map cItm) false])
  have q1 := z7 l' M G
  have q2 := z7 l2 M2 (G ++ G2)
  have q3 := z7 l2 M2 (G ++ G2 ++ [.clo [] false, .clo [] false, .clo (m.map cItm) false])
  obtain ⟨Z1, hZ1⟩ : ∃ Z1, hZ (H ++ [E7, .clo [] false]) room l' M G = Z1 := ⟨_, rfl⟩
  obtain ⟨Z2, hZ2⟩ : ∃ Z2, hZ (H ++ [E7, .clo [] false]) room l2 M2 (G ++ G2) = Z2 := ⟨_, rfl⟩
  obtain ⟨Z3, hZ3⟩ : ∃ Z3, hZ (H ++ [E7, .clo [] false]) room l2 M2 (G ++ G2 ++ [.clo [] false, .clo [] false, .clo (m.map cItm) false]) = Z3 := ⟨_, rfl⟩
  rw [hZ1] at eOf eO U1 q1
  rw [hZ2] at eO eL U2 q2
  rw [hZ3] at eL zI U3 q3
  rw [← hE7] at eOf q1 q2 q3
  have hmt : (m.map cItm).take m.length = m.map cItm := List.take_of_length_le (by simp)
  have hdid : d ≠ id := by have := glt gd; omega
  obtain ⟨u1z, u1o, u12, u1d, -⟩ := U1
  obtain ⟨u2z, u2o, u22, u2d, -⟩ := U2
  obtain ⟨u3z, u3o, u32, u3d, -⟩ := _root_.id U3
  simp only [hP] at eOf eO eL
  have v3z := fun T => gapp T u3z
  have v3d := fun T => gapp T u3d
  have v3q := fun T => gapp T q3
  have v3i := fun T => gapp T zI
  have hrch : ∀ T, rch 5 (Z3 ++ T) (.sl id 0 m.length m.length) = [id] := fun T => by simp [rch, v3i]
  have hwr : Ent.wrC Ls i 0 [.v (.int .u64 ls), .arr (R'.map fun r => [.arr (r.map cInt)]), .arr (m.map cItm)] = (lvTo (sd, room, lvs) key (i + 1)).map cLv := by
    rw [← hst]
    apply List.ext_getElem
    · simp [Ent.wrC]
    · intro j h1 h2
      simp only [Ent.wrC, List.getElem_modify, List.getElem_set]
      by_cases hj : i = j
      · subst hj
        rw [if_pos rfl, if_pos rfl, hLr]
        rfl
      · rw [if_neg hj, if_neg hj]
  obtain ⟨L2, hL2⟩ : ∃ L2, (lvTo (sd, room, lvs) key (i + 1)).map cLv = L2 := ⟨_, rfl⟩
  rw [hL2] at hst hwr
  have hL2l : L2.length = lvs.length := by rw [← hst, List.length_set, hLl]
  have hL2i : L2[i]? = some [.v (.int .u64 ls), .arr (R'.map fun r => [.arr (r.map cInt)]), .arr (m.map cItm)] := by rw [← hst]; exact List.getElem?_set_self (by omega)
  have nz : z ≠ id := by have := glt gz; omega
  have no : o ≠ id := by have := glt go; omega
  have n2 : o2 ≠ id := by have := glt g2; omega
  have UN := (((UH.app U3 [.clo [] false, .clo [] false]).frz nz no n2 hdid).setd L2)
  have fz := UN.gz
  have fd := UN.gd
  have fq : ((frzAll (Z3 ++ [.clo [] false, .clo [] false]) [id]).set d (.clo L2 false))[H.length]? = some (Ent.opn [[.c (.v (.int .u64 ls)), .c (.arr (R'.map fun r => [.arr (r.map cInt)]))]] false) := by
    rw [sget (by have := glt gd; omega), frz_at (by omega)]
    exact v3q _
  simp -implicitDefEqProofs [e1, e2, e21, e22, c', gz, ez, ed, gd, hLl, hLr, hil, hA, eOf, q1, hG, eO, u2z, u2d, q2, eL, v3z, v3d, v3q, v3i, hmt, hdid, hrch, hwr, fz, fd, fq, hL2l, vstore, cellsOf?, Ent.wrO, wr, vmove, isNil]
  obtain ⟨hq1, hq2⟩ := List.getElem?_eq_some_iff.1 hL2i
  refine ⟨by rw [hq2]; rfl, k - 1, by omega, (hI _ _).2 ⟨_, i + 1, _, z, o, o2, d, rfl, by simp [e1], by simp [e2], by simp [e4], by simp [e21], by simp [w_i], by omega, by rw [hL2]; exact UN, fun j h hj => ?_⟩⟩
  by_cases e : j = i
  · subst e; rw [hl]; exact hf
  · exact hfit j h (by omega)
end Go.Proofs.YtngpmpmhpggpgaaGreatDoorF
end

section
/- A fixed answer; the laws of logarithms. -/
set_option maxRecDepth 8192
set_option maxHeartbeats 4000000
namespace Go.Proofs.YtngpmpmhpggpgaaGreatDoorF
open Go Go.Proofs.Vm

theorem fed_Add {z : Sz} (h : ZOk z) {ks : List ByteArray} (hk : ks.length < 1000000) {k : ByteArray} (hs : k.size ≤ 140737488351232) : TV.pu 18 [.agg (cUs (uFed z ks)), cS k] = some (.tup [(true, cUs (uFed z (ks ++ [k]))), (false, [.v (.int .i64 0)])]) := by
  have := univ_Add (uFed_good h hk) hs (uFed_ok h hk)
  rw [if_pos (uFed_fit h hk k), uFed_add h] at this
  exact this
theorem law_awake18 : TV.pu 8 [] = some (cB true) := by
  refine run8 (by simp) ?_
  have hz : ZOk ⟨1, 2, 3, 8, 4⟩ := ⟨by decide, by decide, by decide, by decide, by unfold newOk; decide, by decide, by decide⟩
  have a0 := univ_New hz
  obtain ⟨ky, hky⟩ : ∃ ky : ByteArray, ky = { data := #[97] } := ⟨_, rfl⟩
  have hks : ky.size ≤ 140737488351232 := by rw [hky]; decide
  have a1 := fed_Add hz (ks := []) (by simp) hks
  have a2 := fed_Add hz (ks := [] ++ [ky]) (by simp) hks
  have g2 := uFed_good hz (ks := [] ++ [ky] ++ [ky]) (by simp)
  have u2 := uFed_ok hz (ks := [] ++ [ky] ++ [ky]) (by simp)
  have a3 := univ_Get (key := ky) g2 hks
  rw [if_pos (uOk_iff.2 u2)] at a3
  have h0 : 0 < (uFed ⟨1, 2, 3, 8, 4⟩ ([] ++ [ky] ++ [ky])).2.2.length := u2.l1
  have e2 : ([] ++ [ky] ++ [ky] : List ByteArray) = List.replicate 2 ky := rfl
  have hone := uFed_one hz ky 2 (by decide) (by rw [← e2]; exact h0)
  rw [headD_at h0] at a3
  simp only [e2] at a2 a3
  rw [hone] at a3
  have l2 : logI 2 = 65536 := logI_pow 1
  have hL := univ_Log (n := 2) (by decide)
  rw [l2] at hL
  have hC := univ_Count (kind := 3) (n := 2)
  have c2 : cntI 3 2 = 131072 := by
    have : clip 2 = 2 := by decide
    unfold cntI
    rw [this, l2]
    decide
  rw [c2] at hC
  obtain ⟨S0, hS0⟩ : ∃ S, uFed ⟨1, 2, 3, 8, 4⟩ [] = S := ⟨_, rfl⟩
  obtain ⟨S1, hS1⟩ : ∃ S, uFed ⟨1, 2, 3, 8, 4⟩ ([] ++ [ky]) = S := ⟨_, rfl⟩
  obtain ⟨S2, hS2⟩ : ∃ S, uFed ⟨1, 2, 3, 8, 4⟩ (List.replicate 2 ky) = S := ⟨_, rfl⟩
  rw [hS0] at a0 a1
  rw [hS1] at a1 a2
  rw [hS2] at a2 a3
  dsimp only at a0
  obtain ⟨s0, r0, v0⟩ := S0
  obtain ⟨s1, r1, v1⟩ := S1
  obtain ⟨s2, r2, v2⟩ := S2
  simp only [cUs] at a0 a1 a2 a3
  simp -implicitDefEqProofs [Tryz.f8, a0, ← hky, a1, a2, a3, hL, hC, vstore, cellsOf?, Ent.wrO, wr, vmove, isNil]
end Go.Proofs.YtngpmpmhpggpgaaGreatDoorF
end

section
/- Few strings, and short ones. -/
set_option maxRecDepth 8192
set_option maxHeartbeats 2000000
namespace Go.Proofs.YtngpmpmhpggpgaaGreatDoorF
open Go Go.Proofs.Vm
def cStr (s : ByteArray) : List CV := [.v (.string s)]
def cSs (l : List ByteArray) : CV := .arr (l.map cStr)
def shortB (l : List ByteArray) (most : Nat) : Bool := decide (l.length ≤ most) && l.all fun s => decide (s.size ≤ 100)
theorem rr_Short {l : List ByteArray} {most : Nat} (hl : l.length < 9223372036854775807) : TV.pu 28 [.one (cSs l), cI .i64 most] = some (cB (shortB l most)) := by
  refine run28 (by simp) ?_
  unfold shortB
  by_cases hm : l.length ≤ most
  · have hm' : ¬ (most : Int) < l.length := by omega
    simp -implicitDefEqProofs [Tryz.f28, cSs, hm', hm]
    obtain ⟨I, hI⟩ : ∃ I : Nat → St → Prop, ∀ k s', I k s' ↔ (∃ e j, s' = ⟨e, []⟩ ∧ e 0 = .one (.c (.arr (l.map cStr))) ∧ e 5 = vI .i64 (j : Nat) ∧ j + k = l.length ∧ ∀ q, ∀ h : q < l.length, q < j → l[q].size ≤ 100) := ⟨_, fun _ _ => Iff.rfl⟩
    refine wpL_ind I ?_ l.length _ ((hI _ _).2 ⟨_, 0, rfl, by simp, by simp, by omega, by omega⟩)
    intro k st hst
    obtain ⟨e, j, rfl, e0, e5, hk, hno⟩ := (hI _ _).1 hst
    by_cases c : j < l.length
    · have w1 : IntKind.i64.wrap ((j : Int) + 1) = ((j + 1 : Nat) : Int) := by rw [w64_id (by omega) (by omega)]; omega
      by_cases hj : l[j].size ≤ 100
      · have hj' : ¬ 100 < (l[j].size : Int) := by omega
        simp -implicitDefEqProofs [e0, e5, c, w1, cStr, hj']
        refine ⟨k - 1, by omega, (hI _ _).2 ⟨_, j + 1, rfl, by simp [e0], by simp, by omega, ?_⟩⟩
        intro q hq hqj
        by_cases h : q = j
        · subst h; exact hj
        · exact hno q hq (by omega)
      · have hj' : 100 < (l[j].size : Int) := by omega
        have hall : (l.all fun s => decide (s.size ≤ 100)) = false := by
          rw [List.all_eq_false]
          exact ⟨l[j], List.getElem_mem c, by simpa using hj⟩
        rw [hall]
        simp -implicitDefEqProofs [e0, e5, c, cStr, hj']
    · have hall : (l.all fun s => decide (s.size ≤ 100)) = true := by
        rw [List.all_eq_true]
        intro x hx
        obtain ⟨q, hq, rfl⟩ := List.getElem_of_mem hx
        exact decide_eq_true (hno q hq (by omega))
      rw [hall]
      simp -implicitDefEqProofs [e0, e5, c]
  · have hm' : (most : Int) < l.length := by omega
    simp -implicitDefEqProofs [Tryz.f28, cSs, hm', hm]
end Go.Proofs.YtngpmpmhpggpgaaGreatDoorF
end

section
/- Sketches that are refused; a sketch to which keys came. -/
set_option maxRecDepth 8192
set_option maxHeartbeats 4000000
namespace Go.Proofs.YtngpmpmhpggpgaaGreatDoorF
open Go Go.Proofs.Vm

theorem univ_New_arg {z : Sz} (h : ¬ ZOk z) (s0 : 0 ≤ z.seed) (s1 : z.seed < 18446744073709551616) : TV.pu 12 [cI .u64 z.seed, cI .i64 z.levels, cI .i64 z.rows, cI .i64 z.cols, cI .i64 z.room] = some (.tup [(true, cUs (0, 0, [])), (false, [.v (.int .i64 1)])]) := by
  refine run12 (by simp) ?_
  obtain ⟨sd, levels, rows, cols, room⟩ := z
  dsimp only at s0 s1
  have hres : cUs (0, 0, []) = [.v (.int .u64 0), .v (.int .i64 0), .arr []] := rfl
  rw [hres]
  by_cases c1 : levels < 1
  · simp -implicitDefEqProofs [Tryz.f12, c1, vstore, cellsOf?, Ent.wrO, wr, vmove, isNil]
    simp [qa]
  by_cases c2 : 16 < levels
  · simp -implicitDefEqProofs [Tryz.f12, c1, c2, vstore, cellsOf?, Ent.wrO, wr, vmove, isNil]
    simp [qa]
  by_cases c3 : room < 1
  · simp -implicitDefEqProofs [Tryz.f12, c1, c2, c3, vstore, cellsOf?, Ent.wrO, wr, vmove, isNil]
    simp [qa]
  by_cases c4 : 64 < room
  · simp -implicitDefEqProofs [Tryz.f12, c1, c2, c3, c4, vstore, cellsOf?, Ent.wrO, wr, vmove, isNil]
    simp [qa]
  have hn : ¬ newOk rows cols := fun hn => h ⟨s0, s1, by dsimp only; omega, by dsimp only; omega, hn, by dsimp only; omega, by dsimp only; omega⟩
  have hN := fun (s : Int) => signed_New_arg (seed := s) hn
  have hRow := hash_Row (s := sd) (i := 1) s0 s1 (by omega) (by omega)
  have w1 : IntKind.i64.wrap 1 = 1 := by decide
  have c5 : 0 < levels := by omega
  simp only [cSk, cRows, List.map_nil] at hN
  simp -implicitDefEqProofs [Tryz.f12, c1, c2, c3, c4, vstore, cellsOf?, Ent.wrO, wr, vmove, isNil]
  refine wpL_step ?_
  simp -implicitDefEqProofs [c5, w1, hRow, hN, vstore, cellsOf?, Ent.wrO, wr, vmove, isNil]
  simp [qa]
def cSz (z : Sz) : List CV := [.v (.int .u64 z.seed), .v (.int .i64 z.levels), .v (.int .i64 z.rows), .v (.int .i64 z.cols), .v (.int .i64 z.room)]
theorem law_fed_no {z : Sz} {l : List ByteArray} (s0 : 0 ≤ z.seed) (s1 : z.seed < 18446744073709551616) (hl : l.length < 4611686018427387904) (h : ¬ (ZOk z ∧ shortB l 80 = true)) :
    ∃ S : Us, TV.pu 7 [.agg (cSz z), .one (cSs l)] = some (.tup [(true, cUs S), (false, [cItms []]), (false, [.v (.bool false)])]) := by
  have hSh : TV.pu 28 [.one (cSs l), cI .i64 80] = _ := rr_Short (l := l) (most := 80) (by omega)
  by_cases hz : ZOk z
  · have hN := univ_New hz
    have hs : shortB l 80 = false := by
      cases e : shortB l 80 with
      | false => rfl
      | true => exact absurd ⟨hz, e⟩ h
    rw [hs] at hSh
    refine ⟨uFed z [], run7 (by simp) ?_⟩
    obtain ⟨⟨s, r, v⟩, hS⟩ : ∃ S, uFed z [] = S := ⟨_, rfl⟩
    rw [hS] at hN ⊢
    simp only [cUs, cSs] at hN hSh
    simp -implicitDefEqProofs [Tryz.f7, cUs, cSz, cSs, cItms, hN, hSh, vstore, cellsOf?, Ent.wrO, wr, vmove, isNil]
    simp [qa]
  · have hN := univ_New_arg hz s0 s1
    refine ⟨(0, 0, []), run7 (by simp) ?_⟩
    simp only [cUs, cSs, List.map_nil] at hN hSh
    simp -implicitDefEqProofs [Tryz.f7, cUs, cSz, cSs, cItms, hN, vstore, cellsOf?, Ent.wrO, wr, vmove, isNil]
    simp [qa]
end Go.Proofs.YtngpmpmhpggpgaaGreatDoorF
end

section
/- A sketch to which keys came: the statements' helper walked. -/
set_option maxRecDepth 8192
set_option maxHeartbeats 4000000
namespace Go.Proofs.YtngpmpmhpggpgaaGreatDoorF
open Go Go.Proofs.Vm

/-- One of a key more. -/
def addK : List Itm → ByteArray → List Itm
  | [], k => [(k, 1)]
  | x :: r, k => if x.1 = k then (k, x.2 + 1) :: r else x :: addK r k
def allOf (l : List ByteArray) : List Itm := l.foldl addK []
theorem addK_no {k : ByteArray} : ∀ {all : List Itm}, (∀ i, ∀ h : i < all.length, all[i].1 ≠ k) → addK all k = all ++ [(k, 1)]
  | [], _ => rfl
  | x :: r, h => by
    have h0 := h 0 (by simp)
    unfold addK
    rw [if_neg (by simpa using h0), addK_no fun i hi => h (i + 1) (Nat.succ_lt_succ hi)]
    rfl
theorem addK_at {k : ByteArray} : ∀ {all : List Itm} {i : Nat} (h : i < all.length), all[i].1 = k → (∀ j, ∀ hj : j < i, all[j].1 ≠ k) → addK all k = all.set i (k, all[i].2 + 1)
  | x :: r, 0, _, e, _ => by
    have e : x.1 = k := e
    unfold addK
    rw [if_pos e]
    rfl
  | x :: r, i + 1, h, e, hn => by
    have h0 : x.1 ≠ k := hn 0 (by omega)
    unfold addK
    rw [if_neg h0, addK_at (all := r) (i := i) (Nat.lt_of_succ_lt_succ h) e fun j hj => hn (j + 1) (Nat.succ_lt_succ hj)]
    rfl
theorem allOf_snoc (l : List ByteArray) (k : ByteArray) : allOf (l ++ [k]) = addK (allOf l) k := by simp [allOf]
theorem allOf_step {ks : List ByteArray} {all : List Itm} (h : AllOk ks all) (k : ByteArray) : AllOk (ks ++ [k]) (addK all k) := by
  by_cases c : ∃ i, ∃ hi : i < all.length, all[i].1 = k
  · obtain ⟨i, hi, e⟩ := c
    rw [addK_at hi e fun j hj e2 => keys_iff.1 h.keys j i hi hj (by rw [e2, e])]
    exact h.inc hi e
  · rw [addK_no fun i hi e => c ⟨i, hi, e⟩]
    exact h.add fun i hi e => c ⟨i, hi, e⟩
theorem allOf_ok (l : List ByteArray) : AllOk l (allOf l) := by
  obtain ⟨n, hn⟩ : ∃ n, n = l.length := ⟨_, rfl⟩
  induction n generalizing l with
  | zero =>
    have : l = [] := List.length_eq_zero_iff.1 hn.symm
    subst this
    exact allOk_nil
  | succ n ih =>
    have hne : l ≠ [] := by rintro rfl; simp at hn
    rw [← List.dropLast_concat_getLast hne, allOf_snoc]
    exact allOf_step (ih _ (by rw [List.length_dropLast]; omega)) _
theorem short_iff {l : List ByteArray} {n : Nat} (h : shortB l n = true) : l.length ≤ n ∧ ∀ k ∈ l, k.size ≤ 100 := by simpa [shortB] using h
theorem law_fed {z : Sz} {l : List ByteArray} (hz : ZOk z) (hsh : shortB l 80 = true) :
    TV.pu 7 [.agg (cSz z), .one (cSs l)] = some (.tup [(true, cUs (uFed z l)), (false, [cItms (allOf l)]), (false, [.v (.bool true)])]) := by
  refine run7 (by simp) ?_
  obtain ⟨hl, hks⟩ := short_iff hsh
  have hSh : TV.pu 28 [.one (cSs l), cI .i64 80] = _ := rr_Short (l := l) (most := 80) (by omega)
  rw [hsh] at hSh
  have hN := univ_New hz
  have hAd := fun (ks : List ByteArray) (h : ks.length ≤ 80) (k : ByteArray) (hk : k.size ≤ 100) => fed_Add hz (ks := ks) (by omega) (k := k) (by omega)
  obtain ⟨F, hF⟩ : ∃ F : List ByteArray → Us, ∀ ks, uFed z ks = F ks := ⟨_, fun _ => rfl⟩
  simp only [hF] at hN hAd ⊢
  simp only [cUs, cSs] at hN hSh hAd
  simp -implicitDefEqProofs [Tryz.f7, cUs, cSz, cSs, hN, hSh, vstore, cellsOf?, Ent.wrO, wr, vmove, isNil]
  have hAl : ∀ i, (allOf (l.take i)).length ≤ i := fun i => by
    have := (allOf_ok (l.take i)).len
    simp at this
    omega
  obtain ⟨I, hI⟩ : ∃ I : Nat → St → Prop, ∀ k s', I k s' ↔ (∃ e i E0 E2 E3 E5 A L, s' = ⟨e, E0 :: .opn [[.c (.v (.int .u64 0)), .c (.v (.int .i64 0)), .sl 2 0 0 0]] false :: E2 :: E3 :: .opn [(cUs (F (l.take i))).map .c] false :: E5 :: .clo (A.map cItm) false :: L⟩ ∧ e 4 = .one (.ptr ⟨1, 0, 0, 1⟩) ∧ e 7 = .one (.ptr ⟨4, 0, 0, 1⟩) ∧ e 9 = .one (.sl 6 0 A.length A.length) ∧ e 36 = .one (.c (.arr (l.map cStr))) ∧ e 37 = vI .i64 l.length ∧ e 38 = vI .i64 (i : Nat) ∧ (i + k = l.length) ∧ (allOf (l.take i) = A)) := ⟨_, fun _ _ => Iff.rfl⟩
  refine wpL_ind I ?_ l.length _ ((hI _ _).2 ⟨_, 0, _, _, _, _, [], _, (by first | rfl | (simp [cUs]; done) | (simp [cUs]; rfl) | (simp [cUs]; and_intros <;> rfl)), by simp, by simp, by simp, by simp, by simp, by simp, by omega, rfl⟩)
  intro k stI hstI
  obtain ⟨e, i, E0, E2, E3, E5, A, L, rfl, e4, e7, e9, e36, e37, e38, hk, hA⟩ := (hI _ _).1 hstI
  have hAk := allOf_ok (l.take i)
  have hAlen := hAl i
  rw [hA] at hAk hAlen
  by_cases c : i < l.length
  rotate_left
  · have hi : l.take i = l := List.take_of_length_le (by omega)
    simp only [hi] at hA hAk ⊢
    simp only [hA]
    have htk : (A.map cItm).take A.length = A.map cItm := List.take_of_length_le (by simp)
    simp -implicitDefEqProofs [e4, e7, e9, e37, e38, c, cUs, vstore, cellsOf?, Ent.wrO, wr, vmove, isNil]
    simp [qa, htk, cItms]
  have w_i : IntKind.i64.wrap ((i : Int) + 1) = ((i + 1 : Nat) : Int) := by rw [w64_id (by omega) (by omega)]; omega
  have hki : (l[i]).size ≤ 100 := hks _ (List.getElem_mem c)
  have hAdi := hAd (l.take i) (by simp; omega) l[i] hki
  have htk1 : l.take (i + 1) = l.take i ++ [l[i]] := by rw [List.take_add_one, List.getElem?_eq_getElem c]; rfl
  rw [← htk1] at hAdi
  have hnx : allOf (l.take (i + 1)) = addK A l[i] := by rw [htk1, allOf_snoc, hA]
  obtain ⟨key, hkey⟩ : ∃ key, l[i] = key := ⟨_, rfl⟩
  rw [hkey] at hAdi hnx
  obtain ⟨S1, hS1⟩ : ∃ S1, F (l.take i) = S1 := ⟨_, rfl⟩
  obtain ⟨S2, hS2⟩ : ∃ S2, F (l.take (i + 1)) = S2 := ⟨_, rfl⟩
  rw [hS1, hS2] at hAdi
  rw [hS1]
  simp -implicitDefEqProofs [e7, e9, e36, e37, e38, c, hkey, cStr, cUs, hAdi, vstore, cellsOf?, Ent.wrO, wr, vmove, isNil]
  obtain ⟨J, hJ⟩ : ∃ J : Nat → St → Prop, ∀ r s', J r s' ↔ (∃ f j a L, s' = ⟨f, E0 :: .opn [[.c (.v (.int .u64 0)), .c (.v (.int .i64 0)), .sl 2 0 0 0]] false :: E2 :: E3 :: .opn [(cUs S2).map .c] false :: E5 :: .clo (A.map cItm) false :: L⟩ ∧ f 4 = .one (.ptr ⟨1, 0, 0, 1⟩) ∧ f 7 = .one (.ptr ⟨4, 0, 0, 1⟩) ∧ f 9 = .one (.sl 6 0 A.length A.length) ∧ f 11 = vS key ∧ f 12 = vI .i64 a ∧ f 36 = .one (.c (.arr (l.map cStr))) ∧ f 37 = vI .i64 l.length ∧ f 38 = vI .i64 (i : Nat) ∧ f 49 = vI .i64 A.length ∧ f 50 = vI .i64 (j : Nat) ∧ (j + r = A.length) ∧ ((a = -1 ∧ ∀ q, ∀ h : q < A.length, q < j → A[q].1 ≠ key) ∨ ∃ p, ∃ h : p < A.length, a = (p : Int) ∧ A[p].1 = key)) := ⟨_, fun _ _ => Iff.rfl⟩
  refine wpL_ind J ?_ A.length _ ((hJ _ _).2 ⟨_, 0, -1, _, (by first | rfl | (simp [e4, e7, e9, e36, e37, e38, cUs]; done) | (simp [e4, e7, e9, e36, e37, e38, cUs]; rfl) | (simp [e4, e7, e9, e36, e37, e38, cUs]; and_intros <;> rfl)), by simp [e4], by simp [e7], by simp [e9], by simp, by simp, by simp [e36], by simp [e37], by simp [e38], by simp, by simp, by omega, .inl ⟨rfl, fun q _ h => absurd h (Nat.not_lt_zero _)⟩⟩)
  intro r stJ hstJ
  obtain ⟨f, j, a, L, rfl, e4, e7, e9, e11, e12, e36, e37, e38, e49, e50, hr, ha⟩ := (hJ _ _).1 hstJ
  by_cases d : j < A.length
  · have w_j : IntKind.i64.wrap ((j : Int) + 1) = ((j + 1 : Nat) : Int) := by rw [w64_id (by omega) (by omega)]; omega
    by_cases h : A[j].1 = key
    · simp -implicitDefEqProofs [e9, e11, e49, e50, d, cItm, sbin_eql, h, w_j]
      exact ⟨r - 1, by omega, (hJ _ _).2 ⟨_, j + 1, (j : Int), _, (by first | rfl | (simp [cItm]; done) | (simp [cItm]; rfl) | (simp [cItm]; and_intros <;> rfl)), by simp [e4], by simp [e7], by simp [e9], by simp [e11], by simp, by simp [e36], by simp [e37], by simp [e38], by simp [e49], by simp, by omega, .inr ⟨j, d, rfl, h⟩⟩⟩
    · simp -implicitDefEqProofs [e9, e11, e49, e50, d, cItm, sbin_eql, toList_inj, h, w_j]
      exact ⟨r - 1, by omega, (hJ _ _).2 ⟨_, j + 1, a, _, (by first | rfl | (simp [cItm]; done) | (simp [cItm]; rfl) | (simp [cItm]; and_intros <;> rfl)), by simp [e4], by simp [e7], by simp [e9], by simp [e11], by simp [e12], by simp [e36], by simp [e37], by simp [e38], by simp [e49], by simp, by omega, (ha.elim (fun h0 => .inl ⟨h0.1, fun q hq hqj => if e : q = j then by subst e; exact h else h0.2 q hq (by omega)⟩) .inr)⟩⟩
  rcases ha with ⟨rfl, hn⟩ | ⟨p, hp, rfl, hpk⟩
  · have hadd : addK A key = A ++ [(key, 1)] := addK_no fun q hq => hn q hq (by omega)
    rw [hadd] at hnx
    obtain ⟨B, hB⟩ : ∃ B, A ++ [(key, (0 : Int))] = B := ⟨_, rfl⟩
    have hBl : B.length = A.length + 1 := by rw [← hB]; simp
    have hlt : A.length < B.length := by omega
    have hBg : B[A.length] = (key, 0) := by simp only [← hB]; simp
    have happ : A.map cItm ++ [[.v (.string key), .v (.int .i64 0)]] = B.map cItm := by rw [← hB]; simp [cItm]
    have hwr : Ent.wrC (B.map cItm) A.length 1 [.v (.int .i64 1)] = (A ++ [(key, 1)]).map cItm := by
      rw [wr_count hlt, hBg, ← hB]
      congr 1
      simp
    have hal := cItm_all A
    have b1 : 24 * (A.length + 1) ≤ 140737488355328 := by omega
    have b2 : A.length + 1 ≤ 4611686018427387904 := by omega
    have w1 : IntKind.i64.wrap 1 = 1 := by decide
    simp -implicitDefEqProofs [e9, e11, e12, e38, e49, e50, d, vappend_sp es29 es29 el34, vbuildSlice_eq es29 el34, fzParts, setAll, rchParts, rch, elemsOf, b1, b2, hal, happ, hBl, hBg, hwr, w1, cItm, vstore, cellsOf?, wr, vmove, isNil]
    exact ⟨k - 1, by omega, (hI _ _).2 ⟨_, i + 1, E0, E2, E3, E5, A ++ [(key, 1)], _, (by first | rfl | (simp [hS2, w_i, cItm]; done) | (simp [hS2, w_i, cItm]; rfl) | (simp [hS2, w_i, cItm]; and_intros <;> rfl)), by simp [e4], by simp [e7], by simp, by simp [e36], by simp [e37], by simp, by omega, hnx⟩⟩
  · have hset : addK A key = A.set p (key, A[p].2 + 1) := addK_at hp hpk fun j hj e => keys_iff.1 hAk.keys j p hp hj (by rw [e, hpk])
    rw [hset] at hnx
    have hcnt := ((hAk.mem A[p]).1 (List.getElem_mem hp)).2
    have hcl : (l.take i).count A[p].1 ≤ i := by
      have := List.count_le_length (a := A[p].1) (l := l.take i)
      simp at this
      omega
    have hwc : IntKind.i64.wrap (A[p].2 + 1) = A[p].2 + 1 := w64_id (by omega) (by omega)
    have hwr := wr_count hp (A[p].2 + 1)
    rw [hpk] at hwr
    have hneg : ¬ (p : Int) < 0 := by omega
    obtain ⟨v, hv⟩ : ∃ v, A[p].2 = v := ⟨_, rfl⟩
    rw [hv] at hwc hwr hnx
    simp -implicitDefEqProofs [e9, e12, e38, e49, e50, d, hneg, hp, hv, hwc, hwr, cItm, vstore, cellsOf?, vmove, isNil]
    exact ⟨k - 1, by omega, (hI _ _).2 ⟨_, i + 1, E0, E2, E3, E5, A.set p (key, v + 1), _, (by first | rfl | (simp [hS2, w_i, cItm]; done) | (simp [hS2, w_i, cItm]; rfl) | (simp [hS2, w_i, cItm]; and_intros <;> rfl)), by simp [e4], by simp [e7], by simp [e9], by simp [e36], by simp [e37], by simp, by omega, hnx⟩⟩
end Go.Proofs.YtngpmpmhpggpgaaGreatDoorF
end

section
/- Sums over a sketch of levels. -/
set_option maxRecDepth 8192
set_option maxHeartbeats 4000000
namespace Go.Proofs.YtngpmpmhpggpgaaGreatDoorF
open Go Go.Proofs.Vm

theorem univ_Sum {s : Us} {kind : Int} (g : UGood s) (hks : ∀ l ∈ s.2.2, ∀ y ∈ l.2.2, y.1.size ≤ 140737488351232) : TV.pu 15 [.agg (cUs s), cI .i64 kind] = some (cI .i64 (if uOk s = true ∧ 0 ≤ kind ∧ kind ≤ 3 then uSumD s kind s.2.2.length else 0)) := by
  refine run15 (by simp) ?_
  have hR := univ_Right g
  have hV := fun (key : ByteArray) (h : key.size ≤ 140737488351232) (H : Hp) => univ_level (H := H) g h
  cases hok : uOk s with
  | false =>
    rw [hok] at hR
    obtain ⟨sd, room, lvs⟩ := s
    simp only [cUs] at hR
    simp -implicitDefEqProofs [Tryz.f15, cUs, hR]
  | true =>
  rw [hok] at hR
  have u := uOk_iff.1 hok
  by_cases k0 : kind < 0
  · rw [if_neg (fun h => by omega)]
    obtain ⟨sd, room, lvs⟩ := s
    simp only [cUs] at hR
    simp -implicitDefEqProofs [Tryz.f15, cUs, hR, k0]
  by_cases k4 : 4 ≤ kind
  · rw [if_neg (fun h => by omega)]
    obtain ⟨sd, room, lvs⟩ := s
    simp only [cUs] at hR
    simp -implicitDefEqProofs [Tryz.f15, cUs, hR, k0, k4]
  rw [if_pos ⟨rfl, by omega, by omega⟩]
  have hr64 : ∀ l ∈ s.2.2, l.2.2.length ≤ 64 := fun l hl => by
    obtain ⟨j, hj, rfl⟩ := List.getElem_of_mem hl
    have := (u.lv j hj).room
    have := u.r2
    omega
  have hrg := uSumD_range hr64 kind
  have hsD : ∀ d, uSumD s kind (d + 1) = 2 * uSumD s kind d + lvSum kind (decide (d = 0)) (uLev s) (s.2.2.length - 1 - d) (s.2.2.getD (s.2.2.length - 1 - d) (0, [], [])).2.2 := fun d => rfl
  have l1 := u.l1
  have l2 := u.l2
  obtain ⟨U, hU⟩ : ∃ U : Nat → Int, ∀ d, uSumD s kind d = U d := ⟨_, fun _ => rfl⟩
  have hU0 : U 0 = 0 := by rw [← hU]; rfl
  simp only [hU] at hrg hsD ⊢
  obtain ⟨lev, hlev⟩ : ∃ lev, uLev s = lev := ⟨_, rfl⟩
  rw [hlev] at hsD
  simp only [hlev] at hV
  obtain ⟨sd, room, lvs⟩ := s
  dsimp only at l1 l2 hks hr64 hsD ⊢
  simp only [cUs, List.map_cons, List.map_nil] at hR hV
  have wl : IntKind.i64.wrap ((lvs.length : Int) - 1) = (lvs.length : Int) - 1 := w64_id (by omega) (by omega)
  simp -implicitDefEqProofs [Tryz.f15, cUs, hR, k0, k4, wl]
  obtain ⟨I, hI⟩ : ∃ I : Nat → St → Prop, ∀ k s', I k s' ↔ (∃ e d L, s' = ⟨e, .opn [[.c (.v (.int .u64 sd)), .c (.v (.int .i64 room)), .c (.arr (lvs.map cLv))]] false :: L⟩ ∧ e 1 = vI .i64 kind ∧ e 2 = .one (.ptr ⟨0, 0, 0, 1⟩) ∧ e 5 = vI .i64 (U d) ∧ e 6 = vI .i64 ((lvs.length : Int) - 1 - d) ∧ (d + k = lvs.length)) := ⟨_, fun _ _ => Iff.rfl⟩
  refine wpL_ind I ?_ lvs.length _ ((hI _ _).2 ⟨_, 0, _, (by first | rfl | (simp [hU0]; done) | (simp [hU0]; rfl) | (simp [hU0]; and_intros <;> rfl)), by simp, by simp, by simp [hU0], by simp, by omega⟩)
  intro k stI hstI
  obtain ⟨e, d, L, rfl, e1, e2, e5, e6, hk⟩ := (hI _ _).1 hstI
  by_cases c : d < lvs.length
  rotate_left
  · have hd : d = lvs.length := by omega
    subst hd
    have hm1 : (lvs.length : Int) - 1 - lvs.length = -1 := by omega
    rw [hm1] at e6
    simp -implicitDefEqProofs [e5, e6]
  obtain ⟨j, hj⟩ : ∃ j, lvs.length - 1 - d = j := ⟨_, rfl⟩
  have hjI : (lvs.length : Int) - 1 - d = (j : Int) := by omega
  have hjl : j < lvs.length := by omega
  rw [hjI] at e6
  have hsj := hsD d
  rw [hj, List.getD_eq_getElem?_getD, List.getElem?_eq_getElem hjl] at hsj
  simp only [Option.getD_some] at hsj
  have hkt := hks lvs[j] (List.getElem_mem hjl)
  have hrt := hr64 lvs[j] (List.getElem_mem hjl)
  obtain ⟨⟨ls, lr, lt⟩, hlj⟩ : ∃ l, lvs[j] = l := ⟨_, rfl⟩
  rw [hlj] at hsj hkt hrt
  dsimp only at hsj hkt hrt
  have hp : 2 ^ d ≤ 2 ^ 15 := Nat.pow_le_pow_right (by decide) (by omega)
  have hrd := hrg d
  obtain ⟨p, hpp⟩ : ∃ p, 2 ^ d = p := ⟨_, rfl⟩
  rw [hpp] at hp hrd
  have wu : IntKind.i64.wrap (U d * 2) = U d * 2 := w64_id (by omega) (by omega)
  have c' : 0 ≤ (j : Int) := by omega
  obtain ⟨lst, hlst⟩ : ∃ b : Bool, decide (d = 0) = b := ⟨_, rfl⟩
  rw [hlst] at hsj
  have hlast : ((j : Int) == (lvs.length : Int) - 1) = lst := by
    rw [← hlst]
    by_cases h : d = 0
    · subst h
      have : (j : Int) = (lvs.length : Int) - 1 := by omega
      simp [this]
    · have : ¬ (j : Int) = (lvs.length : Int) - 1 := by omega
      simp [this, h]
  simp -implicitDefEqProofs [e2, e5, e6, c', wl, hlast, hjl, hlj, wu, cLv, cItms]
  obtain ⟨J, hJ⟩ : ∃ J : Nat → St → Prop, ∀ r s', J r s' ↔ (∃ f i L, s' = ⟨f, .opn [[.c (.v (.int .u64 sd)), .c (.v (.int .i64 room)), .c (.arr (lvs.map cLv))]] false :: L⟩ ∧ f 1 = vI .i64 kind ∧ f 2 = .one (.ptr ⟨0, 0, 0, 1⟩) ∧ f 5 = vI .i64 (U d * 2 + lvSum kind lst lev j (lt.take i)) ∧ f 6 = vI .i64 (j : Nat) ∧ f 7 = vB lst ∧ f 43 = .one (.c (.arr (lt.map cItm))) ∧ f 44 = vI .i64 lt.length ∧ f 45 = vI .i64 (i : Nat) ∧ (i + r = lt.length)) := ⟨_, fun _ _ => Iff.rfl⟩
  refine wpL_ind J ?_ lt.length _ ((hJ _ _).2 ⟨_, 0, _, (by first | rfl | (simp [e1, e2, e5, e6, lvSum_nil, cLv, cItm]; done) | (simp [e1, e2, e5, e6, lvSum_nil, cLv, cItm]; rfl) | (simp [e1, e2, e5, e6, lvSum_nil, cLv, cItm]; and_intros <;> rfl)), by simp [e1], by simp [e2], by simp [lvSum_nil], by simp [e6], by simp, by simp, by simp, by simp, by omega⟩)
  intro r stJ hstJ
  obtain ⟨f, i, L, rfl, e1, e2, e5, e6, e7, e43, e44, e45, hr⟩ := (hJ _ _).1 hstJ
  by_cases ci : i < lt.length
  rotate_left
  · have hi : lt.take i = lt := List.take_of_length_le (by omega)
    rw [hi] at e5
    have hn1 : (lvs.length : Int) - 1 - ((d + 1 : Nat) : Int) = (j : Int) - 1 := by omega
    have wj : IntKind.i64.wrap ((j : Int) - 1) = (j : Int) - 1 := w64_id (by omega) (by omega)
    have he : U d * 2 + lvSum kind lst lev j lt = U (d + 1) := by rw [hsj]; omega
    rw [he] at e5
    simp -implicitDefEqProofs [e6, e44, e45, ci, wj]
    exact ⟨k - 1, by omega, (hI _ _).2 ⟨_, d + 1, _, rfl, by simp [e1], by simp [e2], by simp [e5], by rw [hn1]; simp, by omega⟩⟩
  have w_i : IntKind.i64.wrap ((i : Int) + 1) = ((i + 1 : Nat) : Int) := by rw [w64_id (by omega) (by omega)]; omega
  have hcI := univ_Count (kind := kind) (n := lt[i].2)
  have hcr := cntI_range kind lt[i].2
  have hlr1 := lvSum_range kind lst lev j (lt.take i)
  have htl : (lt.take i).length = i := by simp; omega
  rw [htl] at hlr1
  have hnx := lvSum_take kind lst lev j ci
  obtain ⟨q, hq⟩ : ∃ q, lvSum kind lst lev j (lt.take i) = q := ⟨_, rfl⟩
  rw [hq] at hlr1 hnx e5
  obtain ⟨cn, hcn⟩ : ∃ cn, cntI kind lt[i].2 = cn := ⟨_, rfl⟩
  rw [hcn] at hcI hcr hnx
  have hVi := hV lt[i].1 (hkt _ (List.getElem_mem ci))
  have wn : IntKind.i64.wrap (-cn) = -cn := w64_id (by omega) (by omega)
  have wp : IntKind.i64.wrap (U d * 2 + q + cn) = U d * 2 + q + cn := w64_id (by omega) (by omega)
  have wm : IntKind.i64.wrap (U d * 2 + q + -cn) = U d * 2 + q + -cn := w64_id (by omega) (by omega)
  cases lst with
  | true =>
    rw [if_neg (by simp)] at hnx
    simp -implicitDefEqProofs [e1, e5, e7, e43, e44, e45, ci, cItm, hcI, wp, w_i, vstore, cellsOf?, Ent.wrO, wr]
    exact ⟨r - 1, by omega, (hJ _ _).2 ⟨_, i + 1, _, (by first | rfl | (simp [hnx, Int.add_assoc, cItm]; done) | (simp [hnx, Int.add_assoc, cItm]; rfl) | (simp [hnx, Int.add_assoc, cItm]; and_intros <;> rfl)), by simp [e1, Int.add_assoc], by simp [e2, Int.add_assoc], by simp [hnx, Int.add_assoc], by simp [e6, Int.add_assoc], by simp [e7, Int.add_assoc], by simp [e43, Int.add_assoc], by simp [e44, Int.add_assoc], by simp [Int.add_assoc], by omega⟩⟩
  | false =>
    by_cases hlt : (j : Int) < lev lt[i].1
    · rw [if_pos ⟨rfl, hlt⟩] at hnx
      simp -implicitDefEqProofs [e1, e2, e5, e6, e7, e43, e44, e45, ci, cItm, hcI, hVi, hlt, wn, wm, w_i, vstore, cellsOf?, Ent.wrO, wr]
      exact ⟨r - 1, by omega, (hJ _ _).2 ⟨_, i + 1, _, (by first | rfl | (simp [hnx, Int.add_assoc, cItm]; done) | (simp [hnx, Int.add_assoc, cItm]; rfl) | (simp [hnx, Int.add_assoc, cItm]; and_intros <;> rfl)), by simp [e1, Int.add_assoc], by simp [e2, Int.add_assoc], by simp [hnx, Int.add_assoc], by simp [e6, Int.add_assoc], by simp [e7, Int.add_assoc], by simp [e43, Int.add_assoc], by simp [e44, Int.add_assoc], by simp [Int.add_assoc], by omega⟩⟩
    · rw [if_neg (fun h => hlt h.2)] at hnx
      simp -implicitDefEqProofs [e1, e2, e5, e6, e7, e43, e44, e45, ci, cItm, hcI, hVi, hlt, wp, w_i, vstore, cellsOf?, Ent.wrO, wr]
      exact ⟨r - 1, by omega, (hJ _ _).2 ⟨_, i + 1, _, (by first | rfl | (simp [hnx, Int.add_assoc, cItm]; done) | (simp [hnx, Int.add_assoc, cItm]; rfl) | (simp [hnx, Int.add_assoc, cItm]; and_intros <;> rfl)), by simp [e1, Int.add_assoc], by simp [e2, Int.add_assoc], by simp [hnx, Int.add_assoc], by simp [e6, Int.add_assoc], by simp [e7, Int.add_assoc], by simp [e43, Int.add_assoc], by simp [e44, Int.add_assoc], by simp [Int.add_assoc], by omega⟩⟩
end Go.Proofs.YtngpmpmhpggpgaaGreatDoorF
end

section
/- The document's sketches of levels: they are the program's. -/
set_option maxRecDepth 8192
set_option maxHeartbeats 4000000
namespace Go.Proofs.YtngpmpmhpggpgaaGreatDoorF
open Go Go.Proofs.Vm

theorem law_items {l : List Itm} (hl : l.length < 4611686018427387904) (h24 : l.length ≤ 5000000000000) : TV.pu 25 [.one (cItms l)] = some (.one (cItms l)) := by
  refine run25 (by simp) ?_
  have hal : ∀ i : Nat, AllLen ((l.take i).map cItm) 2 := fun i => cItm_all _
  simp -implicitDefEqProofs [Tryz.f25, cItms, vmove, isNil]
  obtain ⟨I, hI⟩ : ∃ I : Nat → St → Prop, ∀ k s', I k s' ↔ (∃ e i L, s' = ⟨e, .clo [] false :: .clo ((l.take i).map cItm) false :: L⟩ ∧ e 3 = .one (.sl 1 0 i i) ∧ e 6 = .one (.c (.arr (l.map cItm))) ∧ e 7 = vI .i64 l.length ∧ e 8 = vI .i64 (i : Nat) ∧ (i + k = l.length)) := ⟨_, fun _ _ => Iff.rfl⟩
  refine wpL_ind I ?_ l.length _ ((hI _ _).2 ⟨_, 0, _, (by first | rfl | (simp [cItms]; done) | (simp [cItms]; rfl) | (simp [cItms]; and_intros <;> rfl)), by simp, by simp, by simp, by simp, by omega⟩)
  intro k stI hstI
  obtain ⟨e, i, L, rfl, e3, e6, e7, e8, hk⟩ := (hI _ _).1 hstI
  have htl : ((l.take i).map cItm).length = i := by simp; omega
  by_cases c : i < l.length
  rotate_left
  · have hi : i = l.length := by omega
    subst hi
    have h1 : l.take l.length = l := List.take_length
    rw [h1]
    have h2 : (l.map cItm).take l.length = l.map cItm := List.take_of_length_le (by simp)
    simp -implicitDefEqProofs [e3, e7, e8, vmove, isNil, h2]
  have w_i : IntKind.i64.wrap ((i : Int) + 1) = ((i + 1 : Nat) : Int) := by rw [w64_id (by omega) (by omega)]; omega
  have b1 : 24 * (i + 1) ≤ 140737488355328 := by omega
  have b2 : i + 1 ≤ 4611686018427387904 := by omega
  have hsn : (l.take i).map cItm ++ [[.v (.string l[i].1), .v (.int .i64 l[i].2)]] = (l.take (i + 1)).map cItm := by
    rw [List.take_add_one, List.getElem?_eq_getElem c]
    simp only [Option.toList_some, List.map_append, List.map_cons, List.map_nil, cItm]
  have hli := hal i
  obtain ⟨T, hT⟩ : ∃ T, (l.take i).map cItm = T := ⟨_, rfl⟩
  rw [hT] at htl hsn hli
  rw [hT]
  simp -implicitDefEqProofs [e3, e6, e7, e8, c, cItm, vmove, isNil, vappend_sp es62 es62 el66, vbuildSlice_eq es62 el66, vstore, Ent.wrO, wr, cellsOf?, fzParts, setAll, rchParts, rch, elemsOf, b1, b2, htl, hli, hsn, w_i]
  exact ⟨k - 1, by omega, (hI _ _).2 ⟨_, i + 1, _, (by first | rfl | (simp; done) | (simp; rfl) | (simp; and_intros <;> rfl)), by simp, by simp [e6], by simp [e7], by simp, by omega⟩⟩
theorem law_ref {s : Us} (g : UGood s) (hL : s.2.2.length ≤ 1000000000000) (hT : ∀ l ∈ s.2.2, l.2.2.length ≤ 5000000000000) : TV.pu 14 [.agg (cUs s)] = some (.agg (cUs s)) := by
  refine run14 (by simp) ?_
  obtain ⟨sd, room, lvs⟩ := s
  dsimp only at hL hT
  have hal : ∀ i : Nat, AllLen ((lvs.take i).map cLv) 3 := fun i x hx => by obtain ⟨y, _, rfl⟩ := List.mem_map.1 hx; rfl
  simp -implicitDefEqProofs [Tryz.f14, cUs, vstore, cellsOf?, Ent.wrO, wr, vmove, isNil]
  obtain ⟨I, hI⟩ : ∃ I : Nat → St → Prop, ∀ k s', I k s' ↔ (∃ e i L, s' = ⟨e, .opn [[.c (.v (.int .u64 sd)), .c (.v (.int .i64 room)), .c (.arr (lvs.map cLv))]] false :: .opn [[.c (.v (.int .u64 0)), .c (.v (.int .i64 0)), .sl 2 0 0 0]] false :: .clo [] false :: .clo ((lvs.take i).map cLv) false :: .opn [[.c (.v (.int .u64 sd)), .c (.v (.int .i64 room)), .sl 3 0 i i]] false :: L⟩ ∧ e 2 = .one (.ptr ⟨1, 0, 0, 1⟩) ∧ e 3 = .one (.ptr ⟨4, 0, 0, 1⟩) ∧ e 12 = .one (.c (.arr (lvs.map cLv))) ∧ e 13 = vI .i64 lvs.length ∧ e 14 = vI .i64 (i : Nat) ∧ (i + k = lvs.length)) := ⟨_, fun _ _ => Iff.rfl⟩
  refine wpL_ind I ?_ lvs.length _ ((hI _ _).2 ⟨_, 0, _, (by first | rfl | (simp [cLv]; done) | (simp [cLv]; rfl) | (simp [cLv]; and_intros <;> rfl)), by simp, by simp, by simp, by simp, by simp, by omega⟩)
  intro k stI hstI
  obtain ⟨e, i, L, rfl, e2, e3, e12, e13, e14, hk⟩ := (hI _ _).1 hstI
  have htl : ((lvs.take i).map cLv).length = i := by simp; omega
  by_cases c : i < lvs.length
  rotate_left
  · have hi : i = lvs.length := by omega
    subst hi
    have h1 : lvs.take lvs.length = lvs := List.take_length
    rw [h1]
    have h2 : (lvs.map cLv).take lvs.length = lvs.map cLv := List.take_of_length_le (by simp)
    simp -implicitDefEqProofs [e2, e3, e13, e14, vstore, cellsOf?, Ent.wrO, wr]
    simp [qa, h2]
  have w_i : IntKind.i64.wrap ((i : Int) + 1) = ((i + 1 : Nat) : Int) := by rw [w64_id (by omega) (by omega)]; omega
  have b1 : 56 * (i + 1) ≤ 140737488355328 := by omega
  have b2 : i + 1 ≤ 4611686018427387904 := by omega
  have hsn : (lvs.take i).map cLv ++ [cLv lvs[i]] = (lvs.take (i + 1)).map cLv := by
    rw [List.take_add_one, List.getElem?_eq_getElem c]
    simp only [Option.toList_some, List.map_append, List.map_cons, List.map_nil]
  have hli := hal i
  have hg := g.lv lvs[i] (List.getElem_mem c)
  have hti := law_items (l := lvs[i].2.2) (by omega) (hT _ (List.getElem_mem c))
  obtain ⟨T, hT⟩ : ∃ T, (lvs.take i).map cLv = T := ⟨_, rfl⟩
  rw [hT] at htl hsn hli
  rw [hT]
  obtain ⟨⟨ls, lr, lt⟩, hlj⟩ : ∃ l, lvs[i] = l := ⟨_, rfl⟩
  rw [hlj] at hsn hti
  simp only [cLv, cRows, cItms] at hsn hti
  simp -implicitDefEqProofs [e3, e12, e13, e14, c, hlj, cLv, cRows, cItms, hti, vmove, isNil, vappend_sp es48 es48 el65, vbuildSlice_eq es48 el65, vstore, Ent.wrO, wr, cellsOf?, fzParts, setAll, rchParts, rch, rcha, frzAll, elemsOf, b1, b2, htl, hli, hsn, w_i]
  exact ⟨k - 1, by omega, (hI _ _).2 ⟨_, i + 1, _, (by first | rfl | (simp; done) | (simp; rfl) | (simp; and_intros <;> rfl)), by simp [e2], by simp [e3], by simp [e12], by simp [e13], by simp, by omega⟩⟩
end Go.Proofs.YtngpmpmhpggpgaaGreatDoorF
end

section
/- The document's sketches of levels: right. -/
set_option maxRecDepth 8192
set_option maxHeartbeats 4000000
namespace Go.Proofs.YtngpmpmhpggpgaaGreatDoorF
open Go Go.Proofs.Vm

theorem ref18_Right {s : Us} (g : UGood s) : TV.pu 13 [.agg (cUs s)] = some (cB (uOk s)) := by
  refine run13 (by simp) ?_
  obtain ⟨R, hR⟩ : ∃ R, uOk s = R := ⟨_, rfl⟩
  rw [hR]
  obtain ⟨sd, room, lvs⟩ := s
  have hl : lvs.length < 4611686018427387904 := g.len
  have s0 : 0 ≤ sd := g.s0
  have s1 : sd < 18446744073709551616 := g.s1
  by_cases c1 : room < 1
  · have hRf : R = false := by rw [← hR]; exact uOk_no fun u => by have h : 1 ≤ room := u.r1; omega
    simp -implicitDefEqProofs [Tryz.f13, cUs, c1, hRf]
  by_cases c2 : 64 < room
  · have hRf : R = false := by rw [← hR]; exact uOk_no fun u => by have h : room ≤ 64 := u.r2; omega
    simp -implicitDefEqProofs [Tryz.f13, cUs, c1, c2, hRf]
  by_cases c3 : lvs.length = 0
  · have hRf : R = false := by rw [← hR]; exact uOk_no fun u => by have h : 1 ≤ lvs.length := u.l1; omega
    have c3' : ((lvs.length : Int) == 0) = true := by simp [c3]
    simp -implicitDefEqProofs [Tryz.f13, cUs, c1, c2, c3', hRf]
  have c3' : ((lvs.length : Int) == 0) = false := by rw [beq_eq_false_iff_ne]; omega
  by_cases c4 : 16 < (lvs.length : Int)
  · have hRf : R = false := by rw [← hR]; exact uOk_no fun u => by have h : lvs.length ≤ 16 := u.l2; omega
    simp -implicitDefEqProofs [Tryz.f13, cUs, c1, c2, c3', c4, hRf]
  obtain ⟨f, hf⟩ : ∃ f, lvs[0]? = some f := ⟨_, List.getElem?_eq_getElem (show 0 < lvs.length by omega)⟩
  have hfst : fstR (sd, room, lvs) = f.2.1 := by
    unfold fstR
    have h0 : 0 < lvs.length := by omega
    show (lvs.headD _).2.1 = _
    rw [headD_at h0]
    rw [List.getElem?_eq_getElem h0] at hf
    rw [Option.some.inj hf]
  obtain ⟨fs, fr, ft⟩ := f
  simp -implicitDefEqProofs [Tryz.f13, cUs, c1, c2, c3', c4, vmove, isNil]
  obtain ⟨I, hI⟩ : ∃ I : Nat → St → Prop, ∀ k s', I k s' ↔ (∃ e i L, s' = ⟨e, .opn [[.c (.v (.int .u64 sd)), .c (.v (.int .i64 room)), .c (.arr (lvs.map cLv))]] false :: L⟩ ∧ e 1 = .one (.ptr ⟨0, 0, 0, 1⟩) ∧ e 3 = vI .i64 (i : Nat) ∧ (i + k = lvs.length) ∧ (∀ q, ∀ h : q < lvs.length, q < i → lvB (sd, room, lvs) q lvs[q] = true)) := ⟨_, fun _ _ => Iff.rfl⟩
  refine wpL_ind I ?_ lvs.length _ ((hI _ _).2 ⟨_, 0, _, (by first | rfl | (simp [cLv]; done) | (simp [cLv]; rfl) | (simp [cLv]; and_intros <;> rfl)), by simp, by simp, by omega, fun q _ h => absurd h (Nat.not_lt_zero _)⟩)
  intro k stI hstI
  obtain ⟨e, i, L, rfl, e1, e3, hk, hall⟩ := (hI _ _).1 hstI
  by_cases c : i < lvs.length
  rotate_left
  · have hRt : R = true := by
      rw [← hR, uOk_iff]
      refine ⟨?_, ?_, ?_, ?_, fun j hj => lvB_iff.1 (hall j hj ?_)⟩
      · show 1 ≤ room; omega
      · show room ≤ 64; omega
      · show 1 ≤ lvs.length; omega
      · show lvs.length ≤ 16; omega
      · have : j < lvs.length := hj
        omega
    simp -implicitDefEqProofs [e1, e3, c, hRt]
  have w_i : IntKind.i64.wrap ((i : Int) + 1) = ((i + 1 : Nat) : Int) := by rw [w64_id (by omega) (by omega)]; omega
  obtain ⟨l, hli⟩ : ∃ l, lvs[i] = l := ⟨_, rfl⟩
  have hlg := g.lv lvs[i] (List.getElem_mem c)
  rw [hli] at hlg
  obtain ⟨ls, lr, lt⟩ := l
  obtain ⟨g0, g1, g2, g3, g4⟩ := hlg
  dsimp only at g0 g1 g2 g3 g4
  have hS := ref12_Right (seed := ls) (rows := lr) (by omega) (fun x hx => by have := g3 x hx; omega)
  have bad : lvB (sd, room, lvs) i (ls, lr, lt) = false → R = false := fun h => by
    rw [← hR]
    exact uOk_lv (s := (sd, room, lvs)) c (by show lvB _ i lvs[i] = false; rw [hli]; exact h)
  simp only [cSk, cRows, cRow] at hS
  cases hok : okB lr with
  | false =>
    rw [hok] at hS
    have hRf := bad (by unfold lvB; simp [hok])
    simp -implicitDefEqProofs [e1, e3, c, hli, cLv, cRows, cRow, hS, hRf, vstore, cellsOf?, Ent.wrO, wr]
  | true =>
  rw [hok] at hS
  obtain ⟨r0, hr0, hrd⟩ := okR_zero ((okB_iff lr).1 hok)
  have hfo : OkR fr := by
    by_cases h : i = 0
    · subst h
      rw [List.getElem?_eq_getElem c, hli] at hf
      cases hf
      exact (okB_iff _).1 hok
    · have h0 : 0 < lvs.length := by omega
      have := (lvB_iff.1 (hall 0 h0 (by omega))).ok
      rw [List.getElem?_eq_getElem h0] at hf
      rw [Option.some.inj hf] at this
      exact this
  obtain ⟨f0, hf0, hfd⟩ := okR_zero hfo
  have hRow := r2_Row (s := sd) (i := (i : Int) + 1) s0 s1 (by omega) (by omega)
  have hw : IntKind.i64.wrap ((i : Int) + 1) = (i : Int) + 1 := w64_id (by omega) (by omega)
  by_cases e1' : ls = hrow sd ((i : Int) + 1)
  rotate_left
  · have h1 : (ls != hrow sd ((i : Int) + 1)) = true := by simpa using e1'
    have hRf := bad (by unfold lvB; simp [e1'])
    simp -implicitDefEqProofs [e1, e3, c, hli, cLv, cRows, cRow, hS, hRow, hw, h1, hRf, vstore, cellsOf?, Ent.wrO, wr]
  have h1 : (ls != hrow sd ((i : Int) + 1)) = false := by simpa using e1'
  by_cases e4' : room < (lt.length : Int)
  · have hRf := bad (by
      unfold lvB
      have : ¬ (lt.length : Int) ≤ room := by omega
      simp [this])
    simp -implicitDefEqProofs [e1, e3, c, hli, cLv, cRows, cRow, cItms, hS, hRow, hw, h1, e4', hRf, vstore, cellsOf?, Ent.wrO, wr]
  by_cases e2' : lr.length = fr.length
  rotate_left
  · have h2 : ((lr.length : Int) != (fr.length : Int)) = true := by simp; omega
    have hRf := bad (by unfold lvB; rw [hfst]; simp [e2'])
    simp -implicitDefEqProofs [e1, e3, c, hli, hf, cLv, cRows, cRow, cItms, hS, hRow, hw, h1, h2, e4', hRf, vstore, cellsOf?, Ent.wrO, wr]
  have h2 : ((lr.length : Int) != (fr.length : Int)) = false := by simp; omega
  by_cases e3' : r0.length = f0.length
  rotate_left
  · have h3 : ((r0.length : Int) != (f0.length : Int)) = true := by simp; omega
    have hRf := bad (by unfold lvB; rw [hfst, hrd, hfd]; simp [e3'])
    simp -implicitDefEqProofs [e1, e3, c, hli, hf, cLv, cRows, cRow, cItms, hS, hRow, hw, h1, h2, e4', hr0, hf0, h3, hRf, vstore, cellsOf?, Ent.wrO, wr]
  have h3 : ((r0.length : Int) != (f0.length : Int)) = false := by simp; omega
  simp -implicitDefEqProofs [e1, e3, c, hli, hf, cLv, cRows, cRow, cItms, hS, hRow, hw, h1, h2, e4', hr0, hf0, h3, vstore, cellsOf?, Ent.wrO, wr]
  have hlt64 : lt.length ≤ 64 := by omega
  obtain ⟨J, hJ⟩ : ∃ J : Nat → St → Prop, ∀ r s', J r s' ↔ (∃ f j M, s' = ⟨f, .opn [[.c (.v (.int .u64 sd)), .c (.v (.int .i64 room)), .c (.arr (lvs.map cLv))]] false :: (L ++ .opn [[.c (.v (.int .u64 ls)), .c (.arr (lr.map fun r => [.arr (r.map cInt)])), .c (.arr (lt.map cItm))]] false :: M)⟩ ∧ f 1 = .one (.ptr ⟨0, 0, 0, 1⟩) ∧ f 3 = vI .i64 (i : Nat) ∧ f 4 = .one (.ptr ⟨L.length + 1, 0, 0, 1⟩) ∧ f 5 = vI .i64 (j : Nat) ∧ (j + r = lt.length) ∧ (∀ q, ∀ h0 : 0 < q, ∀ hq : q < lt.length, q < j → ordI (lt[q - 1]'(by omega)) lt[q] < 0) ∧ (∀ q, ∀ hq : q < lt.length, q < j → (notK lt[q].1 lt).length + 1 = lt.length)) := ⟨_, fun _ _ => Iff.rfl⟩
  refine wpL_ind J ?_ lt.length _ ((hJ _ _).2 ⟨_, 0, _, (by first | rfl | (simp [e1, e3, cLv, cItm]; done) | (simp [e1, e3, cLv, cItm]; rfl) | (simp [e1, e3, cLv, cItm]; and_intros <;> rfl)), by simp [e1], by simp [e3], by simp, by simp, by omega, fun q _ _ h => absurd h (Nat.not_lt_zero _), fun q _ h => absurd h (Nat.not_lt_zero _)⟩)
  intro r stJ hstJ
  obtain ⟨f, j, M, rfl, e1, e3, e4, e5, hr, ha, hn⟩ := (hJ _ _).1 hstJ
  by_cases d : j < lt.length
  rotate_left
  · have hsr : Srt lt := srt_of_adj fun q h0 hq => ha q h0 hq (by omega)
    have hke : Keys lt := keys_iff.2 fun p q hq hp e => by
      have h1 := hn q hq (by omega)
      have h2 := count_two hq hp e
      omega
    have hlv : lvB (sd, room, lvs) i (ls, lr, lt) = true := lvB_iff.2 ⟨(okB_iff _).1 hok, e1', by rw [hfst]; exact e2', by rw [hfst, hfd]; show (lr.headD []).length = _; rw [hrd]; exact e3', by show (lt.length : Int) ≤ room; omega, hsr, hke⟩
    simp -implicitDefEqProofs [e3, e4, e5, d, hw]
    exact ⟨k - 1, by omega, (hI _ _).2 ⟨_, i + 1, _, rfl, by simp [e1], by simp, by omega, (fun q h hq => if e : q = i then by subst e; rw [hli]; exact hlv else hall q h (by omega))⟩⟩
  have w_j : IntKind.i64.wrap ((j : Int) + 1) = (j : Int) + 1 := w64_id (by omega) (by omega)
  have wl1 : IntKind.i64.wrap ((lt.length : Int) - 1) = (lt.length : Int) - 1 := w64_id (by omega) (by omega)
  have hW := Without lt lt[j].1 (by omega)
  simp only [cItms] at hW
  have noT : ¬ (Srt lt ∧ Keys lt) → R = false := fun h => bad (by
    unfold lvB
    rw [topB_no h]
    simp)
  by_cases d0 : 0 < j
  · have d0' : 0 < (j : Int) := by omega
    have w1 : IntKind.i64.wrap ((j : Int) - 1) = ((j - 1 : Nat) : Int) := by rw [w64_id (by omega) (by omega)]; omega
    have d1 : j - 1 < lt.length := by omega
    have hA := Ahead lt[j - 1] lt[j]
    simp only [cItm] at hA
    cases hah : aheadB lt[j - 1] lt[j] with
    | false =>
      rw [hah] at hA
      have hRf := noT fun h => by
        have := srt_adj h.1 d0 d
        have h2 : ¬ ordI lt[j - 1] lt[j] < 0 := of_decide_eq_false hah
        omega
      simp -implicitDefEqProofs [e4, e5, d, d0, d1, w1, hA, hRf, cItm]
    | true =>
      rw [hah] at hA
      have hao : ordI lt[j - 1] lt[j] < 0 := of_decide_eq_true hah
      by_cases d2 : (notK lt[j].1 lt).length + 1 = lt.length
      · have d2' : (((notK lt[j].1 lt).length : Int) != (lt.length : Int) - 1) = false := by rw [bne_eq_false_iff_eq]; omega
        simp -implicitDefEqProofs [e4, e5, d, d0, d1, w1, wl1, hA, hW, d2', w_j, cItm]
        exact ⟨r - 1, by omega, (hJ _ _).2 ⟨_, j + 1, _, (by first | rfl | (simp [e1, e3, cLv, cItm]; done) | (simp [e1, e3, cLv, cItm]; rfl) | (simp [e1, e3, cLv, cItm]; and_intros <;> rfl)), by simp [e1], by simp [e3], by simp [e4], by simp, by omega, (fun q h0 hq h => if e : q = j then by subst e; exact hao else ha q h0 hq (by omega)), (fun q hq h => if e : q = j then by subst e; exact d2 else hn q hq (by omega))⟩⟩
      · have d2' : (((notK lt[j].1 lt).length : Int) != (lt.length : Int) - 1) = true := by rw [bne_iff_ne]; omega
        have hRf := noT fun h => d2 (keys_count h.2 d)
        simp -implicitDefEqProofs [e4, e5, d, d0, d1, w1, wl1, hA, hW, d2', hRf, cItm]
  · have hj0 : j = 0 := by omega
    subst hj0
    have w1 : IntKind.i64.wrap 1 = 1 := by decide
    by_cases d2 : (notK lt[0].1 lt).length + 1 = lt.length
    · have d2' : (((notK lt[0].1 lt).length : Int) != (lt.length : Int) - 1) = false := by rw [bne_eq_false_iff_eq]; omega
      simp -implicitDefEqProofs [e4, e5, d, wl1, hW, d2', w1, cItm]
      exact ⟨r - 1, by omega, (hJ _ _).2 ⟨_, 1, _, (by first | rfl | (simp [e1, e3, cLv, cItm, w1]; done) | (simp [e1, e3, cLv, cItm, w1]; rfl) | (simp [e1, e3, cLv, cItm, w1]; and_intros <;> rfl)), by simp [e1], by simp [e3], by simp [e4], by simp, by omega, (fun q h0 hq h => absurd h (by omega)), (fun q hq h => if e : q = 0 then by subst e; exact d2 else absurd h (by omega))⟩⟩
    · have d2' : (((notK lt[0].1 lt).length : Int) != (lt.length : Int) - 1) = true := by rw [bne_iff_ne]; omega
      have hRf := noT fun h => d2 (keys_count h.2 d)
      simp -implicitDefEqProofs [e4, e5, d, wl1, hW, d2', hRf, cItm]
end Go.Proofs.YtngpmpmhpggpgaaGreatDoorF
end

section
/- A new sketch of levels: the law. -/
set_option maxRecDepth 8192
set_option maxHeartbeats 4000000
namespace Go.Proofs.YtngpmpmhpggpgaaGreatDoorF
open Go Go.Proofs.Vm

theorem uFed_none (z : Sz) : ∀ l ∈ (uFed z []).2.2, l.2.2 = [] := fun l hl => by
  obtain ⟨j, hj, rfl⟩ := List.getElem_of_mem hl
  rw [uFed_at]
  rfl
theorem sum_none {s : Us} (h : ∀ l ∈ s.2.2, l.2.2 = []) (kind : Int) : ∀ d, uSumD s kind d = 0
  | 0 => rfl
  | d + 1 => by
    have e : (s.2.2.getD (s.2.2.length - 1 - d) (0, [], [])).2.2 = [] := by
      rw [List.getD_eq_getElem?_getD]
      cases hg : s.2.2[s.2.2.length - 1 - d]? with
      | none => rfl
      | some l => exact h l (List.mem_of_getElem? hg)
    unfold uSumD
    rw [sum_none h kind d, e, lvSum_nil]
    rfl
theorem law_news {z : Sz} (s0 : 0 ≤ z.seed) (s1 : z.seed < 18446744073709551616) : TV.pu 4 [cI .u64 z.seed, cI .i64 z.levels, cI .i64 z.rows, cI .i64 z.cols, cI .i64 z.room] = some (cB true) := by
  refine run4 (by simp) ?_
  have hA := law_awake18
  by_cases hz : ZOk z
  rotate_left
  · have hN := univ_New_arg hz s0 s1
    have hnz : ∀ h1 : 1 ≤ z.levels, ∀ h2 : z.levels ≤ 16, ∀ h3 : 1 ≤ z.rows, ∀ h4 : z.rows ≤ 7, ∀ h5 : z.rows % 2 = 1, ∀ h6 : 1 ≤ z.cols, ∀ h7 : z.cols ≤ 256, ∀ h8 : 1 ≤ z.room, ∀ h9 : z.room ≤ 64, False := fun h1 h2 h3 h4 h5 h6 h7 h8 h9 => hz ⟨s0, s1, h1, h2, ⟨h3, h4, h5, h6, h7⟩, h8, h9⟩
    obtain ⟨sd, levels, rows, cols, room⟩ := z
    dsimp only at s0 s1 hN hnz ⊢
    simp only [cUs, List.map_nil] at hN
    by_cases c1 : levels < 1
    · simp -implicitDefEqProofs [Tryz.f4, c1, hN, hA, vstore, cellsOf?, Ent.wrO, wr, vmove, isNil]
    by_cases c2 : 16 < levels
    · simp -implicitDefEqProofs [Tryz.f4, c1, c2, hN, hA, vstore, cellsOf?, Ent.wrO, wr, vmove, isNil]
    by_cases c3 : rows < 1
    · simp -implicitDefEqProofs [Tryz.f4, c1, c2, c3, hN, hA, vstore, cellsOf?, Ent.wrO, wr, vmove, isNil]
    by_cases c4 : 7 < rows
    · simp -implicitDefEqProofs [Tryz.f4, c1, c2, c3, c4, hN, hA, vstore, cellsOf?, Ent.wrO, wr, vmove, isNil]
    have ht : rows.tmod 2 = rows % 2 := Int.tmod_eq_emod_of_nonneg (by omega)
    have wm : IntKind.i64.wrap (rows % 2) = rows % 2 := w64_id (by omega) (by omega)
    by_cases c5 : rows % 2 = 0
    · simp -implicitDefEqProofs [Tryz.f4, c1, c2, c3, c4, ht, c5, hN, hA, bin_rem, vstore, cellsOf?, Ent.wrO, wr, vmove, isNil]
    have c5' : (rows % 2 == 0) = false := by rw [beq_eq_false_iff_ne]; exact c5
    by_cases c6 : cols < 1
    · simp -implicitDefEqProofs [Tryz.f4, c1, c2, c3, c4, ht, c5', c6, hN, hA, bin_rem, vstore, cellsOf?, Ent.wrO, wr, vmove, isNil]
    by_cases c7 : 256 < cols
    · simp -implicitDefEqProofs [Tryz.f4, c1, c2, c3, c4, ht, c5', c6, c7, hN, hA, bin_rem, vstore, cellsOf?, Ent.wrO, wr, vmove, isNil]
    by_cases c8 : room < 1
    · simp -implicitDefEqProofs [Tryz.f4, c1, c2, c3, c4, ht, c5', c6, c7, c8, hN, hA, bin_rem, vstore, cellsOf?, Ent.wrO, wr, vmove, isNil]
    by_cases c9 : 64 < room
    · simp -implicitDefEqProofs [Tryz.f4, c1, c2, c3, c4, ht, c5', c6, c7, c8, c9, hN, hA, bin_rem, vstore, cellsOf?, Ent.wrO, wr, vmove, isNil]
    exact (hnz (by omega) (by omega) (by omega) (by omega) (by omega) (by omega) (by omega) (by omega) (by omega)).elim
  have hN := univ_New hz
  have hU := uFed_ok hz (ks := []) (by simp)
  have hG := uFed_good hz (ks := []) (by simp)
  have hlen := uFed_len z []
  have hno := uFed_none z
  have hSm := univ_Sum (s := uFed z []) (kind := 0) hG (fun L hL y hy => by rw [hno L hL] at hy; cases hy)
  rw [uOk_iff.2 hU, if_pos ⟨rfl, by omega, by omega⟩, sum_none hno] at hSm
  have hRf := law_ref hG (by have := hU.l2; omega) (fun l hl => by rw [hno l hl]; simp)
  have hRr := ref18_Right hG
  rw [uOk_iff.2 hU] at hRr
  have h0 : 0 < (uFed z []).2.2.length := by have := hU.l1; omega
  have hz0 : (uFed z []).2.2[0]? = some (hrow z.seed 1, List.replicate z.rows.toNat (List.replicate z.cols.toNat 0), []) := by
    rw [List.getElem?_eq_getElem h0, uFed_at]
    rfl
  have e1 : (uFed z []).1 = z.seed := rfl
  have e2 : (uFed z []).2.1 = z.room := rfl
  obtain ⟨l1, l2, ⟨r1, r2, r3, k1, k2⟩, m1, m2⟩ : (1 ≤ z.levels) ∧ (z.levels ≤ 16) ∧ newOk z.rows z.cols ∧ 1 ≤ z.room ∧ z.room ≤ 64 := ⟨hz.l1, hz.l2, hz.new, hz.r1, hz.r2⟩
  obtain ⟨⟨sd, room, lvs⟩, hS⟩ : ∃ S, uFed z [] = S := ⟨_, rfl⟩
  rw [hS] at hN hlen hSm hRf hRr hz0 e1 e2 h0
  dsimp only at hlen hz0 e1 e2 h0
  obtain ⟨seed, levels, rows, cols, room'⟩ := z
  dsimp only at *
  subst e1 e2
  obtain ⟨R, hR⟩ : ∃ R, List.replicate rows.toNat (List.replicate cols.toNat (0 : Int)) = R := ⟨_, rfl⟩
  have hRl : (R.length : Int) = rows := by rw [← hR]; simp; omega
  obtain ⟨r0, hr0, hrl⟩ : ∃ r0, R[0]? = some r0 ∧ (r0.length : Int) = cols := ⟨List.replicate cols.toNat 0, by
    rw [← hR, List.getElem?_replicate, if_pos (by omega)], by simp; omega⟩
  rw [hR] at hz0
  simp only [cUs] at hN hSm hRf hRr
  have hll : (lvs.length : Int) = levels := by omega
  have c1 : ¬ levels < 1 := by omega
  have c2 : ¬ 16 < levels := by omega
  have c3 : ¬ rows < 1 := by omega
  have c4 : ¬ 7 < rows := by omega
  have ht : rows.tmod 2 = rows % 2 := Int.tmod_eq_emod_of_nonneg (by omega)
  have w1 : IntKind.i64.wrap 1 = 1 := by decide
  have c6 : ¬ cols < 1 := by omega
  have c7 : ¬ 256 < cols := by omega
  have q1 : ¬ room < 1 := by omega
  have q2 : ¬ 64 < room := by omega
  simp -implicitDefEqProofs [Tryz.f4, c1, c2, c3, c4, ht, r3, c6, c7, q1, q2, hN, hA, hll, hSm, hRf, hRr, hz0, hRl, hr0, hrl, cLv, cRows, cRow, cItms, bin_rem, vstore, cellsOf?, Ent.wrO, wr, vmove, isNil]
end Go.Proofs.YtngpmpmhpggpgaaGreatDoorF
end

section
/- Data of these laws. -/
namespace Go.Proofs.YtngpmpmhpggpgaaGreatDoorF
open Go Go.Proofs.Vm

theorem isI_one {k : IntKind} {l : List CV} (h : isI k l) : ∃ n, l = [.v (.int k n)] ∧ k.min ≤ n ∧ n ≤ k.max := by
  obtain ⟨n, hx, hw⟩ := h
  simp only [Lit.wf, Bool.and_eq_true, decide_eq_true_eq] at hw
  exact ⟨n, hx, hw⟩
theorem u64_good {l : List CV} (h : isI .u64 l) : ∃ n, l = [.v (.int .u64 n)] ∧ 0 ≤ n ∧ n < 18446744073709551616 := by
  obtain ⟨n, rfl, h1, h2⟩ := isI_one h
  have e1 : IntKind.u64.min = 0 := rfl
  have e2 : IntKind.u64.max = 18446744073709551615 := rfl
  exact ⟨n, rfl, by omega, by omega⟩
theorem u8_good {l : List CV} (h : isI .u8 l) : ∃ n, l = [.v (.int .u8 n)] ∧ 0 ≤ n ∧ n < 256 := by
  obtain ⟨n, rfl, h1, h2⟩ := isI_one h
  have e1 : IntKind.u8.min = 0 := rfl
  have e2 : IntKind.u8.max = 255 := rfl
  exact ⟨n, rfl, by omega, by omega⟩
theorem i64_good {l : List CV} (h : isI .i64 l) : ∃ n, l = [.v (.int .i64 n)] ∧ -9223372036854775808 ≤ n ∧ n < 9223372036854775808 := by
  obtain ⟨n, rfl, h1, h2⟩ := isI_one h
  have e1 : IntKind.i64.min = -9223372036854775808 := rfl
  have e2 : IntKind.i64.max = 9223372036854775807 := rfl
  exact ⟨n, rfl, by omega, by omega⟩
theorem cv_one {x y : CV} (h : [x] = [y]) : x = y := by cases h; rfl
end Go.Proofs.YtngpmpmhpggpgaaGreatDoorF
end

section
/- Data of new sketches: the law of all data. -/
namespace Go.Proofs.YtngpmpmhpggpgaaGreatDoorF
open Go Go.Proofs.Vm

theorem lawUnivNews_all : ∀ l, goodsUnivNews l → TV.pu 4 l = some (cB true) := by
  rintro l ⟨a, r, rfl, ⟨x, rfl, h1⟩, b, r2, rfl, ⟨y, rfl, h2⟩, c, r3, rfl, ⟨v, rfl, h3⟩, d, r4, rfl, ⟨w, rfl, h4⟩, e, r5, rfl, ⟨u, rfl, h5⟩, rfl⟩
  obtain ⟨n1, g1, s0, s1⟩ := u64_good h1
  obtain ⟨n2, g2, _⟩ := i64_good h2
  obtain ⟨n3, g3, _⟩ := i64_good h3
  obtain ⟨n4, g4, _⟩ := i64_good h4
  obtain ⟨n5, g5, _⟩ := i64_good h5
  rw [cv_one g1, cv_one g2, cv_one g3, cv_one g4, cv_one g5]
  exact law_news (z := ⟨n1, n2, n3, n4, n5⟩) s0 s1
end Go.Proofs.YtngpmpmhpggpgaaGreatDoorF
end
