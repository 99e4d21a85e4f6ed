/- Steps shared by the proofs of this seat's statements (part 3). -/
import Derived.Test.YthhbkihhllflfaaK2
import Derived.Sort.Walk0
section
/- New radars. -/
set_option maxRecDepth 8192
set_option maxHeartbeats 1000000
namespace Go.Proofs.YthhbkihhllflfaaF
open Go Go.Proofs.Vm

def nC : RCl := (nought, 0, 0, 0)
def newRad (seed : Int) (bits : Nat) (h : Int) (rows cols : Nat) : Rad := ⟨seed, hrow seed 0, h, List.replicate bits false, List.replicate rows (List.replicate cols nC)⟩
theorem rd_New_arg {seed bits h rows cols : Int} (h0 : 0 ≤ seed) (h1 : seed < 18446744073709551616) (hb : ¬ (1 ≤ bits ∧ bits ≤ 256 ∧ 1 ≤ h ∧ h ≤ 7 ∧ 1 ≤ rows ∧ rows ≤ 7 ∧ 1 ≤ cols ∧ cols ≤ 256)) : TV.pu 24 [cI .u64 seed, cI .i64 bits, cI .i64 h, cI .i64 rows, cI .i64 cols] = some (.tup [(true, cRad zRad), (false, [.v (.int .i64 1)])]) := by
  refine run24 (by simp) ?_
  have hrw := hash_Row (s := seed) (i := 0) h0 h1 (by omega) (by omega)
  have fin : ∀ (H : Hp), True := fun _ => trivial
  by_cases g : 1 ≤ bits ∧ bits ≤ 256 ∧ 1 ≤ h ∧ h ≤ 7
  · have hn := bloom_New (seed := hrow seed 0) (bits := bits) (h := h) g.1 g.2.1 g.2.2.1 g.2.2.2
    simp only [cF] at hn
    by_cases g1 : rows < 1
    · simp -implicitDefEqProofs [Try.f24, hrw, hn, vmove, isNil, vstore, cellsOf?, Ent.wrO, wr, g1]
      simp [qa, zRad, cRad, cRws]
    · by_cases g2 : 7 < rows
      · simp -implicitDefEqProofs [Try.f24, hrw, hn, vmove, isNil, vstore, cellsOf?, Ent.wrO, wr, g1, g2]
        simp [qa, zRad, cRad, cRws]
      · by_cases g3 : cols < 1
        · simp -implicitDefEqProofs [Try.f24, hrw, hn, vmove, isNil, vstore, cellsOf?, Ent.wrO, wr, g1, g2, g3]
          simp [qa, zRad, cRad, cRws]
        · have g4 : 256 < cols := by omega
          simp -implicitDefEqProofs [Try.f24, hrw, hn, vmove, isNil, vstore, cellsOf?, Ent.wrO, wr, g1, g2, g3, g4]
          simp [qa, zRad, cRad, cRws]
  · have hn := bloom_New_arg (seed := hrow seed 0) (bits := bits) (h := h) g
    simp only [cF, List.map_nil] at hn
    simp -implicitDefEqProofs [Try.f24, hrw, hn, vmove, isNil, vstore, cellsOf?, Ent.wrO, wr]
    simp [qa, zRad, cRad, cRws]

theorem rd_New {seed hh : Int} {bits rows cols : Nat} (h0 : 0 ≤ seed) (h1 : seed < 18446744073709551616) (hb : 1 ≤ bits ∧ bits ≤ 256 ∧ 1 ≤ hh ∧ hh ≤ 7 ∧ 1 ≤ rows ∧ rows ≤ 7 ∧ 1 ≤ cols ∧ cols ≤ 256) : TV.pu 24 [cI .u64 seed, cI .i64 bits, cI .i64 hh, cI .i64 rows, cI .i64 cols] = some (.tup [(true, cRad (newRad seed bits hh rows cols)), (false, [.v (.int .i64 0)])]) := by
  refine run24 (by simp) ?_
  obtain ⟨b1, b2, b3, b4, b5, b6, b7, b8⟩ := hb
  have hrw := hash_Row (s := seed) (i := 0) h0 h1 (by omega) (by omega)
  have hn := bloom_New (seed := hrow seed 0) (bits := (bits : Int)) (h := hh) (by omega) (by omega) b3 b4
  simp only [cF, Int.toNat_natCast] at hn
  have g1 : ¬ (rows : Int) < 1 := by omega
  have g2 : ¬ 7 < (rows : Int) := by omega
  have g3 : ¬ (cols : Int) < 1 := by omega
  have g4 : ¬ 256 < (cols : Int) := by omega
  simp -implicitDefEqProofs [Try.f24, hrw, hn, vmove, isNil, vstore, cellsOf?, Ent.wrO, wr, g1, g2, g3, g4]
  have hcr := cells_Repeat (c := nC) b7 b8
  obtain ⟨R, hR⟩ : ∃ R, R = List.replicate cols (cCl nC) := ⟨_, rfl⟩
  rw [show cRw (List.replicate cols nC) = .arr R by rw [hR, cRw, List.map_replicate]] at hcr
  simp only [nC, nought, cCl, cRw, List.map_cons, List.map_nil] at hcr
  obtain ⟨I, hI⟩ : ∃ I : Nat → St → Prop, ∀ k s', I k s' ↔ (∃ e h i L E3 E4 E5, s' = ⟨e, h⟩ ∧ h = .opn [[.c (.v (.int .u64 0)), .c (.v (.int .u64 0)), .c (.v (.int .i64 0)), .sl 1 0 0 0, .sl 2 0 0 0]] false :: .clo [] false :: .clo [] false :: E3 :: E4 :: E5 :: .clo (List.replicate i [.arr R]) false :: .opn [[.c (.v (.int .u64 seed)), .c (.v (.int .u64 (hrow seed 0))), .c (.v (.int .i64 hh)), .c (.arr (List.replicate bits (cB1 false))), .sl 6 0 i i]] false :: L ∧
      e 4 = vI .i64 cols ∧ e 10 = .one (.ptr ⟨0, 0, 0, 1⟩) ∧ e 14 = .one (.ptr ⟨7, 0, 0, 1⟩) ∧ e 45 = vI .i64 rows ∧ e 46 = vI .i64 (i : Nat) ∧ i + k = rows) := ⟨_, fun _ _ => Iff.rfl⟩
  refine wpL_ind I ?_ rows _ ((hI _ _).2 ⟨_, _, 0, _, _, _, _, rfl, rfl, by simp, by simp, by simp, by simp, by simp, by omega⟩)
  intro k st hst
  obtain ⟨e, hp, i, L, E3, E4, E5, rfl, rfl, e4, e10, e14, e45, e46, hk⟩ := (hI _ _).1 hst
  by_cases d : i < rows
  · have d' : (i : Int) < rows := by omega
    have w3 : IntKind.i64.wrap ((i : Int) + 1) = ((i + 1 : Nat) : Int) := by rw [w64_id (by omega) (by omega)]; omega
    have c1 : 24 * (i + 1) ≤ 140737488355328 := by omega
    have c2 : i + 1 ≤ 4611686018427387904 := by omega
    have hal : AllLen (List.replicate i [CV.arr R]) 1 := by intro x hx; rw [List.eq_of_mem_replicate hx]; rfl
    simp -implicitDefEqProofs [e4, e14, e45, e46, d', w3, vmove, isNil, vstore, cellsOf?, Ent.wrO, wr, hcr, rcha, rch, frzAll, Ent.frz, vappend_sp es26 es26 el72, vbuildSlice_eq es26 el72, vbuildSlice_eq es72 el74, fzParts, setAll, rchParts, rch, elemsOf, c1, c2, hal]
    exact ⟨k - 1, by omega, (hI _ _).2 ⟨_, _, i + 1, _, E3, E4, E5, rfl, by rw [List.replicate_succ'], by simp [e4], by simp [e10], by simp [e14], by simp [e45], by simp, by omega⟩⟩
  · have d' : ¬ (i : Int) < rows := by omega
    have hi : i = rows := by omega
    subst hi
    simp -implicitDefEqProofs [e10, e14, e45, e46, d', vstore, cellsOf?, Ent.wrO, wr]
    simp [qa, comps, newRad, cRad, cRws, cRw, hR]
end Go.Proofs.YthhbkihhllflfaaF
end

section
/- No bit of a new filter is set. -/
set_option maxRecDepth 8192
set_option maxHeartbeats 1000000
namespace Go.Proofs.YthhbkihhllflfaaF
open Go Go.Proofs.Vm

theorem bloom_Set0 {seed h : Int} {n : Nat} (hn : n ≤ 256) : TV.pu 33 [.agg (cF seed h (List.replicate n false))] = some (cI .i64 0) := by
  refine run33 (by simp) ?_
  simp -implicitDefEqProofs [Try.f33, cF]
  obtain ⟨I, hI⟩ : ∃ I : Nat → St → Prop, ∀ k s', I k s' ↔ (∃ e i L, s' = ⟨e, L⟩ ∧ e 3 = vI .i64 0 ∧ e 7 = .one (.c (.arr (List.replicate n (cB1 false)))) ∧ e 8 = vI .i64 n ∧ e 9 = vI .i64 (i : Nat) ∧ i + k = n) := ⟨_, fun _ _ => Iff.rfl⟩
  refine wpL_ind I ?_ n _ ((hI _ _).2 ⟨_, 0, _, rfl, by simp, by simp, by simp, by simp, by omega⟩)
  intro k st hst
  obtain ⟨e, i, L, rfl, e3, e7, e8, e9, hk⟩ := (hI _ _).1 hst
  by_cases c : i < n
  · have w1 : IntKind.i64.wrap ((i : Int) + 1) = ((i + 1 : Nat) : Int) := by rw [w64_id (by omega) (by omega)]; omega
    simp -implicitDefEqProofs [e7, e8, e9, c, w1, cB1]
    exact ⟨k - 1, by omega, (hI _ _).2 ⟨_, i + 1, _, rfl, by simp [e3], by simp [e7, cB1], by simp [e8], by simp, by omega⟩⟩
  · have c' : ¬ (i : Int) < n := by omega
    simp -implicitDefEqProofs [e3, e8, e9, c']
end Go.Proofs.YthhbkihhllflfaaF
end

section
/- Keys joined: the order does not matter, a key twice is none. -/
namespace Go.Proofs.YthhbkihhllflfaaF
open Go Go.Proofs.Vm

instance : LawfulBEq ByteArray where
  eq_of_beq h := (Go.MapKept.bytes_beq _ _).1 h
  rfl := (Go.MapKept.bytes_beq _ _).2 rfl
theorem ofInt_u8 (a : Nat) (ha : a < 256) : (BitVec.ofInt 8 (a : Int)).toNat = a := by
  rw [BitVec.ofInt_natCast, BitVec.toNat_ofNat]; exact Nat.mod_eq_of_lt (by omega)
theorem u8_xor (a b : Nat) (ha : a < 256) (hb : b < 256) : Go.bits .xor .u8 (a : Int) (b : Int) = ((a ^^^ b : Nat) : Int) := by
  have hx : a ^^^ b < 2 ^ 8 := Nat.xor_lt_two_pow (by omega) (by omega)
  show IntKind.u8.wrap ((BitVec.ofInt 8 (a : Int) ^^^ BitVec.ofInt 8 (b : Int)).toNat : Int) = _
  rw [BitVec.toNat_xor, ofInt_u8 a ha, ofInt_u8 b hb, IntKind.wrap_u8]
  omega
/-- A string's byte as a number. -/
def nb (s : ByteArray) (i : Nat) : Nat := (byt s (i : Int)).toNat
theorem nb_lt (s : ByteArray) (i : Nat) : nb s i < 256 := by have := byt_range s (i : Int); unfold nb; omega
theorem byt_nb (s : ByteArray) (i : Nat) : byt s (i : Int) = (nb s i : Int) := by have := byt_range s (i : Int); unfold nb; omega
theorem nb_get {s : ByteArray} {i : Nat} (h : i < s.size) : nb s i = (s[i]'h).toNat := by
  unfold nb byt
  rw [Int.toNat_natCast, getElem?_pos s i h]
  rfl
theorem nb_ext {a b : ByteArray} (hs : a.size = b.size) (h : ∀ i, i < a.size → nb a i = nb b i) : a = b := by
  apply ByteArray.ext
  apply Array.ext
  · exact hs
  · intro i h1 h2
    have h3 := h i h1
    rw [nb_get h1, nb_get (s := b) (by exact h2)] at h3
    exact UInt8.toNat_inj.1 h3
theorem strOf_cons_data : ∀ (l : List Int) (acc : ByteArray), (l.foldl (fun r n => r.push (UInt8.ofNat n.toNat)) acc).data.toList = acc.data.toList ++ l.map fun n => UInt8.ofNat n.toNat
  | [], acc => by simp
  | x :: l, acc => by
    rw [List.foldl_cons, strOf_cons_data l, List.map_cons]
    simp
theorem strOf_data (l : List Int) : (strOf l).data.toList = l.map fun n => UInt8.ofNat n.toNat := by
  unfold strOf
  rw [strOf_cons_data]
  rfl
theorem nb_xor {a b : ByteArray} {i : Nat} (h : i < a.size) : nb (xorK a b) i = nb a i ^^^ nb b i := by
  have hs : i < (xorK a b).size := by rw [xorK_size]; exact h
  rw [nb_get hs]
  have hd := strOf_data (xorL a b)
  have h1 : (strOf (xorL a b)).data.toList[i]? = some ((xorK a b)[i]'hs) := by
    rw [List.getElem?_eq_getElem (by rw [Array.length_toList]; exact hs), Array.getElem_toList]; rfl
  have hv : nb a i ^^^ nb b i < 2 ^ 8 := Nat.xor_lt_two_pow (nb_lt _ _) (nb_lt _ _)
  have h2 : (xorL a b)[i]? = some (((nb a i ^^^ nb b i : Nat)) : Int) := by
    unfold xorL
    rw [List.getElem?_map, List.getElem?_range h, Option.map_some, xb, byt_nb, byt_nb, u8_xor _ _ (nb_lt _ _) (nb_lt _ _)]
  rw [hd, List.getElem?_map, h2, Option.map_some, Option.some.injEq, Int.toNat_natCast] at h1
  rw [← h1, UInt8.toNat_ofNat']
  omega
theorem xor_swap {a b c : ByteArray} : xorK (xorK a b) c = xorK (xorK a c) b := by
  apply nb_ext
  · simp only [xorK_size]
  · intro i h
    simp only [xorK_size] at h
    rw [nb_xor (a := xorK a b) (by rw [xorK_size]; exact h), nb_xor (a := xorK a c) (by rw [xorK_size]; exact h), nb_xor (a := a) h, nb_xor (a := a) h, Nat.xor_assoc, Nat.xor_assoc, Nat.xor_comm (nb b i)]
theorem xor_twice {a b : ByteArray} : xorK (xorK a b) b = a := by
  apply nb_ext
  · simp only [xorK_size]
  · intro i h
    simp only [xorK_size] at h
    rw [nb_xor (a := xorK a b) (by rw [xorK_size]; exact h), nb_xor (a := a) h, Nat.xor_assoc, Nat.xor_self, Nat.xor_zero]
theorem nought_size : nought.size = 37 := rfl
theorem nb_nought (i : Nat) : nb nought i = 0 := by
  by_cases h : i < 37
  · have : ∀ j : Fin 37, nb nought j.1 = 0 := by decide
    exact this ⟨i, h⟩
  · unfold nb
    rw [byt_out _ _ (by omega) (by rw [nought_size]; omega)]
    rfl
theorem xor_nought {k : ByteArray} (h : k.size = 37) : xorK nought k = k := by
  apply nb_ext
  · rw [xorK_size, h]; rfl
  · intro i hi
    rw [xorK_size] at hi
    rw [nb_xor hi, nb_nought, Nat.zero_xor]

/-- So many keys joined. -/
def xorA (l : List ByteArray) : ByteArray := l.foldl xorK nought
theorem foldl_size (l : List ByteArray) : ∀ a : ByteArray, (l.foldl xorK a).size = a.size := by
  induction l with
  | nil => intro a; rfl
  | cons x l ih => intro a; rw [List.foldl_cons, ih, xorK_size]
theorem xorA_size (l : List ByteArray) : (xorA l).size = 37 := by rw [xorA, foldl_size]; rfl
theorem xorA_snoc (l : List ByteArray) (k : ByteArray) : xorA (l ++ [k]) = xorK (xorA l) k := by simp [xorA]
theorem xorA_perm {l m : List ByteArray} (h : l.Perm m) : xorA l = xorA m := by
  unfold xorA
  exact h.foldl_eq' (fun x _ y _ z => xor_swap (a := z) (b := x) (c := y)) nought
theorem xorA_one {k : ByteArray} (h : k.size = 37) : xorA [k] = k := by unfold xorA; rw [List.foldl_cons, List.foldl_nil, xor_nought h]
theorem xorA_erase {l : List ByteArray} {k : ByteArray} (h : k ∈ l) : xorK (xorA l) k = xorA (l.erase k) := by
  have hp : l.Perm (l.erase k ++ [k]) := (List.perm_cons_erase h).trans (List.perm_append_singleton k _).symm
  rw [xorA_perm hp, xorA_snoc, xor_twice]
end Go.Proofs.YthhbkihhllflfaaF
end

section
/- The document's radar: is a cell right, a key's place, keys among keys. -/
set_option maxRecDepth 8192
set_option maxHeartbeats 1000000
namespace Go.Proofs.YthhbkihhllflfaaF
open Go Go.Proofs.Vm

theorem rr_cell (c : RCl) : TV.pu 40 [.agg (cCl c)] = some (cB (!wrongB c)) := by
  refine run40 (by simp) ?_
  obtain ⟨x, fl, pk, bb⟩ := c
  have hw : wrongB (x, fl, pk, bb) = false ↔ _ := wrongB_iff _
  dsimp only at hw
  have fin : ∀ b : Bool, (b = true ↔ wrongB (x, fl, pk, bb) = false) → cB b = cB (!wrongB (x, fl, pk, bb)) := fun b h => by
    cases b <;> cases h2 : wrongB (x, fl, pk, bb) <;> simp_all
  by_cases g1 : x.size = 37
  · have g1' : (x.size : Int) = 37 := by omega
    by_cases g2 : -1099511627776 ≤ fl
    · by_cases g3 : fl ≤ 1099511627776
      · by_cases g4 : 0 ≤ pk
        · by_cases g5 : pk ≤ 1099511627776
          · by_cases g6 : 0 ≤ bb
            · by_cases g7 : bb ≤ 1099511627776
              · rw [hw.2 ⟨g1, g2, g3, g4, g5, g6, g7⟩]
                simp -implicitDefEqProofs [Try.f40, cCl, g1', g2, g3, g4, g5, g6, g7]
              · rw [← fin false ⟨fun h => (by cases h), fun h => absurd (hw.1 h).2.2.2.2.2.2 g7⟩]
                simp -implicitDefEqProofs [Try.f40, cCl, g1', g2, g3, g4, g5, g6, g7]
            · rw [← fin false ⟨fun h => (by cases h), fun h => absurd (hw.1 h).2.2.2.2.2.1 g6⟩]
              simp -implicitDefEqProofs [Try.f40, cCl, g1', g2, g3, g4, g5, g6]
          · rw [← fin false ⟨fun h => (by cases h), fun h => absurd (hw.1 h).2.2.2.2.1 g5⟩]
            simp -implicitDefEqProofs [Try.f40, cCl, g1', g2, g3, g4, g5]
        · rw [← fin false ⟨fun h => (by cases h), fun h => absurd (hw.1 h).2.2.2.1 g4⟩]
          simp -implicitDefEqProofs [Try.f40, cCl, g1', g2, g3, g4]
      · rw [← fin false ⟨fun h => (by cases h), fun h => absurd (hw.1 h).2.2.1 g3⟩]
        simp -implicitDefEqProofs [Try.f40, cCl, g1', g2, g3]
    · rw [← fin false ⟨fun h => (by cases h), fun h => absurd (hw.1 h).2.1 g2⟩]
      simp -implicitDefEqProofs [Try.f40, cCl, g1', g2]
  · have g1' : ¬ (x.size : Int) = 37 := by omega
    rw [← fin false ⟨fun h => (by cases h), fun h => absurd (hw.1 h).1 g1⟩]
    simp -implicitDefEqProofs [Try.f40, cCl, g1']

theorem rr_Place {R : Rad} {key : ByteArray} {i : Nat} (hs : Seeds R) (hl : Lens R) (hi : i < R.rows.length) (hk : key.size ≤ 1000) : TV.pu 31 [.agg (cRad R), cS key, cI .i64 i] = some (cI .i64 (rplc R key i R.rows[i].length)) := by
  refine run31 (by simp) ?_
  obtain ⟨s, fs, h, bits, rows⟩ := R
  obtain ⟨s0, s1, s2, s3⟩ := hs
  obtain ⟨l1, l2, l3⟩ := hl
  dsimp only at s0 s1 s2 s3 l1 l2 l3 hi ⊢
  have w1 : IntKind.i64.wrap ((i : Int) + 1) = (i : Int) + 1 := w64_id (by omega) (by omega)
  have hrw := r2_Row (s := s) (i := (i : Int) + 1) s0 s1 (by omega) (by omega)
  have hrr := hrow_range s ((i : Int) + 1)
  have hcl := r2_Cell (seed := hrow s ((i : Int) + 1)) (s := key) (n := (rows[i].length : Int)) hrr.1 (by omega) hk (by have := l2 _ (List.getElem_mem hi); omega)
  simp -implicitDefEqProofs [Try.f31, cRad, cRws, cRw, w1, hi, hrw, hcl, rplc]

theorem rr_In {l : List ByteArray} {v : ByteArray} (hl : l.length < 9223372036854775807) : TV.pu 22 [.one (cSs l), cS v] = some (cB (l.any (sEq v))) := by
  refine run22 (by simp) ?_
  simp -implicitDefEqProofs [Try.f22, cSs]
  obtain ⟨I, hI⟩ : ∃ I : Nat → St → Prop, ∀ k s', I k s' ↔ (∃ e j, s' = ⟨e, []⟩ ∧ e 0 = .one (.c (.arr (l.map cStr))) ∧ e 1 = vS v ∧ e 5 = vI .i64 (j : Nat) ∧ j + k = l.length ∧ ∀ q, ∀ h : q < l.length, q < j → sEq v l[q] = false) := ⟨_, fun _ _ => Iff.rfl⟩
  refine wpL_ind I ?_ l.length _ ((hI _ _).2 ⟨_, 0, rfl, by simp, by simp, by simp, by omega, by omega⟩)
  intro k st hst
  obtain ⟨e, j, rfl, e0, e1, e5, hk, hno⟩ := (hI _ _).1 hst
  by_cases c : j < l.length
  · have w1 : IntKind.i64.wrap ((j : Int) + 1) = ((j + 1 : Nat) : Int) := by rw [w64_id (by omega) (by omega)]; omega
    by_cases hj : sEq v l[j] = true
    · have hjv : v = l[j] := sEq_iff.1 hj
      have hq : l.any (sEq v) = true := List.any_eq_true.2 ⟨l[j], List.getElem_mem c, hj⟩
      rw [hq]
      simp -implicitDefEqProofs [e0, e1, e5, c, cStr, hjv]
    · have hjv : ¬ l[j] = v := fun h => hj (sEq_iff.2 h.symm)
      simp -implicitDefEqProofs [e0, e1, e5, c, w1, cStr, toList_inj, hjv]
      refine ⟨k - 1, by omega, (hI _ _).2 ⟨_, j + 1, rfl, by simp [e0], by simp [e1], by simp, by omega, ?_⟩⟩
      intro q hq hqj
      by_cases h : q = j
      · subst h; simpa using hj
      · exact hno q hq (by omega)
  · have hq : l.any (sEq v) = false := List.any_eq_false.2 fun x hx => by
      obtain ⟨q, hq, rfl⟩ := List.getElem_of_mem hx
      rw [hno q hq (by omega)]; decide
    rw [hq]
    simp -implicitDefEqProofs [e0, e5, c]
end Go.Proofs.YthhbkihhllflfaaF
end

section
/- The document's radar: the same keys; few and short ones. -/
set_option maxRecDepth 8192
set_option maxHeartbeats 1000000
namespace Go.Proofs.YthhbkihhllflfaaF
open Go Go.Proofs.Vm

theorem rr_Same {l m : List ByteArray} (hl : l.length < 9223372036854775807) : TV.pu 20 [.one (cSs l), .one (cSs m)] = some (cB (decide (l = m))) := by
  refine run20 (by simp) ?_
  by_cases hlm : l.length = m.length
  · have hlm' : ((l.length : Int) != (m.length : Int)) = false := by simp [hlm]
    simp -implicitDefEqProofs [Try.f20, cSs, hlm]
    obtain ⟨I, hI⟩ : ∃ I : Nat → St → Prop, ∀ k s', I k s' ↔ (∃ e j, s' = ⟨e, []⟩ ∧ e 0 = .one (.c (.arr (l.map cStr))) ∧ e 1 = .one (.c (.arr (m.map cStr))) ∧ e 5 = vI .i64 (j : Nat) ∧ j + k = l.length ∧ ∀ q, ∀ h : q < l.length, ∀ h' : q < m.length, q < j → l[q] = m[q]) := ⟨_, fun _ _ => Iff.rfl⟩
    refine wpL_ind I ?_ l.length _ ((hI _ _).2 ⟨_, 0, rfl, by simp, by simp, by simp, by omega, by omega⟩)
    intro k st hst
    obtain ⟨e, j, rfl, e0, e1, e5, hk, hno⟩ := (hI _ _).1 hst
    by_cases c : j < l.length
    · have cm : j < m.length := by omega
      have w1 : IntKind.i64.wrap ((j : Int) + 1) = ((j + 1 : Nat) : Int) := by rw [w64_id (by omega) (by omega)]; omega
      by_cases hj : l[j] = m[j]
      · simp -implicitDefEqProofs [e0, e1, e5, c, cm, w1, cStr, hj]
        refine ⟨k - 1, by omega, (hI _ _).2 ⟨_, j + 1, rfl, by simp [e0], by simp [e1], by simp, by omega, ?_⟩⟩
        intro q hq hq2 hqj
        by_cases h : q = j
        · subst h; exact hj
        · exact hno q hq hq2 (by omega)
      · have hne : ¬ l = m := fun h => hj (by subst h; rfl)
        simp -implicitDefEqProofs [e0, e1, e5, c, cm, cStr, toList_inj, hj, hne]
    · have hlm2 : l = m := List.ext_getElem hlm fun q h1 h2 => hno q h1 h2 (by omega)
      have cm : ¬ (j : Int) < m.length := by omega
      subst hlm2
      simp -implicitDefEqProofs [e0, e5, c]
  · have hne : ¬ l = m := fun h => hlm (by rw [h])
    have hlm' : ¬ (l.length : Int) = m.length := by omega
    simp -implicitDefEqProofs [Try.f20, cSs, hlm', hne]

def shortB (l : List ByteArray) (most : Nat) : Bool := decide (l.length ≤ most) && l.all fun s => decide (s.size ≤ 100)
theorem rr_Short {l : List ByteArray} {most : Nat} (hl : l.length < 9223372036854775807) : TV.pu 12 [.one (cSs l), cI .i64 most] = some (cB (shortB l most)) := by
  refine run12 (by simp) ?_
  unfold shortB
  by_cases hm : l.length ≤ most
  · have hm' : ¬ (most : Int) < l.length := by omega
    simp -implicitDefEqProofs [Try.f12, cSs, hm', hm]
    obtain ⟨I, hI⟩ : ∃ I : Nat → St → Prop, ∀ k s', I k s' ↔ (∃ e j, s' = ⟨e, []⟩ ∧ e 0 = .one (.c (.arr (l.map cStr))) ∧ e 5 = vI .i64 (j : Nat) ∧ j + k = l.length ∧ ∀ q, ∀ h : q < l.length, q < j → l[q].size ≤ 100) := ⟨_, fun _ _ => Iff.rfl⟩
    refine wpL_ind I ?_ l.length _ ((hI _ _).2 ⟨_, 0, rfl, by simp, by simp, by omega, by omega⟩)
    intro k st hst
    obtain ⟨e, j, rfl, e0, e5, hk, hno⟩ := (hI _ _).1 hst
    by_cases c : j < l.length
    · have w1 : IntKind.i64.wrap ((j : Int) + 1) = ((j + 1 : Nat) : Int) := by rw [w64_id (by omega) (by omega)]; omega
      by_cases hj : l[j].size ≤ 100
      · have hj' : ¬ 100 < (l[j].size : Int) := by omega
        simp -implicitDefEqProofs [e0, e5, c, w1, cStr, hj']
        refine ⟨k - 1, by omega, (hI _ _).2 ⟨_, j + 1, rfl, by simp [e0], by simp, by omega, ?_⟩⟩
        intro q hq hqj
        by_cases h : q = j
        · subst h; exact hj
        · exact hno q hq (by omega)
      · have hj' : 100 < (l[j].size : Int) := by omega
        have hall : (l.all fun s => decide (s.size ≤ 100)) = false := by
          rw [List.all_eq_false]
          exact ⟨l[j], List.getElem_mem c, by simpa using hj⟩
        rw [hall]
        simp -implicitDefEqProofs [e0, e5, c, cStr, hj']
    · have hall : (l.all fun s => decide (s.size ≤ 100)) = true := by
        rw [List.all_eq_true]
        intro x hx
        obtain ⟨q, hq, rfl⟩ := List.getElem_of_mem hx
        exact decide_eq_true (hno q hq (by omega))
      rw [hall]
      simp -implicitDefEqProofs [e0, e5, c]
  · have hm' : (most : Int) < l.length := by omega
    simp -implicitDefEqProofs [Try.f12, cSs, hm', hm]
end Go.Proofs.YthhbkihhllflfaaF
end

section
/- A radar as the document's. -/
set_option maxRecDepth 8192
set_option maxHeartbeats 1000000
namespace Go.Proofs.YthhbkihhllflfaaF
open Go Go.Proofs.Vm

/-- Lengths that goods have. -/
def Lens7 (R : Rad) : Prop := 24 * R.rows.length ≤ 140737488355328 ∧ ∀ x ∈ R.rows, 40 * x.length ≤ 140737488355328
theorem law_ref {R : Rad} (hl : Lens7 R) : TV.pu 10 [.agg (cRad R)] = some (.agg (cRad R)) := by
  refine run10 (by simp) ?_
  obtain ⟨s, fs, hh, bits, rows⟩ := R
  obtain ⟨l1, l2⟩ := hl
  dsimp only at l1 l2
  simp -implicitDefEqProofs [Try.f10, cRad, cRws, cRw, vstore, cellsOf?, Ent.wrO, wr, vmove, isNil]
  obtain ⟨I, hI⟩ : ∃ I : Nat → St → Prop, ∀ k s', I k s' ↔ (∃ e h i L E0 E2 E3 E4, s' = ⟨e, h⟩ ∧ h = E0 :: .opn [[.c (.v (.int .u64 0)), .c (.v (.int .u64 0)), .c (.v (.int .i64 0)), .sl 2 0 0 0, .sl 3 0 0 0]] false :: E2 :: E3 :: E4 :: .clo ((rows.take i).map fun l => [cRw l]) false :: .opn [[.c (.v (.int .u64 s)), .c (.v (.int .u64 fs)), .c (.v (.int .i64 hh)), .c (.arr (bits.map cB1)), .sl 5 0 i i]] false :: L ∧
      e 2 = .one (.ptr ⟨1, 0, 0, 1⟩) ∧ e 3 = .one (.ptr ⟨6, 0, 0, 1⟩) ∧ e 15 = .one (.c (cRws rows)) ∧ e 16 = vI .i64 rows.length ∧ e 17 = vI .i64 (i : Nat) ∧ i + k = rows.length) := ⟨_, fun _ _ => Iff.rfl⟩
  refine wpL_ind I ?_ rows.length _ ((hI _ _).2 ⟨_, _, 0, _, _, _, _, _, rfl, rfl, by simp, by simp, by simp [cRws, cRw], by simp, by simp, by omega⟩)
  intro k st hst
  obtain ⟨e, h, i, L, E0, E2, E3, E4, rfl, rfl, e2, e3, e15, e16, e17, hk⟩ := (hI _ _).1 hst
  by_cases c : i < rows.length
  · have w1 : IntKind.i64.wrap ((i : Int) + 1) = ((i + 1 : Nat) : Int) := by rw [w64_id (by omega) (by omega)]; omega
    have lr := l2 rows[i] (List.getElem_mem c)
    simp -implicitDefEqProofs [e15, e16, e17, c, cRws, cRw, vmove, isNil]
    obtain ⟨J, hJ⟩ : ∃ J : Nat → St → Prop, ∀ k' s', J k' s' ↔ (∃ e h p M, s' = ⟨e, h⟩ ∧ h = E0 :: .opn [[.c (.v (.int .u64 0)), .c (.v (.int .u64 0)), .c (.v (.int .i64 0)), .sl 2 0 0 0, .sl 3 0 0 0]] false :: E2 :: E3 :: E4 :: .clo ((rows.take i).map fun l => [cRw l]) false :: .opn [[.c (.v (.int .u64 s)), .c (.v (.int .u64 fs)), .c (.v (.int .i64 hh)), .c (.arr (bits.map cB1)), .sl 5 0 i i]] false :: (L ++ .clo ((rows[i].take p).map cCl) false :: M) ∧
      e 2 = .one (.ptr ⟨1, 0, 0, 1⟩) ∧ e 3 = .one (.ptr ⟨6, 0, 0, 1⟩) ∧ e 15 = .one (.c (cRws rows)) ∧ e 16 = vI .i64 rows.length ∧ e 17 = vI .i64 (i : Nat) ∧ e 6 = .one (.sl (L.length + 1 + 1 + 1 + 1 + 1 + 1 + 1) 0 p p) ∧ e 21 = .one (.c (cRw rows[i])) ∧ e 22 = vI .i64 rows[i].length ∧ e 23 = vI .i64 (p : Nat) ∧ p + k' = rows[i].length) := ⟨_, fun _ _ => Iff.rfl⟩
    refine wpL_ind J ?_ rows[i].length _ ((hJ _ _).2 ⟨_, _, 0, [], rfl, by simp [cRw], by simp [e2], by simp [e3], by simp [e15, cRws, cRw], by simp [e16], by simp [e17], by simp, by simp [cRw], by simp, by simp, by omega⟩)
    clear e2 e3 e15 e16 e17
    intro k' st' hst'
    obtain ⟨e, h, p, M, rfl, rfl, e2, e3, e15, e16, e17, e6, e21, e22, e23, hk'⟩ := (hJ _ _).1 hst'
    by_cases d : p < rows[i].length
    · have w3 : IntKind.i64.wrap ((p : Int) + 1) = ((p + 1 : Nat) : Int) := by rw [w64_id (by omega) (by omega)]; omega
      have c1 : 40 * (p + 1) ≤ 140737488355328 := by omega
      have c2 : p + 1 ≤ 4611686018427387904 := by omega
      have hpl : min p rows[i].length = p := by omega
      have hal : AllLen ((rows[i].take p).map cCl) 4 := by intro x hx; obtain ⟨y, _, rfl⟩ := List.mem_map.1 hx; rfl
      have htk : (rows[i].take p).map cCl ++ [cCl rows[i][p]] = (rows[i].take (p + 1)).map cCl := by rw [List.take_add_one, List.getElem?_eq_getElem d, Option.toList_some, List.map_append]; rfl
      obtain ⟨y, hy⟩ : ∃ y, rows[i][p] = y := ⟨_, rfl⟩
      obtain ⟨x, fl, pk, bb⟩ := y
      have hcl : cCl rows[i][p] = [.v (.string x), .v (.int .i64 fl), .v (.int .i64 pk), .v (.int .i64 bb)] := by rw [hy]; rfl
      rw [hcl] at htk
      simp -implicitDefEqProofs [-List.map_take, e6, e21, e22, e23, d, w3, cRw, hcl, vmove, isNil, vstore, cellsOf?, Ent.wrO, wr, vappend_sp es77 es77 el78, vbuildSlice_eq es77 el78, fzParts, setAll, rchParts, rch, elemsOf, c1, c2, hpl, hal, htk]
      exact ⟨k' - 1, by omega, (hJ _ _).2 ⟨_, _, p + 1, _, rfl, by simp only [cRw]; rfl, by simp [e2], by simp [e3], by simp [e15], by simp [e16], by simp [e17], by simp, by simp [e21, cRw], by simp [e22], by simp, by omega⟩⟩
    · have hp : p = rows[i].length := by omega
      subst hp
      have c1 : 24 * (i + 1) ≤ 140737488355328 := by omega
      have c2 : i + 1 ≤ 4611686018427387904 := by omega
      have hil : min i rows.length = i := by omega
      have hal : AllLen ((rows.take i).map fun l => [cRw l]) 1 := by intro x hx; obtain ⟨y, _, rfl⟩ := List.mem_map.1 hx; rfl
      have htk : ((rows.take i).map fun l => [cRw l]) ++ [[cRw rows[i]]] = (rows.take (i + 1)).map fun l => [cRw l] := by rw [List.take_add_one, List.getElem?_eq_getElem c, Option.toList_some, List.map_append]; rfl
      have hfl : rows[i].take rows[i].length = rows[i] := List.take_of_length_le (Nat.le_refl _)
      have hfm : (rows[i].map cCl).take rows[i].length = rows[i].map cCl := List.take_of_length_le (by simp)
      simp only [cRw] at hal htk
      simp -implicitDefEqProofs [-List.map_take, e3, e17, e6, e22, e23, w1, cRw, vmove, isNil, vstore, cellsOf?, Ent.wrO, wr, vappend_sp es31 es31 el77, vbuildSlice_eq es31 el77, fzParts, setAll, rchParts, rch, frzAll, Ent.frz, elemsOf, c1, c2, hil, hal, htk, hfl, hfm]
      exact ⟨k - 1, by omega, (hI _ _).2 ⟨_, _, i + 1, _, E0, E2, E3, E4, rfl, by simp only [cRw]; rfl, by simp [e2], by simp [e3], by simp [e15, cRws, cRw], by simp [e16], by simp, by omega⟩⟩
  · have hi : i = rows.length := by omega
    subst hi
    simp -implicitDefEqProofs [e2, e3, e16, e17, vstore, cellsOf?, Ent.wrO, wr]
    simp [qa, cRw]
    exact List.take_of_length_le (by simp)
end Go.Proofs.YthhbkihhllflfaaF
end

section
/- The document's radar: a key put among rising ones. -/
set_option maxRecDepth 8192
set_option maxHeartbeats 1000000
namespace Go.Proofs.YthhbkihhllflfaaF
open Go Go.Proofs.Vm

def ltS (a b : ByteArray) : Bool := Op.bytesLess a.toList b.toList
def insS (k : ByteArray) : List ByteArray → List ByteArray
  | [] => [k]
  | x :: l => if ltS k x then k :: x :: l else x :: insS k l
theorem allStr (l : List ByteArray) : AllLen (l.map cStr) 1 := by intro x hx; obtain ⟨y, _, rfl⟩ := List.mem_map.1 hx; rfl
theorem rr_Put {l : List ByteArray} {key : ByteArray} (hl : l.length < 1000000) : TV.pu 43 [.one (cSs l), cS key] = some (.one (cSs (insS key l))) := by
  refine run43 (by simp) ?_
  simp -implicitDefEqProofs [Try.f43, cSs, vmove, isNil]
  obtain ⟨I, hI⟩ : ∃ I : Nat → St → Prop, ∀ n s', I n s' ↔ (∃ e i out put E L, s' = ⟨e, E :: .clo (out.map cStr) false :: L⟩ ∧ e 0 = .one (.c (.arr (l.map cStr))) ∧ e 1 = vS key ∧ e 5 = .one (.sl 1 0 out.length out.length) ∧ e 6 = vB put ∧ e 7 = vI .i64 (i : Nat) ∧ i + n = l.length ∧ (put = true → out.length = i + 1 ∧ out ++ l.drop i = insS key l) ∧ (put = false → out.length = i ∧ out ++ insS key (l.drop i) = insS key l)) := ⟨_, fun _ _ => Iff.rfl⟩
  refine wpL_ind I ?_ l.length _ ((hI _ _).2 ⟨_, 0, [], false, _, _, rfl, by simp, by simp, by simp, by simp, by simp, by omega, by simp, by simp⟩)
  intro n st hst
  obtain ⟨e, i, out, put, E, L, rfl, e0, e1, e5, e6, e7, hn, hp1, hp2⟩ := (hI _ _).1 hst
  have hal := allStr out
  by_cases c : i < l.length
  · have w1 : IntKind.i64.wrap ((i : Int) + 1) = ((i + 1 : Nat) : Int) := by rw [w64_id (by omega) (by omega)]; omega
    have hd : l.drop i = l[i] :: l.drop (i + 1) := List.drop_eq_getElem_cons c
    cases put with
    | true =>
      obtain ⟨hl1, hl2⟩ := hp1 rfl
      have b1 : 16 * (out.length + 1) ≤ 140737488355328 := by omega
      have b2 : out.length + 1 ≤ 4611686018427387904 := by omega
      simp -implicitDefEqProofs [e0, e5, e6, e7, c, cStr, w1, vmove, isNil, vappend_sp es29 es29 el9, vbuildSlice_eq es29 el9, cellsOf?, fzParts, setAll, rchParts, rch, elemsOf, b1, b2, hal]
      exact ⟨n - 1, by omega, (hI _ _).2 ⟨_, i + 1, out ++ [l[i]], true, _, _, by simp only [List.map_append, List.map_cons, List.map_nil, cStr]; rfl, by simp [e0], by simp [e1], by simp, by simp [e6], by simp, by omega, fun _ => ⟨by simp; omega, by rw [← hl2, hd]; simp⟩, by simp⟩⟩
    | false =>
      obtain ⟨hl1, hl2⟩ := hp2 rfl
      have b1 : 16 * (out.length + 1) ≤ 140737488355328 := by omega
      have b2 : out.length + 1 ≤ 4611686018427387904 := by omega
      have b3 : 16 * (out.length + 1 + 1) ≤ 140737488355328 := by omega
      have b4 : out.length + 1 + 1 ≤ 4611686018427387904 := by omega
      have hal2 : AllLen (out.map cStr ++ [[CV.v (.string key)]]) 1 := allStr (out ++ [key]) |> fun h => by simpa [cStr] using h
      have hq : Op.bytesLess key.toList l[i].toList = ltS key l[i] := rfl
      cases hlt : ltS key l[i] with
      | true =>
        rw [hlt] at hq
        simp -implicitDefEqProofs [e0, e1, e5, e6, e7, c, cStr, w1, hq, vmove, isNil, vappend_sp es29 es29 el9, vbuildSlice_eq es29 el9, cellsOf?, fzParts, setAll, rchParts, rch, elemsOf, b1, b2, b3, b4, hal, hal2]
        exact ⟨n - 1, by omega, (hI _ _).2 ⟨_, i + 1, out ++ [key, l[i]], true, _, _, by simp only [List.map_append, List.map_cons, List.map_nil, cStr]; rfl, by simp [e0], by simp [e1], by simp, by simp, by simp, by omega, fun _ => ⟨by simp; omega, by rw [← hl2, hd, insS, hlt]; simp⟩, by simp⟩⟩
      | false =>
        rw [hlt] at hq
        simp -implicitDefEqProofs [e0, e1, e5, e6, e7, c, cStr, w1, hq, vmove, isNil, vappend_sp es29 es29 el9, vbuildSlice_eq es29 el9, cellsOf?, fzParts, setAll, rchParts, rch, elemsOf, b1, b2, hal]
        exact ⟨n - 1, by omega, (hI _ _).2 ⟨_, i + 1, out ++ [l[i]], false, _, _, by simp only [List.map_append, List.map_cons, List.map_nil, cStr]; rfl, by simp [e0], by simp [e1], by simp, by simp [e6], by simp, by omega, by simp, fun _ => ⟨by simp; omega, by rw [← hl2, hd, insS, hlt]; simp⟩⟩⟩
  · have hdn : l.drop i = [] := List.drop_eq_nil_of_le (by omega)
    cases put with
    | true =>
      obtain ⟨hl1, hl2⟩ := hp1 rfl
      rw [hdn, List.append_nil] at hl2
      subst hl2
      have htk : ((insS key l).map cStr).take (insS key l).length = (insS key l).map cStr := List.take_of_length_le (by simp)
      simp -implicitDefEqProofs [e0, e5, e6, e7, c, vmove, isNil, htk]
    | false =>
      obtain ⟨hl1, hl2⟩ := hp2 rfl
      rw [hdn] at hl2
      have b1 : 16 * (out.length + 1) ≤ 140737488355328 := by omega
      have b2 : out.length + 1 ≤ 4611686018427387904 := by omega
      have htk : (out.map cStr ++ [[CV.v (.string key)]]).take (out.length + 1) = (insS key l).map cStr := by
        rw [← hl2, List.take_of_length_le (by simp), List.map_append]; rfl
      simp -implicitDefEqProofs [e0, e1, e5, e6, e7, c, vmove, isNil, vappend_sp es29 es29 el9, vbuildSlice_eq es29 el9, cellsOf?, fzParts, setAll, rchParts, rch, elemsOf, b1, b2, hal, htk]
end Go.Proofs.YthhbkihhllflfaaF
end

section
/- The document's radar: is it right? -/
set_option maxRecDepth 8192
set_option maxHeartbeats 1000000
namespace Go.Proofs.YthhbkihhllflfaaF
open Go Go.Proofs.Vm

theorem rOk_row {R : Rad} {i : Nat} (h : i < R.rows.length) (hw : rowW R.rows R.rows[i] = true) : rOk R = false := by
  unfold rOk
  have : R.rows.any (rowW R.rows) = true := List.any_eq_true.2 ⟨_, List.getElem_mem h, hw⟩
  rw [this]; simp
theorem rr_Right {R : Rad} (hs : Seeds R) (hl : Lens R) : TV.pu 16 [.agg (cRad R)] = some (cB (rOk R)) := by
  refine run16 (by simp) ?_
  obtain ⟨s, fs, h, bits, rows⟩ := R
  obtain ⟨s0, s1, s2, s3⟩ := hs
  obtain ⟨l1, l2, l3⟩ := hl
  dsimp only at s0 s1 s2 s3 l1 l2 l3
  have hf := ref10_Right fs h bits
  have hrw := r2_Row (s := s) (i := 0) s0 s1 (by omega) (by omega)
  simp only [cF] at hf
  obtain ⟨res, hres⟩ : ∃ res, rOk ⟨s, fs, h, bits, rows⟩ = res := ⟨_, rfl⟩
  have hbad : ∀ i (hi : i < rows.length), rowW rows rows[i] = true → res = false := fun i hi hw => by rw [← hres]; exact rOk_row (R := ⟨s, fs, h, bits, rows⟩) hi hw
  rw [hres]
  cases c1 : fOk h bits with
  | false =>
    have : res = false := by rw [← hres, rOk, c1]; simp
    rw [c1] at hf
    simp -implicitDefEqProofs [Try.f16, cRad, cRws, hf, this]
  | true =>
  rw [c1] at hf
  by_cases c2 : fs = hrow s 0
  rotate_left
  · have : res = false := by rw [← hres, rOk]; simp [c2]
    simp -implicitDefEqProofs [Try.f16, cRad, cRws, hf, hrw, c2, this]
  subst c2
  by_cases c3 : 1 ≤ rows.length
  rotate_left
  · have : res = false := by rw [← hres, rOk]; simp [c3]
    have c3' : (rows.length : Int) = 0 := by omega
    simp -implicitDefEqProofs [Try.f16, cRad, cRws, hf, hrw, c3', this]
  have c3' : ¬ (rows.length : Int) = 0 := by omega
  have c3n : ¬ rows = [] := by rintro rfl; simp at c3
  by_cases c4 : rows.length ≤ 7
  rotate_left
  · have : res = false := by rw [← hres, rOk]; simp [c4]
    have c4' : 7 < (rows.length : Int) := by omega
    simp -implicitDefEqProofs [Try.f16, cRad, cRws, hf, hrw, c3n, c4', this]
  have c4' : ¬ 7 < (rows.length : Int) := by omega
  have hh0 : 0 < rows.length := by omega
  have hhd : rows.headD [] = rows[0] := by cases rows with | nil => simp at hh0 | cons x t => rfl
  simp -implicitDefEqProofs [Try.f16, cRad, cRws, hf, hrw, c3n, c4']
  obtain ⟨I, hI⟩ : ∃ I : Nat → St → Prop, ∀ k s', I k s' ↔ (∃ e i L, s' = ⟨e, .opn [(cRad ⟨s, hrow s 0, h, bits, rows⟩).map .c] false :: L⟩ ∧ e 1 = .one (.ptr ⟨0, 0, 0, 1⟩) ∧ e 3 = vI .i64 (i : Nat) ∧ (i + k = rows.length) ∧ (∀ j (h : j < rows.length), j < i → rowW rows rows[j] = false)) := ⟨_, fun _ _ => Iff.rfl⟩
  refine wpL_ind I ?_ rows.length _ ((hI _ _).2 ⟨_, 0, _, (by first | rfl | (simp [cRad, cRws, cRw]; done) | (simp [cRad, cRws, cRw]; rfl)), by simp [cRw], by simp [cRw], by simp, by omega⟩)
  intro k stI hstI
  obtain ⟨e, i, L, rfl, e1, e3, hk, hno⟩ := (hI _ _).1 hstI
  by_cases c : i < rows.length
  rotate_left
  · have : res = true := by
      rw [← hres, rOk]
      have : rows.any (rowW rows) = false := List.any_eq_false.2 fun x hx => by
        obtain ⟨q, hq, rfl⟩ := List.getElem_of_mem hx
        rw [hno q hq (by omega)]; decide
      simp [c1, c3, c4, this]
    simp -implicitDefEqProofs [e1, e3, cRad, cRws, cRw, c, this]
  have w_i : IntKind.i64.wrap ((i : Int) + 1) = ((i + 1 : Nat) : Int) := by rw [w64_id (by omega) (by omega)]; omega
  have hlr := l2 _ (List.getElem_mem c)
  have hbi := hbad i c
  have hrW : rowW rows rows[i] = (decide (rows[i].length < 1) || decide (256 < rows[i].length) || decide (rows[i].length ≠ rows[0].length) || rows[i].any wrongB) := by unfold rowW; rw [hhd]
  by_cases d1 : 1 ≤ rows[i].length
  rotate_left
  · rw [hbi (by rw [hrW, decide_eq_true (show rows[i].length < 1 by omega)]; rfl)]
    have d1' : (rows[i].length : Int) = 0 := by omega
    simp -implicitDefEqProofs [e1, e3, cRad, cRws, cRw, c, d1', vmove, isNil]
  have d1' : ¬ (rows[i].length : Int) = 0 := by omega
  have d1n : ¬ rows[i] = [] := by intro h; rw [h] at d1; simp at d1
  by_cases d2 : rows[i].length ≤ 256
  rotate_left
  · rw [hbi (by rw [hrW, decide_eq_true (show 256 < rows[i].length by omega)]; simp)]
    have d2' : 256 < (rows[i].length : Int) := by omega
    simp -implicitDefEqProofs [e1, e3, cRad, cRws, cRw, c, d1n, d2', vmove, isNil]
  have d2' : ¬ 256 < (rows[i].length : Int) := by omega
  by_cases d3 : rows[i].length = rows[0].length
  rotate_left
  · rw [hbi (by rw [hrW]; simp [d3])]
    have d3' : ¬ (rows[i].length : Int) = rows[0].length := by omega
    simp -implicitDefEqProofs [e1, e3, cRad, cRws, cRw, c, hh0, d1n, d2', d3', vmove, isNil]
  have d3' : ((rows[i].length : Int) != (rows[0].length : Int)) = false := by simp [d3]
  simp -implicitDefEqProofs [e1, e3, cRad, cRws, cRw, c, hh0, d1n, d2', d3', vmove, isNil]
  obtain ⟨J, hJ⟩ : ∃ J : Nat → St → Prop, ∀ k' s', J k' s' ↔ (∃ e p L, s' = ⟨e, .opn [(cRad ⟨s, hrow s 0, h, bits, rows⟩).map .c] false :: L⟩ ∧ e 1 = .one (.ptr ⟨0, 0, 0, 1⟩) ∧ e 3 = vI .i64 (i : Nat) ∧ e 4 = vI .i64 rows[i].length ∧ e 5 = vI .i64 (p : Nat) ∧ (p + k' = rows[i].length) ∧ (∀ q (h : q < rows[i].length), q < p → wrongB rows[i][q] = false)) := ⟨_, fun _ _ => Iff.rfl⟩
  refine wpL_ind J ?_ rows[i].length _ ((hJ _ _).2 ⟨_, 0, _, (by first | rfl | (simp [e1, e3, cRad, cRws, cRw]; done) | (simp [e1, e3, cRad, cRws, cRw]; rfl)), by simp [e1], by simp [e3], by simp, by simp, by omega, by omega⟩)
  clear e1 e3
  intro k' stJ hstJ
  obtain ⟨e, p, L, rfl, e1, e3, e4, e5, hk', hnp⟩ := (hJ _ _).1 hstJ
  by_cases d : p < rows[i].length
  rotate_left
  · simp -implicitDefEqProofs [e3, e4, e5, d, w_i, cRad, cRws, cRw]
    refine ⟨k - 1, by omega, (hI _ _).2 ⟨_, i + 1, _, (by first | rfl | (simp [e4]; done) | (simp [e4]; rfl)), by simp [e1], by simp, by omega, fun q hq hq2 => ?_⟩⟩
    by_cases hqi : q = i
    · subst hqi
      rw [hrW, decide_eq_false (show ¬ rows[q].length < 1 by omega), decide_eq_false (show ¬ 256 < rows[q].length by omega), decide_eq_false (show ¬ rows[q].length ≠ rows[0].length by omega)]
      simp only [Bool.false_or]
      exact List.any_eq_false.2 fun x hx => by
        obtain ⟨z, hz, rfl⟩ := List.getElem_of_mem hx
        rw [hnp z hz (by omega)]; decide
    · exact hno q hq (by omega)
  have w_p : IntKind.i64.wrap ((p : Int) + 1) = ((p + 1 : Nat) : Int) := by rw [w64_id (by omega) (by omega)]; omega
  have hcell := rr_cell rows[i][p]
  simp only [cCl] at hcell
  cases hw : wrongB rows[i][p] with
  | true =>
    have hany : rows[i].any wrongB = true := List.any_eq_true.2 ⟨_, List.getElem_mem d, hw⟩
    rw [hbi (by rw [hrW, hany]; simp)]
    rw [hw] at hcell
    simp -implicitDefEqProofs [e1, e3, e4, e5, c, d, cRad, cRws, cRw, cCl, hcell]
  | false =>
    rw [hw] at hcell
    simp -implicitDefEqProofs [e1, e3, e4, e5, c, d, w_p, cRad, cRws, cRw, cCl, hcell]
    refine ⟨k' - 1, by omega, (hJ _ _).2 ⟨_, p + 1, _, (by first | rfl | (simp [cRad, cRws, cRw]; done) | (simp [cRad, cRws, cRw]; rfl)), by simp [e1], by simp [e3], by simp [e4], by simp, by omega, fun q hq hq2 => ?_⟩⟩
    by_cases hqp : q = p
    · subst hqp; exact hw
    · exact hnp q hq (by omega)
end Go.Proofs.YthhbkihhllflfaaF
end

section
/- The document's radar: a turn of a key's cells. -/
set_option maxRecDepth 8192
set_option maxHeartbeats 1000000
namespace Go.Proofs.YthhbkihhllflfaaF
open Go Go.Proofs.Vm

def turnC (put : Bool) (key : ByteArray) (pk bb fl : Int) (c : RCl) : RCl := (if put then xorK c.1 key else c.1, max (c.2.1 + fl) (-1099511627776), c.2.2.1 + pk, c.2.2.2 + bb)
theorem rr_turn {R : Rad} {key : ByteArray} {pk bb fl : Int} {put : Bool} (hs : Seeds R) (hl : Lens R) (hok : rOk R = true) (hk37 : key.size = 37) (hp : 0 ≤ pk ∧ pk ≤ 1099511627776) (hb : 0 ≤ bb ∧ bb ≤ 1099511627776) (hf : -1 ≤ fl ∧ fl ≤ 1) :
    TV.pu 56 [.agg (cRad R), cS key, cI .i64 pk, cI .i64 bb, cI .i64 fl, cB put] = some (.agg (cRad { R with rows := updA (turnC put key pk bb fl) R.s key R.rows })) := by
  refine run56 (by simp) ?_
  obtain ⟨q1, q2, q3, q4, q5⟩ := rOk_facts hok
  have hpl := fun (i : Nat) (hi : i < R.rows.length) => rr_Place (R := R) (key := key) (i := i) hs hl hi (by omega)
  obtain ⟨res, hres⟩ : ∃ res, updA (turnC put key pk bb fl) R.s key R.rows = res := ⟨_, rfl⟩
  rw [hres]
  simp -implicitDefEqProofs [Try.f56, cRad, cRws, cRw, vmove, isNil]
  have hrl : res.length = R.rows.length := by rw [← hres, updA_len]
  have hri : ∀ (i : Nat) (h : i < R.rows.length) (h' : i < res.length), res[i] = updR (turnC put key pk bb fl) R.s key (i : Int) R.rows[i] := fun i h h' => by subst hres; exact updA_at ..
  clear hres
  obtain ⟨I, hI⟩ : ∃ I : Nat → St → Prop, ∀ k s', I k s' ↔ (∃ e i E2 E3 L, s' = ⟨e, .opn [(cRad R).map .c] false :: .opn [[.c (.v (.int .u64 0)), .c (.v (.int .u64 0)), .c (.v (.int .i64 0)), .sl 2 0 0 0, .sl 3 0 0 0]] false :: E2 :: E3 :: .clo ((res.take i).map fun l => [cRw l]) false :: L⟩ ∧ e 1 = vS key ∧ e 2 = vI .i64 pk ∧ e 3 = vI .i64 bb ∧ e 4 = vI .i64 fl ∧ e 5 = vB put ∧ e 6 = .one (.ptr ⟨0, 0, 0, 1⟩) ∧ e 12 = .one (.ptr ⟨1, 0, 0, 1⟩) ∧ e 13 = .one (.sl 4 0 i i) ∧ e 14 = vI .i64 (i : Nat) ∧ (i + k = R.rows.length)) := ⟨_, fun _ _ => Iff.rfl⟩
  refine wpL_ind I ?_ R.rows.length _ ((hI _ _).2 ⟨_, 0, _, _, _, (by first | rfl | (simp [cRad, cRws, cRw]; done) | (simp [cRad, cRws, cRw]; rfl) | (simp [cRad, cRws, cRw]; and_intros <;> rfl)), by simp, by simp, by simp, by simp, by simp, by simp, by simp, by simp, by simp, by omega⟩)
  intro k stI hstI
  obtain ⟨e, i, E2, E3, L, rfl, e1, e2, e3, e4, e5, e6, e12, e13, e14, hk⟩ := (hI _ _).1 hstI
  by_cases c : i < R.rows.length
  rotate_left
  · have hi : i = R.rows.length := by omega
    subst hi
    have htk : res.take R.rows.length = res := List.take_of_length_le (by omega)
    have hltk : R.rows.length = res.length := hrl.symm
    simp -implicitDefEqProofs [e6, e12, e13, e14, cRad, cRws, cRw, htk, vstore, cellsOf?, Ent.wrO, wr]
    have hfm : (res.map fun l => [CV.arr (l.map cCl)]).take R.rows.length = res.map fun l => [CV.arr (l.map cCl)] := List.take_of_length_le (by simp [hrl])
    simp [qa, hrl, hfm]
  have w_i : IntKind.i64.wrap ((i : Int) + 1) = ((i + 1 : Nat) : Int) := by rw [w64_id (by omega) (by omega)]; omega
  have hi' : i < res.length := by omega
  have hp := hpl i c
  have hro := hri i c hi'
  obtain ⟨a1, a2, a3, a4⟩ := q5 _ (List.getElem_mem c)
  have hpr := rplc_range (r := R) (key := key) (i := i) (n := R.rows[i].length) a1
  obtain ⟨at', hat'⟩ : ∃ z, rplc R key i R.rows[i].length = z := ⟨_, rfl⟩
  have hatd : hcell (hrow R.s ((i : Int) + 1)) key (R.rows[i].length : Int) = at' := hat'
  rw [hat'] at hp hpr
  unfold updR at hro
  rw [hatd] at hro
  simp only [cRad, cRws, cRw] at hp
  simp -implicitDefEqProofs [e1, e6, e14, c, cRad, cRws, cRw, hp, vmove, isNil]
  obtain ⟨J, hJ⟩ : ∃ J : Nat → St → Prop, ∀ k' s', J k' s' ↔ (∃ e p E2 E3 M, s' = ⟨e, .opn [(cRad R).map .c] false :: .opn [[.c (.v (.int .u64 0)), .c (.v (.int .u64 0)), .c (.v (.int .i64 0)), .sl 2 0 0 0, .sl 3 0 0 0]] false :: E2 :: E3 :: .clo ((res.take i).map fun l => [cRw l]) false :: (L ++ .clo ((res[i].take p).map cCl) false :: M)⟩ ∧ e 1 = vS key ∧ e 2 = vI .i64 pk ∧ e 3 = vI .i64 bb ∧ e 4 = vI .i64 fl ∧ e 5 = vB put ∧ e 6 = .one (.ptr ⟨0, 0, 0, 1⟩) ∧ e 12 = .one (.ptr ⟨1, 0, 0, 1⟩) ∧ e 13 = .one (.sl 4 0 i i) ∧ e 14 = vI .i64 (i : Nat) ∧ e 15 = .one (.sl (L.length + 1 + 1 + 1 + 1 + 1) 0 p p) ∧ e 16 = vI .i64 at' ∧ e 17 = vI .i64 (p : Nat) ∧ (p + k' = R.rows[i].length)) := ⟨_, fun _ _ => Iff.rfl⟩
  refine wpL_ind J ?_ R.rows[i].length _ ((hJ _ _).2 ⟨_, 0, _, _, [], (by first | rfl | (simp [cRad, cRws, cRw]; done) | (simp [cRad, cRws, cRw]; rfl) | (simp [cRad, cRws, cRw]; and_intros <;> rfl)), by simp [e1], by simp [e2], by simp [e3], by simp [e4], by simp [e5], by simp [e6], by simp [e12], by simp [e13], by simp [e14], by simp, by simp, by simp, by omega⟩)
  clear e1 e2 e3 e4 e5 e6 e12 e13 e14
  intro k' stJ hstJ
  obtain ⟨e, p, E2, E3, M, rfl, e1, e2, e3, e4, e5, e6, e12, e13, e14, e15, e16, e17, hk'⟩ := (hJ _ _).1 hstJ
  have hlen : res[i].length = R.rows[i].length := by rw [hro]; simp
  by_cases d : p < R.rows[i].length
  rotate_left
  · have hp2 : p = R.rows[i].length := by omega
    subst hp2
    have hfl : (res[i].map cCl).take R.rows[i].length = res[i].map cCl := List.take_of_length_le (by simp; omega)
    have hfl2 : res[i].take R.rows[i].length = res[i] := List.take_of_length_le (by omega)
    have c1 : 24 * (i + 1) ≤ 140737488355328 := by omega
    have c2 : i + 1 ≤ 4611686018427387904 := by omega
    have hil : min i res.length = i := by omega
    have hal : AllLen ((res.take i).map fun l => [cRw l]) 1 := by intro x hx; obtain ⟨y, _, rfl⟩ := List.mem_map.1 hx; rfl
    have htk : ((res.take i).map fun l => [cRw l]) ++ [[cRw res[i]]] = (res.take (i + 1)).map fun l => [cRw l] := by rw [List.take_add_one, List.getElem?_eq_getElem hi', Option.toList_some, List.map_append]; rfl
    simp only [cRw] at hal htk
    simp -implicitDefEqProofs [-List.map_take, e6, e13, e14, e15, e17, c, w_i, cRad, cRws, cRw, hfl, hfl2, hlen, vmove, isNil, cellsOf?, vappend_sp es31 es31 el77, vbuildSlice_eq es31 el77, fzParts, setAll, rchParts, rch, frzAll, Ent.frz, elemsOf, c1, c2, hil, hal, htk]
    exact ⟨k - 1, by omega, (hI _ _).2 ⟨_, i + 1, E2, E3, _, (by first | rfl | (simp [cRad, cRws, cRw]; done) | (simp [cRad, cRws, cRw]; rfl) | (simp [cRad, cRws, cRw]; and_intros <;> rfl)), by simp [e1], by simp [e2], by simp [e3], by simp [e4], by simp [e5], by simp [e6], by simp [e12], by simp, by simp, by omega⟩⟩
  have w_p : IntKind.i64.wrap ((p : Int) + 1) = ((p + 1 : Nat) : Int) := by rw [w64_id (by omega) (by omega)]; omega
  have d' : p < res[i].length := by omega
  have hrp : res[i][p] = if at'.toNat = p then turnC put key pk bb fl R.rows[i][p] else R.rows[i][p] := by simp only [hro, List.getElem_modify]
  have c1 : 40 * (p + 1) ≤ 140737488355328 := by omega
  have c2 : p + 1 ≤ 4611686018427387904 := by omega
  have hpl : min p res[i].length = p := by omega
  have hal : AllLen ((res[i].take p).map cCl) 4 := by intro x hx; obtain ⟨y, _, rfl⟩ := List.mem_map.1 hx; rfl
  have htk : (res[i].take p).map cCl ++ [cCl res[i][p]] = (res[i].take (p + 1)).map cCl := by rw [List.take_add_one, List.getElem?_eq_getElem d', Option.toList_some, List.map_append]; rfl
  have hw := (wrongB_iff _).1 (a4 _ (List.getElem_mem d))
  obtain ⟨y, hy⟩ : ∃ y, R.rows[i][p] = y := ⟨_, rfl⟩
  rw [hy] at hw hrp
  obtain ⟨x, f0, p0, b0⟩ := y
  have hcl : cCl R.rows[i][p] = [.v (.string x), .v (.int .i64 f0), .v (.int .i64 p0), .v (.int .i64 b0)] := by rw [hy]; rfl
  dsimp only at hw
  by_cases hat2 : (p : Int) = at'
  rotate_left
  · rw [if_neg (by omega)] at hrp
    rw [hrp] at htk
    simp only [cCl] at htk
    simp -implicitDefEqProofs [-List.map_take, e6, e14, e15, e16, e17, c, d, w_p, cRad, cRws, cRw, hcl, hat2, vmove, isNil, vstore, cellsOf?, Ent.wrO, wr, vappend_sp es77 es77 el78, vbuildSlice_eq es77 el78, fzParts, setAll, rchParts, rch, elemsOf, c1, c2, hpl, hal, htk]
    exact ⟨k' - 1, by omega, (hJ _ _).2 ⟨_, p + 1, E2, E3, _, (by first | rfl | (simp [cRad, cRws, cRw]; done) | (simp [cRad, cRws, cRw]; rfl) | (simp [cRad, cRws, cRw]; and_intros <;> rfl)), by simp [e1], by simp [e2], by simp [e3], by simp [e4], by simp [e5], by simp [e6], by simp [e12], by simp [e13], by simp [e14], by simp, by simp [e16], by simp, by omega⟩⟩
  subst hat2
  rw [if_pos (by omega)] at hrp
  have v1 : IntKind.i64.wrap (p0 + pk) = p0 + pk := w64_id (by omega) (by omega)
  have v2 : IntKind.i64.wrap (b0 + bb) = b0 + bb := w64_id (by omega) (by omega)
  have v3 : IntKind.i64.wrap (f0 + fl) = f0 + fl := w64_id (by omega) (by omega)
  have hx := r16_xor (a := x) (b := key) (by omega) (by omega)
  rw [hrp] at htk
  unfold turnC at htk
  simp only [cCl] at htk
  by_cases g : f0 + fl < -1099511627776
  · have g' : max (f0 + fl) (-1099511627776) = -1099511627776 := by omega
    rw [g'] at htk
    cases put with
    | true =>
      simp only [if_true] at htk
      simp -implicitDefEqProofs [-List.map_take, e1, e2, e3, e4, e5, e6, e14, e15, e16, e17, c, d, w_p, cRad, cRws, cRw, hcl, vmove, isNil, vstore, cellsOf?, Ent.wrO, wr, vappend_sp es77 es77 el78, vbuildSlice_eq es77 el78, fzParts, setAll, rchParts, rch, elemsOf, c1, c2, hpl, hal, htk, v1, v2, v3, g, hx]
      exact ⟨k' - 1, by omega, (hJ _ _).2 ⟨_, p + 1, E2, E3, _, (by first | rfl | (simp [cRad, cRws, cRw]; done) | (simp [cRad, cRws, cRw]; rfl) | (simp [cRad, cRws, cRw]; and_intros <;> rfl)), by simp [e1], by simp [e2], by simp [e3], by simp [e4], by simp [e5], by simp [e6], by simp [e12], by simp [e13], by simp [e14], by simp, by simp [e16], by simp, by omega⟩⟩
    | false =>
      simp only [Bool.false_eq_true, if_false] at htk
      simp -implicitDefEqProofs [-List.map_take, e2, e3, e4, e5, e6, e14, e15, e16, e17, c, d, w_p, cRad, cRws, cRw, hcl, vmove, isNil, vstore, cellsOf?, Ent.wrO, wr, vappend_sp es77 es77 el78, vbuildSlice_eq es77 el78, fzParts, setAll, rchParts, rch, elemsOf, c1, c2, hpl, hal, htk, v1, v2, v3, g]
      exact ⟨k' - 1, by omega, (hJ _ _).2 ⟨_, p + 1, E2, E3, _, (by first | rfl | (simp [cRad, cRws, cRw]; done) | (simp [cRad, cRws, cRw]; rfl) | (simp [cRad, cRws, cRw]; and_intros <;> rfl)), by simp [e1], by simp [e2], by simp [e3], by simp [e4], by simp [e5], by simp [e6], by simp [e12], by simp [e13], by simp [e14], by simp, by simp [e16], by simp, by omega⟩⟩
  · have g' : max (f0 + fl) (-1099511627776) = f0 + fl := by omega
    rw [g'] at htk
    cases put with
    | true =>
      simp only [if_true] at htk
      simp -implicitDefEqProofs [-List.map_take, e1, e2, e3, e4, e5, e6, e14, e15, e16, e17, c, d, w_p, cRad, cRws, cRw, hcl, vmove, isNil, vstore, cellsOf?, Ent.wrO, wr, vappend_sp es77 es77 el78, vbuildSlice_eq es77 el78, fzParts, setAll, rchParts, rch, elemsOf, c1, c2, hpl, hal, htk, v1, v2, v3, g, hx]
      exact ⟨k' - 1, by omega, (hJ _ _).2 ⟨_, p + 1, E2, E3, _, (by first | rfl | (simp [cRad, cRws, cRw]; done) | (simp [cRad, cRws, cRw]; rfl) | (simp [cRad, cRws, cRw]; and_intros <;> rfl)), by simp [e1], by simp [e2], by simp [e3], by simp [e4], by simp [e5], by simp [e6], by simp [e12], by simp [e13], by simp [e14], by simp, by simp [e16], by simp, by omega⟩⟩
    | false =>
      simp only [Bool.false_eq_true, if_false] at htk
      simp -implicitDefEqProofs [-List.map_take, e2, e3, e4, e5, e6, e14, e15, e16, e17, c, d, w_p, cRad, cRws, cRw, hcl, vmove, isNil, vstore, cellsOf?, Ent.wrO, wr, vappend_sp es77 es77 el78, vbuildSlice_eq es77 el78, fzParts, setAll, rchParts, rch, elemsOf, c1, c2, hpl, hal, htk, v1, v2, v3, g]
      exact ⟨k' - 1, by omega, (hJ _ _).2 ⟨_, p + 1, E2, E3, _, (by first | rfl | (simp [cRad, cRws, cRw]; done) | (simp [cRad, cRws, cRw]; rfl) | (simp [cRad, cRws, cRw]; and_intros <;> rfl)), by simp [e1], by simp [e2], by simp [e3], by simp [e4], by simp [e5], by simp [e6], by simp [e12], by simp [e13], by simp [e14], by simp, by simp [e16], by simp, by omega⟩⟩
end Go.Proofs.YthhbkihhllflfaaF
end

section
/- The document's radar: a packet more, a flow less. -/
set_option maxRecDepth 8192
set_option maxHeartbeats 1000000
namespace Go.Proofs.YthhbkihhllflfaaF
open Go Go.Proofs.Vm

theorem modify_congr {α : Type} {f g : α → α} : ∀ (l : List α) (q : Nat), (∀ x ∈ l, f x = g x) → l.modify q f = l.modify q g
  | [], q, _ => by simp
  | y :: l, 0, h => by simp [h y List.mem_cons_self]
  | y :: l, q + 1, h => by simp [modify_congr l q fun x hx => h x (List.mem_cons_of_mem _ hx)]
theorem updA_congr {f g : RCl → RCl} {s : Int} {key : ByteArray} {rows : List (List RCl)} (h : ∀ x ∈ rows, ∀ c ∈ x, f c = g c) : updA f s key rows = updA g s key rows := by
  apply List.ext_getElem
  · rw [updA_len, updA_len]
  · intro j h1 h2
    rw [updA_at, updA_at]
    exact modify_congr _ _ (h _ (List.getElem_mem _))
theorem turnC_rem {key : ByteArray} {c : RCl} : turnC true key 0 0 (-1) c = remC key c := by
  simp only [turnC, remC, if_true, Int.add_zero]
  rfl
theorem turnC_add {fr : Bool} {key : ByteArray} {n : Int} {c : RCl} (h : wrongB c = false) : turnC fr key 1 n (if fr then 1 else 0) c = addC fr key n c := by
  obtain ⟨h1, h2, h3, h4, h5, h6, h7⟩ := (wrongB_iff _).1 h
  cases fr with
  | true =>
    have : max (c.2.1 + 1) (-1099511627776) = c.2.1 + 1 := by omega
    simp [turnC, addC, this]
  | false =>
    have : max (c.2.1 + 0) (-1099511627776) = c.2.1 := by omega
    simp [turnC, addC] at this ⊢
    exact this
theorem rr_Remove {R : Rad} {key : ByteArray} (hs : Seeds R) (hl : Lens R) (hok : rOk R = true) (hk37 : key.size = 37) : TV.pu 32 [.agg (cRad R), cS key] = some (.agg (cRad (remR R key))) := by
  refine run32 (by simp) ?_
  have ht := rr_turn (R := R) (key := key) (pk := 0) (bb := 0) (fl := -1) (put := true) hs hl hok hk37 (by omega) (by omega) (by omega)
  have hc : updA (turnC true key 0 0 (-1)) R.s key R.rows = updA (remC key) R.s key R.rows := updA_congr fun x hx c hc => turnC_rem
  rw [hc] at ht
  unfold remR
  simp only [cRad, cRws, cRw] at ht
  simp -implicitDefEqProofs [Try.f32, cRad, cRws, cRw, vmove, isNil, ht, vstore, cellsOf?, Ent.wrO, wr]
  try simp [qa]
theorem addRad_ok {R : Rad} {key : ByteArray} {n : Int} (hok : rOk R = true) : rOk (addRad R key n) = true ↔ ∀ j, ∀ h : j < R.rows.length, wrongB (addC (freshB R key) key n (curC R.s key (j : Int) R.rows[j])) = false := by
  obtain ⟨q1, q2, q3, q4, q5⟩ := rOk_facts hok
  constructor
  · intro h j hj
    obtain ⟨p1, p2, p3, p4, p5⟩ := rOk_facts h
    have hj' : j < (updA (addC (freshB R key) key n) R.s key R.rows).length := by rw [updA_len]; exact hj
    have hm := (p5 (updA (addC (freshB R key) key n) R.s key R.rows)[j] (List.getElem_mem hj')).2.2.2
    rw [updA_at] at hm
    have h1 := (q5 _ (List.getElem_mem hj)).1
    have hc := hcell_range (hrow R.s ((j : Int) + 1)) key (R.rows[j].length : Int) (by omega)
    have hq : (hcell (hrow R.s ((j : Int) + 1)) key (R.rows[j].length : Int)).toNat < R.rows[j].length := by omega
    have : addC (freshB R key) key n (curC R.s key (j : Int) R.rows[j]) = (updR (addC (freshB R key) key n) R.s key (j : Int) R.rows[j])[(hcell (hrow R.s ((j : Int) + 1)) key (R.rows[j].length : Int)).toNat]'(by rw [updR_len]; exact hq) := by
      simp only [updR, List.getElem_modify, if_true]
      rw [curC, List.getD_eq_getElem?_getD, List.getElem?_eq_getElem hq]
      rfl
    rw [this]
    exact hm _ (List.getElem_mem _)
  · intro h
    refine updA_ok hok ?_ h
    rw [fOk_iff] at q1 ⊢
    rw [addB_len]
    exact q1
theorem rd_Add' {R : Rad} {key : ByteArray} {n : Int} (hs : Seeds R) (hl : Lens R) (hok : rOk R = true) (hk37 : key.size = 37) (hn : fitB n = true) : TV.pu 25 [.agg (cRad R), cS key, cI .i64 n] = some (if rOk (addRad R key n) = true then .tup [(true, cRad (addRad R key n)), (false, [.v (.int .i64 0)])] else .tup [(true, cRad zRad), (false, [.v (.int .i64 5)])]) := by
  rw [rd_Add hs hl hok hk37 hn]
  congr 1
  by_cases h : rOk (addRad R key n) = true
  · rw [if_pos h, if_pos ((addRad_ok hok).1 h)]
  · rw [if_neg h, if_neg (fun g => h ((addRad_ok hok).2 g))]
theorem addRad_lens {R : Rad} {key : ByteArray} {n : Int} (hl : Lens R) : Lens (addRad R key n) := by
  refine ⟨by simp only [addRad]; rw [updA_len]; exact hl.1, fun x hx => ?_, by simp only [addRad]; rw [addB_len]; exact hl.2.2⟩
  obtain ⟨j, hj, rfl⟩ := List.getElem_of_mem hx
  simp only [addRad] at hj ⊢
  rw [updA_at, updR_len]
  exact hl.2.1 _ (List.getElem_mem _)
theorem rr_Add_arg {R : Rad} {key : ByteArray} {n : Int} (hs : Seeds R) (hl : Lens R) (h : rOk R = false ∨ key.size ≠ 37 ∨ fitB n = false) : TV.pu 27 [.agg (cRad R), cS key, cI .i64 n] = some (.tup [(true, cRad zRad), (false, [.v (.int .i64 1)])]) := by
  refine run27 (by simp) ?_
  have hR := rr_Right hs hl
  simp only [cRad, cRws, cRw] at hR
  cases hok : rOk R with
  | false =>
    rw [hok] at hR
    simp -implicitDefEqProofs [Try.f27, cRad, cRws, cRw, zRad, vmove, isNil, hR, vstore, cellsOf?, Ent.wrO, wr]
    try simp [qa, comps]
  | true =>
  rw [hok] at hR
  by_cases hk : key.size = 37
  rotate_left
  · have hk' : ¬ (key.size : Int) = 37 := by omega
    simp -implicitDefEqProofs [Try.f27, cRad, cRws, cRw, zRad, vmove, isNil, hR, hk', vstore, cellsOf?, Ent.wrO, wr]
    try simp [qa, comps]
  have hk' : (key.size : Int) = 37 := by omega
  have hf : fitB n = false := by rcases h with h | h | h; (rw [hok] at h; cases h); (exact absurd hk h); exact h
  by_cases g : n < 0
  · simp -implicitDefEqProofs [Try.f27, cRad, cRws, cRw, zRad, vmove, isNil, hR, hk', g, vstore, cellsOf?, Ent.wrO, wr]
    try simp [qa, comps]
  have g2 : 1099511627776 < n := by
    unfold fitB at hf
    by_cases g3 : n ≤ 1099511627776
    · simp [g3, show 0 ≤ n by omega] at hf
    · omega
  simp -implicitDefEqProofs [Try.f27, cRad, cRws, cRw, zRad, vmove, isNil, hR, hk', g, g2, vstore, cellsOf?, Ent.wrO, wr]
  try simp [qa, comps]
theorem rr_Add {R : Rad} {key : ByteArray} {n : Int} (hs : Seeds R) (hl : Lens R) (hok : rOk R = true) (hk37 : key.size = 37) (hn : fitB n = true) : TV.pu 27 [.agg (cRad R), cS key, cI .i64 n] = some (if rOk (addRad R key n) = true then .tup [(true, cRad (addRad R key n)), (false, [.v (.int .i64 0)])] else .tup [(true, cRad zRad), (false, [.v (.int .i64 5)])]) := by
  refine run27 (by simp) ?_
  obtain ⟨q1, q2, q3, q4, q5⟩ := rOk_facts hok
  have hR := rr_Right hs hl
  have hR2 := rr_Right (R := addRad R key n) hs (addRad_lens hl)
  simp only [cRad, cRws, cRw] at hR hR2
  rw [hok] at hR
  have hk' : (key.size : Int) = 37 := by omega
  have hn' : 0 ≤ n ∧ n ≤ 1099511627776 := by simpa [fitB] using hn
  have g1 : ¬ n < 0 := by omega
  have g2 : ¬ 1099511627776 < n := by omega
  have hH := ref10_Has (seed := R.fs) (h := R.h) (bits := R.bits) (key := key) hs.2.2.1 hs.2.2.2 (by omega) q1
  have hA := ref10_Add (seed := R.fs) (h := R.h) (bits := R.bits) (key := key) hs.2.2.1 hs.2.2.2 (by omega) q1
  simp only [cF] at hH hA
  have ht := rr_turn (R := R) (key := key) (pk := 1) (bb := n) (fl := if freshB R key then 1 else 0) (put := freshB R key) hs hl hok hk37 (by omega) (by omega) (by split <;> omega)
  have hc : updA (turnC (freshB R key) key 1 n (if freshB R key then 1 else 0)) R.s key R.rows = updA (addC (freshB R key) key n) R.s key R.rows := updA_congr fun x hx c hc => turnC_add ((q5 x hx).2.2.2 c hc)
  rw [hc] at ht
  simp only [cRad, cRws, cRw] at ht
  unfold addRad at hR2 ⊢
  dsimp only at hR2 ⊢
  obtain ⟨X, hX⟩ : ∃ X, updA (addC (freshB R key) key n) R.s key R.rows = X := ⟨_, rfl⟩
  rw [hX] at ht hR2 ⊢
  cases hfr : hasB R.fs R.h R.bits key with
  | true =>
    have hfr' : freshB R key = false := by rw [freshB, hfr]; rfl
    rw [hfr] at hH
    rw [hfr'] at ht
    simp only [Bool.false_eq_true, if_false] at ht
    cases hr : rOk { R with bits := addB R.bits (plc R.fs R.h key R.bits.length), rows := X } with
    | true =>
      rw [hr] at hR2
      simp -implicitDefEqProofs [Try.f27, cRad, cRws, cRw, vmove, isNil, hR, hk', g1, g2, hH, hA, ht, hR2, vstore, cellsOf?, Ent.wrO, wr]
      try simp [qa, comps]
    | false =>
      rw [hr] at hR2
      simp -implicitDefEqProofs [Try.f27, cRad, cRws, cRw, zRad, vmove, isNil, hR, hk', g1, g2, hH, hA, ht, hR2, vstore, cellsOf?, Ent.wrO, wr]
      try simp [qa, comps]
  | false =>
    have hfr' : freshB R key = true := by rw [freshB, hfr]; rfl
    rw [hfr] at hH
    rw [hfr'] at ht
    simp only [if_true] at ht
    cases hr : rOk { R with bits := addB R.bits (plc R.fs R.h key R.bits.length), rows := X } with
    | true =>
      rw [hr] at hR2
      simp -implicitDefEqProofs [Try.f27, cRad, cRws, cRw, vmove, isNil, hR, hk', g1, g2, hH, hA, ht, hR2, vstore, cellsOf?, Ent.wrO, wr]
      try simp [qa, comps]
    | false =>
      rw [hr] at hR2
      simp -implicitDefEqProofs [Try.f27, cRad, cRws, cRw, zRad, vmove, isNil, hR, hk', g1, g2, hH, hA, ht, hR2, vstore, cellsOf?, Ent.wrO, wr]
      try simp [qa, comps]
end Go.Proofs.YthhbkihhllflfaaF
end

section
/- The document's radar: the first pure cell, and all that is peeled. -/
set_option maxRecDepth 8192
set_option maxHeartbeats 1000000
namespace Go.Proofs.YthhbkihhllflfaaF
open Go Go.Proofs.Vm

theorem rr_Pure {R : Rad} {told : List ByteArray} (hs : Seeds R) (hl : Lens R) (hok : rOk R = true) (ht : told.length < 9223372036854775807) : TV.pu 18 [.agg (cRad R), .one (cSs told)] = some (pureA (pureOf R told)) := by
  refine run18 (by simp) ?_
  obtain ⟨q1, q2, q3, q4, q5⟩ := rOk_facts hok
  have hpl := fun (key : ByteArray) (i : Nat) (hi : i < R.rows.length) (hk : key.size ≤ 1000) => rr_Place (R := R) (key := key) (i := i) hs hl hi hk
  have hH := fun key hk => ref10_Has (seed := R.fs) (h := R.h) (bits := R.bits) (key := key) hs.2.2.1 hs.2.2.2 hk q1
  simp only [cF] at hH
  obtain ⟨res, hres⟩ : ∃ res, pureA (pureOf R told) = res := ⟨_, rfl⟩
  rw [hres]
  simp only [cRad, cRws, cRw] at hpl
  simp -implicitDefEqProofs [Try.f18, cRad, cRws, cRw]
  have hfin : (∀ j, j < R.rows.length → pureR R told j = none) → res = pureA none := fun h => by rw [← hres, pureOf, fs_none h]
  have hgot : ∀ i x, i < R.rows.length → (∀ j, j < i → pureR R told j = none) → pureR R told i = some x → res = pureA (some x) := fun i x h1 h2 h3 => by rw [← hres, pureOf, fs_at h1 h2 h3]
  clear hres
  obtain ⟨I, hI⟩ : ∃ I : Nat → St → Prop, ∀ k s', I k s' ↔ (∃ e i L, s' = ⟨e, .opn [(cRad R).map .c] false :: L⟩ ∧ e 1 = .one (.c (cSs told)) ∧ e 2 = .one (.ptr ⟨0, 0, 0, 1⟩) ∧ e 6 = vI .i64 (i : Nat) ∧ (i + k = R.rows.length) ∧ (∀ j, j < i → pureR R told j = none)) := ⟨_, fun _ _ => Iff.rfl⟩
  refine wpL_ind I ?_ R.rows.length _ ((hI _ _).2 ⟨_, 0, [], (by first | rfl | (simp [cRad, cRws, cRw]; done) | (simp [cRad, cRws, cRw]; rfl) | (simp [cRad, cRws, cRw]; and_intros <;> rfl)), by simp, by simp, by simp, by omega, by omega⟩)
  intro k stI hstI
  obtain ⟨e, i, L, rfl, e1, e2, e6, hk, hno⟩ := (hI _ _).1 hstI
  by_cases c : i < R.rows.length
  rotate_left
  · have hi : i = R.rows.length := by omega
    subst hi
    rw [hfin hno]
    simp -implicitDefEqProofs [e2, e6, cRad, cRws, cRw, pureA]
    try rfl
  have hrw := q5 R.rows[i] (List.getElem_mem c)
  have w_i : IntKind.i64.wrap ((i : Int) + 1) = ((i + 1 : Nat) : Int) := by rw [w64_id (by omega) (by omega)]; omega
  have hgi : R.rows.getD i [] = R.rows[i] := by rw [List.getD_eq_getElem?_getD, List.getElem?_eq_getElem c]; rfl
  have hrn : pureR R told i = (List.range R.rows[i].length).findSome? fun p => if okC R told i R.rows[i].length p (R.rows[i].getD p zC) = true then some (R.rows[i].getD p zC).1 else none := by unfold pureR; rw [hgi]
  simp -implicitDefEqProofs [-fzc, e2, e6, c, cRws, cRw, vmove, isNil, cRad]
  obtain ⟨J, hJ⟩ : ∃ J : Nat → St → Prop, ∀ k' s', J k' s' ↔ (∃ e p L, s' = ⟨e, .opn [(cRad R).map .c] false :: L⟩ ∧ e 1 = .one (.c (cSs told)) ∧ e 2 = .one (.ptr ⟨0, 0, 0, 1⟩) ∧ e 6 = vI .i64 (i : Nat) ∧ e 7 = vI .i64 (p : Nat) ∧ (p + k' = R.rows[i].length) ∧ (∀ j, j < p → okC R told i R.rows[i].length j (R.rows[i].getD j zC) = false)) := ⟨_, fun _ _ => Iff.rfl⟩
  refine wpL_ind J ?_ R.rows[i].length _ ((hJ _ _).2 ⟨_, 0, L, (by first | rfl | (simp [e1, e2, e6, cRad, cRws, cRw]; done) | (simp [e1, e2, e6, cRad, cRws, cRw]; rfl) | (simp [e1, e2, e6, cRad, cRws, cRw]; and_intros <;> rfl)), by simp [e1], by simp [e2], by simp [e6], by simp, by omega, by omega⟩)
  clear e1 e2 e6
  intro k' stJ hstJ
  obtain ⟨e, p, L, rfl, e1, e2, e6, e7, hk', hnp⟩ := (hJ _ _).1 hstJ
  by_cases d : p < R.rows[i].length
  rotate_left
  · have hrnone : pureR R told i = none := by rw [hrn]; exact fs_none fun j hj => by rw [if_neg (by rw [hnp j (by omega)]; decide)]
    simp -implicitDefEqProofs [e2, e6, e7, c, d, w_i, cRad, cRws, cRw]
    refine ⟨k - 1, by omega, (hI _ _).2 ⟨_, i + 1, _, (by first | rfl | (simp [cRad, cRws, cRw]; done) | (simp [cRad, cRws, cRw]; rfl) | (simp [cRad, cRws, cRw]; and_intros <;> rfl)), by simp [e1], by simp [e2], by simp, by omega, fun j hj => ?_⟩⟩
    by_cases hji : j = i
    · subst hji; exact hrnone
    · exact hno j (by omega)
  have w_p : IntKind.i64.wrap ((p : Int) + 1) = ((p + 1 : Nat) : Int) := by rw [w64_id (by omega) (by omega)]; omega
  have hgp : R.rows[i].getD p zC = R.rows[i][p] := by rw [List.getD_eq_getElem?_getD, List.getElem?_eq_getElem d]; rfl
  have hw := (wrongB_iff _).1 (hrw.2.2.2 R.rows[i][p] (List.getElem_mem d))
  have hskip : okC R told i R.rows[i].length p R.rows[i][p] = false → ∀ j, j < p + 1 → okC R told i R.rows[i].length j (R.rows[i].getD j zC) = false := fun hg j hj => by
    by_cases hjp : j = p
    · subst hjp
      rw [hgp]; exact hg
    · exact hnp j (by omega)
  have hhit : okC R told i R.rows[i].length p R.rows[i][p] = true → res = pureA (some R.rows[i][p].1) := fun hg => hgot i _ c hno (by
    rw [hrn]
    exact fs_at d (fun j hj => by rw [if_neg (by rw [hnp j hj]; decide)]) (by rw [hgp, if_pos hg]))
  have hp := hpl R.rows[i][p].1 i c (by omega)
  have hh := hH R.rows[i][p].1 (by omega)
  have hcs := rr_In (l := told) (v := R.rows[i][p].1) ht
  obtain ⟨y, hy⟩ : ∃ y, R.rows[i][p] = y := ⟨_, rfl⟩
  rw [hy] at hw hskip hhit hp hh hcs
  obtain ⟨x, fl, pk, bb⟩ := y
  have hcl : cCl R.rows[i][p] = [.v (.string x), .v (.int .i64 fl), .v (.int .i64 pk), .v (.int .i64 bb)] := by rw [hy]; rfl
  dsimp only at hw hhit hp hh hcs
  simp only [cSs] at hcs
  unfold okC at hskip hhit
  dsimp only at hskip hhit
  by_cases g1 : fl = 1
  rotate_left
  · have hsk := hskip (by simp [g1])
    simp -implicitDefEqProofs [-fzc, e2, e6, e7, c, d, w_p, cRws, cRw, vmove, isNil, cRad, hcl, vstore, cellsOf?, Ent.wrO, wr, g1]
    exact ⟨k' - 1, by omega, (hJ _ _).2 ⟨_, p + 1, _, (by first | rfl | (simp [cRad, cRws, cRw]; done) | (simp [cRad, cRws, cRw]; rfl) | (simp [cRad, cRws, cRw]; and_intros <;> rfl)), by simp [e1], by simp [e2], by simp [e6], by simp, by omega, hsk⟩⟩
  cases g4 : told.any (sEq x) with
  | true =>
    rw [g4] at hcs
    have hsk := hskip (by simp [g4])
    simp -implicitDefEqProofs [-fzc, fz_v, fz_arr, e1, e2, e6, e7, c, d, w_p, cRws, cRw, vmove, isNil, cRad, hcl, vstore, cellsOf?, Ent.wrO, wr, g1, hcs, cSs]
    exact ⟨k' - 1, by omega, (hJ _ _).2 ⟨_, p + 1, _, (by first | rfl | (simp [cRad, cRws, cRw, cSs]; done) | (simp [cRad, cRws, cRw, cSs]; rfl) | (simp [cRad, cRws, cRw, cSs]; and_intros <;> rfl)), by simp [e1, cSs], by simp [e2], by simp [e6], by simp, by omega, hsk⟩⟩
  | false =>
  rw [g4] at hcs
  by_cases g2 : rplc R x i R.rows[i].length = (p : Int)
  rotate_left
  · obtain ⟨z, hz⟩ : ∃ z, rplc R x i R.rows[i].length = z := ⟨_, rfl⟩
    rw [hz] at hp g2
    have hsk := hskip (by rw [hz]; simp [g2])
    simp -implicitDefEqProofs [-fzc, fz_v, fz_arr, e1, e2, e6, e7, c, d, w_p, cRws, cRw, vmove, isNil, cRad, hcl, vstore, cellsOf?, Ent.wrO, wr, g1, hcs, cSs, hp, g2]
    exact ⟨k' - 1, by omega, (hJ _ _).2 ⟨_, p + 1, _, (by first | rfl | (simp [cRad, cRws, cRw, cSs]; done) | (simp [cRad, cRws, cRw, cSs]; rfl) | (simp [cRad, cRws, cRw, cSs]; and_intros <;> rfl)), by simp [e1, cSs], by simp [e2], by simp [e6], by simp, by omega, hsk⟩⟩
  rw [g2] at hp
  cases g3 : hasB R.fs R.h R.bits x with
  | true =>
    rw [g3] at hh
    rw [hhit (by simp [g1, g2, g3, g4])]
    simp -implicitDefEqProofs [-fzc, fz_v, fz_arr, e1, e2, e6, e7, c, d, cRws, cRw, vmove, isNil, cRad, hcl, vstore, cellsOf?, Ent.wrO, wr, g1, hcs, cSs, hp, hh, pureA]
  | false =>
    rw [g3] at hh
    have hsk := hskip (by simp [g3])
    simp -implicitDefEqProofs [-fzc, fz_v, fz_arr, e1, e2, e6, e7, c, d, w_p, cRws, cRw, vmove, isNil, cRad, hcl, vstore, cellsOf?, Ent.wrO, wr, g1, hcs, cSs, hp, hh]
    exact ⟨k' - 1, by omega, (hJ _ _).2 ⟨_, p + 1, _, (by first | rfl | (simp [cRad, cRws, cRw, cSs]; done) | (simp [cRad, cRws, cRw, cSs]; rfl) | (simp [cRad, cRws, cRw, cSs]; and_intros <;> rfl)), by simp [e1, cSs], by simp [e2], by simp [e6], by simp, by omega, hsk⟩⟩
end Go.Proofs.YthhbkihhllflfaaF
end

section
/- Strings in order: put among rising ones, sorted. -/
namespace Go.Proofs.YthhbkihhllflfaaF
open Go Go.Proofs.Vm

abbrev bl (a : ByteArray) : List UInt8 := a.data.toList
theorem bl_inj {a b : ByteArray} (h : bl a = bl b) : a = b := by
  cases a; cases b; congr; exact Array.toList_inj.1 h
theorem ltS_iff {a b : ByteArray} : ltS a b = true ↔ bl a < bl b := by
  unfold ltS
  rw [toList_eq, toList_eq, bytesLess_eq]
  simp
theorem bl_trans (a b c : ByteArray) (h : bl a ≤ bl b) (g : bl b ≤ bl c) : bl a ≤ bl c := List.le_trans h g
theorem bl_total (a b : ByteArray) : bl a ≤ bl b ∨ bl b ≤ bl a := List.le_total ..
theorem bl_anti (a b : ByteArray) (h : bl a ≤ bl b) (g : bl b ≤ bl a) : a = b := bl_inj (List.le_antisymm h g)
theorem bl_nlt {a b : ByteArray} : ¬ bl a < bl b ↔ bl b ≤ bl a := List.not_lt
theorem ltS_false {a b : ByteArray} : ltS a b = false ↔ bl b ≤ bl a := by
  rw [← bl_nlt, ← ltS_iff]; simp
def Srt (l : List ByteArray) : Prop := l.Pairwise fun a b => bl a ≤ bl b
theorem ssort_srt (l : List ByteArray) : Srt (ssort l) := by
  have h := List.pairwise_mergeSort (le := fun x y : ByteArray => decide (x.data.toList ≤ y.data.toList)) (fun a b c h1 h2 => decide_eq_true (bl_trans a b c (of_decide_eq_true h1) (of_decide_eq_true h2))) (fun a b => by
    rcases bl_total a b with h | h
    · rw [decide_eq_true h]; rfl
    · rw [decide_eq_true h]; simp) l
  exact h.imp fun h => of_decide_eq_true h
theorem ssort_perm (l : List ByteArray) : (ssort l).Perm l := List.mergeSort_perm ..
theorem srt_eq {l m : List ByteArray} (hl : Srt l) (hm : Srt m) (h : l.Perm m) : l = m := List.Perm.eq_of_pairwise (le := fun a b => bl a ≤ bl b) (fun a b _ _ h g => bl_anti a b h g) hl hm h
theorem insS_perm (k : ByteArray) : ∀ l, (insS k l).Perm (k :: l)
  | [] => .refl _
  | x :: l => by
    unfold insS
    split
    · exact .refl _
    · exact ((insS_perm k l).cons x).trans (.swap ..)
theorem insS_mem {k x : ByteArray} {l : List ByteArray} : x ∈ insS k l ↔ x = k ∨ x ∈ l := by
  rw [(insS_perm k l).mem_iff, List.mem_cons]
theorem insS_len (k : ByteArray) (l : List ByteArray) : (insS k l).length = l.length + 1 := (insS_perm k l).length_eq
theorem insS_srt {k : ByteArray} : ∀ {l : List ByteArray}, Srt l → Srt (insS k l)
  | [], _ => List.pairwise_singleton _ _
  | x :: l, h => by
    unfold insS
    obtain ⟨h1, h2⟩ := List.pairwise_cons.1 h
    cases c : ltS k x with
    | true =>
      rw [if_pos rfl]
      have hkx : bl k ≤ bl x := List.le_of_lt (ltS_iff.1 c)
      refine List.pairwise_cons.2 ⟨fun y hy => ?_, h⟩
      rcases List.mem_cons.1 hy with rfl | hy
      · exact hkx
      · exact bl_trans _ _ _ hkx (h1 y hy)
    | false =>
      rw [if_neg (by decide)]
      refine List.pairwise_cons.2 ⟨fun y hy => ?_, insS_srt h2⟩
      rcases insS_mem.1 hy with rfl | hy
      · exact ltS_false.1 c
      · exact h1 y hy
theorem insS_ssort (k : ByteArray) (l : List ByteArray) : insS k (ssort l) = ssort (l ++ [k]) :=
  srt_eq (insS_srt (ssort_srt l)) (ssort_srt _) (((insS_perm k _).trans ((ssort_perm l).cons k)).trans (List.perm_append_singleton k l |>.symm.trans (ssort_perm _).symm))
theorem ssort_mem {x : ByteArray} {l : List ByteArray} : x ∈ ssort l ↔ x ∈ l := (ssort_perm l).mem_iff
theorem ssort_nil : ssort [] = [] := by unfold ssort; simp
theorem ssort_of_srt {l : List ByteArray} (h : Srt l) : ssort l = l := srt_eq (ssort_srt l) h (ssort_perm l)
end Go.Proofs.YthhbkihhllflfaaF
end

section
/- The document's radar: all that is peeled. -/
set_option maxRecDepth 8192
set_option maxHeartbeats 1000000
namespace Go.Proofs.YthhbkihhllflfaaF
open Go Go.Proofs.Vm

theorem pureOf_mem {R : Rad} {l m : List ByteArray} (h : ∀ x, x ∈ l ↔ x ∈ m) : pureOf R l = pureOf R m := by
  have hany : ∀ x, l.any (sEq x) = m.any (sEq x) := fun x => by
    rw [Bool.eq_iff_iff, List.any_eq_true, List.any_eq_true]
    exact ⟨fun ⟨y, hy, e⟩ => ⟨y, (h y).1 hy, e⟩, fun ⟨y, hy, e⟩ => ⟨y, (h y).2 hy, e⟩⟩
  have : pureR R l = pureR R m := by
    funext i
    unfold pureR okC
    simp only [hany]
  unfold pureOf
  rw [this]
theorem pureOf_ssort {R : Rad} {l : List ByteArray} : pureOf R (ssort l) = pureOf R l := pureOf_mem fun _ => ssort_mem
theorem rr_Peel {R : Rad} (hs : Seeds R) (hl : Lens R) (hok : rOk R = true) : TV.pu 19 [.agg (cRad R)] = some (peelA (peel R)) := by
  refine run19 (by simp) ?_
  obtain ⟨res, hres⟩ : ∃ res, peel R = res := ⟨_, rfl⟩
  rw [hres]
  simp -implicitDefEqProofs [Try.f19, cRad, vmove, isNil]
  obtain ⟨I, hI⟩ : ∃ I : Nat → St → Prop, ∀ k s', I k s' ↔ (∃ e R' out n E1 L, s' = ⟨e, .opn [(cRad R').map .c] false :: E1 :: .opn [[.c (.v (.int .u64 0)), .c (.v (.int .u64 0)), .c (.v (.int .i64 0)), .sl 3 0 0 0, .sl 4 0 0 0]] false :: L⟩ ∧ e 1 = .one (.ptr ⟨0, 0, 0, 1⟩) ∧ e 3 = .one (.ptr ⟨2, 0, 0, 1⟩) ∧ (e 4 = .one (.c (cSs (ssort out))) ∨ e 4 = .one (.sl 5 0 0 0) ∧ out = [] ∧ ∃ E3 E4 b L', L = E3 :: E4 :: .clo [] b :: L') ∧ (Seeds R') ∧ (Lens R') ∧ (rOk R' = true) ∧ (k = posN R') ∧ (posN R' ≤ n) ∧ (peelN n R' out = res) ∧ (out.length + posN R' ≤ 1792)) := ⟨_, fun _ _ => Iff.rfl⟩
  refine wpL_ind I ?_ (posN R) _ ((hI _ _).2 ⟨_, R, [], posN R, _, _, (by first | rfl | (simp [cRad]; done) | (simp [cRad]; rfl) | (simp [cRad]; and_intros <;> rfl)), by simp, by simp, .inr ⟨by simp, rfl, _, _, _, _, rfl⟩, hs, hl, hok, rfl, Nat.le_refl _, hres, by have := posN_le hok; simpa using this⟩)
  clear hs hl hok
  intro k stI hstI
  obtain ⟨e, R', out, n, E1, L, rfl, e1, e3, e4, hs, hl, hok, hk, hn, hpn, hol⟩ := (hI _ _).1 hstI
  subst hk
  have hP := rr_Pure (told := ssort out) hs hl hok (by rw [ssort_len]; omega)
  rw [pureOf_ssort] at hP
  have hso : ssort out = [] → cSs (ssort out) = CV.arr [] := fun h => by rw [h]; rfl
  cases hpo : pureOf R' out with
  | none =>
    rw [hpo] at hP
    have hr := peelN_none hpo n
    rw [hpn] at hr
    subst hr
    rcases e4 with e4 | ⟨e4, rfl, E3, E4, b, L', rfl⟩
    · simp only [cSs, cRad, cRws, cRw, pureA] at hP
      simp -implicitDefEqProofs [e1, e3, e4, cRad, cRws, cRw, cSs, vmove, isNil, hP, vstore, cellsOf?, Ent.wrO, wr]
      simp [qa, comps, peelA, cSs, cRad, cRws, cRw]
    · simp only [cSs, cRad, cRws, cRw, pureA, ssort_nil, List.map_nil] at hP
      simp -implicitDefEqProofs [e1, e3, e4, cRad, cRws, cRw, vmove, isNil, hP, vstore, cellsOf?, Ent.wrO, wr]
      simp [qa, comps, peelA, cSs, cRad, cRws, cRw, ssort_nil]
  | some key =>
    rw [hpo] at hP
    have hk37 := pureOf_size hok hpo
    have hdec := posN_rem hpo
    have hRm := rr_Remove hs hl hok hk37
    have hPut := rr_Put (l := ssort out) (key := key) (by rw [ssort_len]; omega)
    rw [insS_ssort] at hPut
    obtain ⟨m, rfl⟩ : ∃ m, n = m + 1 := ⟨n - 1, by omega⟩
    rw [peelN, hpo] at hpn
    have hr0 : (remR R' key).s = R'.s ∧ (remR R' key).fs = R'.fs ∧ (remR R' key).h = R'.h ∧ (remR R' key).bits = R'.bits := ⟨rfl, rfl, rfl, rfl⟩
    rcases e4 with e4 | ⟨e4, rfl, E3, E4, b, L', rfl⟩
    · simp only [cSs, pureA] at hP hPut
      simp only [cRad, cRws, cRw] at hRm hP
      simp -implicitDefEqProofs [e1, e4, cRad, cRws, cRw, cSs, vmove, isNil, hP, hRm, hPut, rcha, rch, frzAll, vstore, cellsOf?, Ent.wrO, wr]
      exact ⟨posN (remR R' key), by omega, (hI _ _).2 ⟨_, remR R' key, out ++ [key], m, _, _, (by first | rfl | (simp [cRad, cRws, cRw]; done) | (simp [cRad, cRws, cRw]; rfl) | (simp [cRad, cRws, cRw]; and_intros <;> rfl)), by simp [e1], by simp [e3], .inl (by simp [cSs]), hs, remR_lens hl, remR_ok hok, rfl, by omega, hpn, by simp; omega⟩⟩
    · simp only [cSs, ssort_nil, List.map_nil, List.nil_append, pureA] at hP hPut
      simp only [cRad, cRws, cRw] at hRm hP
      simp -implicitDefEqProofs [e1, e4, cRad, cRws, cRw, vmove, isNil, hP, hRm, hPut, rcha, rch, frzAll, Ent.frz, vstore, cellsOf?, Ent.wrO, wr]
      exact ⟨posN (remR R' key), by omega, (hI _ _).2 ⟨_, remR R' key, [key], m, _, _, (by first | rfl | (simp [cRad, cRws, cRw]; done) | (simp [cRad, cRws, cRw]; rfl) | (simp [cRad, cRws, cRw]; and_intros <;> rfl)), by simp [e1], by simp [e3], .inl (by simp [cSs]), hs, remR_lens hl, remR_ok hok, rfl, by omega, hpn, by simp; omega⟩⟩
end Go.Proofs.YthhbkihhllflfaaF
end

section
/- Structs of a string and some numbers, compared. -/
namespace Go.Proofs.Vm
open Go

set_option maxHeartbeats 4000000
variable {P : Program} {H : Hp}

/-- Of one string and three numbers. -/
theorem eq_st4 {t : TypeId} {f0 f1 f2 f3 : Field} {k : IntKind} (hu : pv P (underlying t) = some (.struct #[f0, f1, f2, f3])) (hs : P.stoodInHeld t = false) (n0 : (f0.name == "_") = false) (n1 : (f1.name == "_") = false) (n2 : (f2.name == "_") = false) (n3 : (f3.name == "_") = false) (o0 : f0.offset = 0) (o1 : f1.offset = 1) (o2 : f2.offset = 2) (o3 : f3.offset = 3)
    (a0 : pv P (isAgg f0.type) = some false) (a1 : pv P (isAgg f1.type) = some false) (a2 : pv P (isAgg f2.type) = some false) (a3 : pv P (isAgg f3.type) = some false) (u0 : pv P (underlying f0.type) = some .string) (u1 : pv P (underlying f1.type) = some (.int k)) (u2 : pv P (underlying f2.type) = some (.int k)) (u3 : pv P (underlying f3.type) = some (.int k)) (a b : ByteArray) (x y x2 y2 x3 y3 : Int) (d : Nat) :
    pv P (Op.equalIn (d + 2) t (.agg #[.string a, .int k x, .int k x2, .int k x3]) (.agg #[.string b, .int k y, .int k y2, .int k y3])) = some (a == b && x == y && x2 == y2 && x3 == y3) := by
  have m0 : ¬ f0.name = "_" := fun h => by rw [h] at n0; simp at n0
  have m1 : ¬ f1.name = "_" := fun h => by rw [h] at n1; simp at n1
  have m2 : ¬ f2.name = "_" := fun h => by rw [h] at n2; simp at n2
  have m3 : ¬ f3.name = "_" := fun h => by rw [h] at n3; simp at n3
  unfold Op.equalIn
  cases h0 : a == b <;> cases h1 : x == y <;> cases h2 : x2 == y2 <;> cases h3 : x3 == y3 <;> simp [hu, hs, m0, m1, m2, m3, o0, o1, o2, o3, part, a0, a1, a2, a3, eq_strD u0, eq_intD u1, eq_intD u2, eq_intD u3, h0, h1, h2, h3]
theorem bin_st4 {t : TypeId} {f0 f1 f2 f3 : Field} {k : IntKind} (hu : pv P (underlying t) = some (.struct #[f0, f1, f2, f3])) (hs : P.stoodInHeld t = false) (hg : P.eqGuardType P.depth t = false) (n0 : (f0.name == "_") = false) (n1 : (f1.name == "_") = false) (n2 : (f2.name == "_") = false) (n3 : (f3.name == "_") = false) (o0 : f0.offset = 0) (o1 : f1.offset = 1) (o2 : f2.offset = 2) (o3 : f3.offset = 3)
    (a0 : pv P (isAgg f0.type) = some false) (a1 : pv P (isAgg f1.type) = some false) (a2 : pv P (isAgg f2.type) = some false) (a3 : pv P (isAgg f3.type) = some false) (u0 : pv P (underlying f0.type) = some .string) (u1 : pv P (underlying f1.type) = some (.int k)) (u2 : pv P (underlying f2.type) = some (.int k)) (u3 : pv P (underlying f3.type) = some (.int k)) {a b : ByteArray} {x y x2 y2 x3 y3 : Int} {p q : Operand} :
    vbin P H .eql t p q (.agg [.c (.v (.string a)), .c (.v (.int k x)), .c (.v (.int k x2)), .c (.v (.int k x3))]) (.agg [.c (.v (.string b)), .c (.v (.int k y)), .c (.v (.int k y2)), .c (.v (.int k y3))]) = qa (vB (a == b && x == y && x2 == y2 && x3 == y3)) ∧
    vbin P H .neq t p q (.agg [.c (.v (.string a)), .c (.v (.int k x)), .c (.v (.int k x2)), .c (.v (.int k x3))]) (.agg [.c (.v (.string b)), .c (.v (.int k y)), .c (.v (.int k y2)), .c (.v (.int k y3))]) = qa (vB (!(a == b && x == y && x2 == y2 && x3 == y3))) := by
  have h := eq_st4 hu hs n0 n1 n2 n3 o0 o1 o2 o3 a0 a1 a2 a3 u0 u1 u2 u3 a b x y x2 y2 x3 y3 9998
  constructor <;> simp [vbin, vbin0, neSl, isNils, isPtr, isNilp, fresh, AV.sc, scs, Cell.sc, eqGuard, hg, binOp, ofPv, one?, Value.oneCell', Op.equal, Op.maxDepth, h]
/-- Of one string and two numbers. -/
theorem eq_st3 {t : TypeId} {f0 f1 f2 : Field} {k : IntKind} (hu : pv P (underlying t) = some (.struct #[f0, f1, f2])) (hs : P.stoodInHeld t = false) (n0 : (f0.name == "_") = false) (n1 : (f1.name == "_") = false) (n2 : (f2.name == "_") = false) (o0 : f0.offset = 0) (o1 : f1.offset = 1) (o2 : f2.offset = 2)
    (a0 : pv P (isAgg f0.type) = some false) (a1 : pv P (isAgg f1.type) = some false) (a2 : pv P (isAgg f2.type) = some false) (u0 : pv P (underlying f0.type) = some .string) (u1 : pv P (underlying f1.type) = some (.int k)) (u2 : pv P (underlying f2.type) = some (.int k)) (a b : ByteArray) (x y x2 y2 : Int) (d : Nat) :
    pv P (Op.equalIn (d + 2) t (.agg #[.string a, .int k x, .int k x2]) (.agg #[.string b, .int k y, .int k y2])) = some (a == b && x == y && x2 == y2) := by
  have m0 : ¬ f0.name = "_" := fun h => by rw [h] at n0; simp at n0
  have m1 : ¬ f1.name = "_" := fun h => by rw [h] at n1; simp at n1
  have m2 : ¬ f2.name = "_" := fun h => by rw [h] at n2; simp at n2
  unfold Op.equalIn
  cases h0 : a == b <;> cases h1 : x == y <;> cases h2 : x2 == y2 <;> simp [hu, hs, m0, m1, m2, o0, o1, o2, part, a0, a1, a2, eq_strD u0, eq_intD u1, eq_intD u2, h0, h1, h2]
theorem bin_st3 {t : TypeId} {f0 f1 f2 : Field} {k : IntKind} (hu : pv P (underlying t) = some (.struct #[f0, f1, f2])) (hs : P.stoodInHeld t = false) (hg : P.eqGuardType P.depth t = false) (n0 : (f0.name == "_") = false) (n1 : (f1.name == "_") = false) (n2 : (f2.name == "_") = false) (o0 : f0.offset = 0) (o1 : f1.offset = 1) (o2 : f2.offset = 2)
    (a0 : pv P (isAgg f0.type) = some false) (a1 : pv P (isAgg f1.type) = some false) (a2 : pv P (isAgg f2.type) = some false) (u0 : pv P (underlying f0.type) = some .string) (u1 : pv P (underlying f1.type) = some (.int k)) (u2 : pv P (underlying f2.type) = some (.int k)) {a b : ByteArray} {x y x2 y2 : Int} {p q : Operand} :
    vbin P H .eql t p q (.agg [.c (.v (.string a)), .c (.v (.int k x)), .c (.v (.int k x2))]) (.agg [.c (.v (.string b)), .c (.v (.int k y)), .c (.v (.int k y2))]) = qa (vB (a == b && x == y && x2 == y2)) ∧
    vbin P H .neq t p q (.agg [.c (.v (.string a)), .c (.v (.int k x)), .c (.v (.int k x2))]) (.agg [.c (.v (.string b)), .c (.v (.int k y)), .c (.v (.int k y2))]) = qa (vB (!(a == b && x == y && x2 == y2))) := by
  have h := eq_st3 hu hs n0 n1 n2 o0 o1 o2 a0 a1 a2 u0 u1 u2 a b x y x2 y2 9998
  constructor <;> simp [vbin, vbin0, neSl, isNils, isPtr, isNilp, fresh, AV.sc, scs, Cell.sc, eqGuard, hg, binOp, ofPv, one?, Value.oneCell', Op.equal, Op.maxDepth, h]
end Go.Proofs.Vm
end

section
/- The document's radar: is it empty, the same, short enough? -/
set_option maxRecDepth 8192
set_option maxHeartbeats 1000000
namespace Go.Proofs.YthhbkihhllflfaaF
open Go Go.Proofs.Vm

def smallB (R : Rad) : Bool := decide (R.bits.length ≤ 300) && decide (R.rows.length ≤ 20) && decide (R.h ≤ 100) && R.rows.all fun r => decide (r.length ≤ 40) && r.all fun c => decide (c.1.size ≤ 100)
theorem rr_Small {R : Rad} (hl : Lens R) : TV.pu 11 [.agg (cRad R)] = some (cB (smallB R)) := by
  refine run11 (by simp) ?_
  obtain ⟨s, fs, h, bits, rows⟩ := R
  obtain ⟨l1, l2, l3⟩ := hl
  dsimp only at l1 l2 l3
  obtain ⟨res, hres⟩ : ∃ res, smallB ⟨s, fs, h, bits, rows⟩ = res := ⟨_, rfl⟩
  rw [hres]
  unfold smallB at hres
  dsimp only at hres
  by_cases c1 : bits.length ≤ 300
  rotate_left
  · have : res = false := by rw [← hres]; simp [c1]
    have c1' : 300 < (bits.length : Int) := by omega
    simp -implicitDefEqProofs [Try.f11, cRad, cRws, c1', this]
  have c1' : ¬ 300 < (bits.length : Int) := by omega
  by_cases c2 : rows.length ≤ 20
  rotate_left
  · have : res = false := by rw [← hres]; simp [c2]
    have c2' : 20 < (rows.length : Int) := by omega
    simp -implicitDefEqProofs [Try.f11, cRad, cRws, c1', c2', this]
  have c2' : ¬ 20 < (rows.length : Int) := by omega
  by_cases c3 : h ≤ 100
  rotate_left
  · have : res = false := by rw [← hres]; simp [c3]
    have c3' : 100 < h := by omega
    simp -implicitDefEqProofs [Try.f11, cRad, cRws, c1', c2', c3', this]
  have c3' : ¬ 100 < h := by omega
  rw [decide_eq_true c1, decide_eq_true c2, decide_eq_true c3, Bool.true_and, Bool.true_and, Bool.true_and] at hres
  have hbad : ∀ i (hi : i < rows.length), (decide (rows[i].length ≤ 40) && rows[i].all fun c => decide (c.1.size ≤ 100)) = false → res = false := fun i hi hw => by
    rw [← hres, List.all_eq_false]
    exact ⟨_, List.getElem_mem hi, by rw [hw]; decide⟩
  simp -implicitDefEqProofs [Try.f11, cRad, cRws, cRw, c1', c2', c3']
  obtain ⟨I, hI⟩ : ∃ I : Nat → St → Prop, ∀ k s', I k s' ↔ (∃ e i L, s' = ⟨e, .opn [(cRad ⟨s, fs, h, bits, rows⟩).map .c] false :: L⟩ ∧ e 1 = .one (.ptr ⟨0, 0, 0, 1⟩) ∧ e 3 = vI .i64 (i : Nat) ∧ (i + k = rows.length) ∧ (∀ j (h : j < rows.length), j < i → (decide (rows[j].length ≤ 40) && rows[j].all fun c => decide (c.1.size ≤ 100)) = true)) := ⟨_, fun _ _ => Iff.rfl⟩
  refine wpL_ind I ?_ rows.length _ ((hI _ _).2 ⟨_, 0, _, (by first | rfl | (simp [cRad, cRws, cRw]; done) | (simp [cRad, cRws, cRw]; rfl) | (simp [cRad, cRws, cRw]; and_intros <;> rfl)), by simp, by simp, by simp, by omega⟩)
  intro k stI hstI
  obtain ⟨e, i, L, rfl, e1, e3, hk, hno⟩ := (hI _ _).1 hstI
  by_cases c : i < rows.length
  rotate_left
  · have : res = true := by
      rw [← hres, List.all_eq_true]
      intro x hx
      obtain ⟨q, hq, rfl⟩ := List.getElem_of_mem hx
      exact hno q hq (by omega)
    simp -implicitDefEqProofs [e1, e3, cRad, cRws, cRw, c, this]
  have w_i : IntKind.i64.wrap ((i : Int) + 1) = ((i + 1 : Nat) : Int) := by rw [w64_id (by omega) (by omega)]; omega
  have hlr := l2 _ (List.getElem_mem c)
  have hbi := hbad i c
  by_cases d1 : rows[i].length ≤ 40
  rotate_left
  · rw [hbi (by simp [d1])]
    have d1' : 40 < (rows[i].length : Int) := by omega
    simp -implicitDefEqProofs [e1, e3, cRad, cRws, cRw, c, d1', vmove, isNil]
  have d1' : ¬ 40 < (rows[i].length : Int) := by omega
  rw [decide_eq_true d1, Bool.true_and] at hbi
  simp -implicitDefEqProofs [e1, e3, cRad, cRws, cRw, c, d1', vmove, isNil]
  obtain ⟨J, hJ⟩ : ∃ J : Nat → St → Prop, ∀ k' s', J k' s' ↔ (∃ e p L, s' = ⟨e, .opn [(cRad ⟨s, fs, h, bits, rows⟩).map .c] false :: L⟩ ∧ e 1 = .one (.ptr ⟨0, 0, 0, 1⟩) ∧ e 3 = vI .i64 (i : Nat) ∧ e 41 = .one (.c (cRw rows[i])) ∧ e 42 = vI .i64 rows[i].length ∧ e 43 = vI .i64 (p : Nat) ∧ (p + k' = rows[i].length) ∧ (∀ q (h : q < rows[i].length), q < p → rows[i][q].1.size ≤ 100)) := ⟨_, fun _ _ => Iff.rfl⟩
  refine wpL_ind J ?_ rows[i].length _ ((hJ _ _).2 ⟨_, 0, _, (by first | rfl | (simp [e1, e3, cRad, cRws, cRw]; done) | (simp [e1, e3, cRad, cRws, cRw]; rfl) | (simp [e1, e3, cRad, cRws, cRw]; and_intros <;> rfl)), by simp [e1], by simp [e3], by simp [cRw], by simp, by simp, by omega, by omega⟩)
  clear e1 e3
  intro k' stJ hstJ
  obtain ⟨e, p, L, rfl, e1, e3, e41, e42, e43, hk', hnp⟩ := (hJ _ _).1 hstJ
  by_cases d : p < rows[i].length
  rotate_left
  · simp -implicitDefEqProofs [e3, e42, e43, d, w_i, cRad, cRws, cRw]
    refine ⟨k - 1, by omega, (hI _ _).2 ⟨_, i + 1, _, (by first | rfl | (simp [cRad, cRws, cRw]; done) | (simp [cRad, cRws, cRw]; rfl) | (simp [cRad, cRws, cRw]; and_intros <;> rfl)), by simp [e1], by simp, by omega, fun q hq hq2 => ?_⟩⟩
    by_cases hqi : q = i
    · subst hqi
      rw [decide_eq_true d1, Bool.true_and, List.all_eq_true]
      intro x hx
      obtain ⟨z, hz, rfl⟩ := List.getElem_of_mem hx
      exact decide_eq_true (hnp z hz (by omega))
    · exact hno q hq (by omega)
  have w_p : IntKind.i64.wrap ((p : Int) + 1) = ((p + 1 : Nat) : Int) := by rw [w64_id (by omega) (by omega)]; omega
  obtain ⟨y, hy⟩ : ∃ y, rows[i][p] = y := ⟨_, rfl⟩
  obtain ⟨x, fl, pk, bb⟩ := y
  have hcl : cCl rows[i][p] = [.v (.string x), .v (.int .i64 fl), .v (.int .i64 pk), .v (.int .i64 bb)] := by rw [hy]; rfl
  by_cases g : x.size ≤ 100
  · have g' : ¬ 100 < (x.size : Int) := by omega
    simp -implicitDefEqProofs [e41, e42, e43, d, w_p, cRad, cRws, cRw, hcl, g', vmove, isNil, vstore, cellsOf?, Ent.wrO, wr]
    refine ⟨k' - 1, by omega, (hJ _ _).2 ⟨_, p + 1, _, (by first | rfl | (simp [cRad, cRws, cRw]; done) | (simp [cRad, cRws, cRw]; rfl) | (simp [cRad, cRws, cRw]; and_intros <;> rfl)), by simp [e1], by simp [e3], by simp [e41, cRw], by simp [e42], by simp, by omega, fun q hq hq2 => ?_⟩⟩
    by_cases hqp : q = p
    · subst hqp; rw [hy]; exact g
    · exact hnp q hq (by omega)
  · have g' : 100 < (x.size : Int) := by omega
    rw [hbi (by rw [List.all_eq_false]; exact ⟨_, List.getElem_mem d, by rw [hy]; simpa using g⟩)]
    simp -implicitDefEqProofs [e41, e42, e43, d, cRad, cRws, cRw, hcl, g', vmove, isNil, vstore, cellsOf?, Ent.wrO, wr]

theorem rr_Empty {R : Rad} (hl : Lens R) : TV.pu 30 [.agg (cRad R)] = some (cB (!R.rows.any (·.any fullC))) := by
  refine run30 (by simp) ?_
  obtain ⟨s, fs, h, bits, rows⟩ := R
  obtain ⟨l1, l2, l3⟩ := hl
  dsimp only at l1 l2 l3 ⊢
  obtain ⟨res, hres⟩ : ∃ res, (!rows.any (·.any fullC)) = res := ⟨_, rfl⟩
  rw [hres]
  have hbad : ∀ i (hi : i < rows.length) p (hp : p < rows[i].length), fullC rows[i][p] = true → res = false := fun i hi p hp hw => by
    have h1 : rows[i].any fullC = true := List.any_eq_true.2 ⟨_, List.getElem_mem hp, hw⟩
    have h2 : rows.any (·.any fullC) = true := List.any_eq_true.2 ⟨_, List.getElem_mem hi, h1⟩
    rw [← hres, h2]; rfl
  simp -implicitDefEqProofs [Try.f30, cRad, cRws, cRw]
  obtain ⟨I, hI⟩ : ∃ I : Nat → St → Prop, ∀ k s', I k s' ↔ (∃ e i L, s' = ⟨e, .opn [(cRad ⟨s, fs, h, bits, rows⟩).map .c] false :: L⟩ ∧ e 1 = .one (.ptr ⟨0, 0, 0, 1⟩) ∧ e 3 = vI .i64 (i : Nat) ∧ (i + k = rows.length) ∧ (∀ j (h : j < rows.length), j < i → rows[j].any fullC = false)) := ⟨_, fun _ _ => Iff.rfl⟩
  refine wpL_ind I ?_ rows.length _ ((hI _ _).2 ⟨_, 0, _, (by first | rfl | (simp [cRad, cRws, cRw]; done) | (simp [cRad, cRws, cRw]; rfl) | (simp [cRad, cRws, cRw]; and_intros <;> rfl)), by simp, by simp, by simp, by omega⟩)
  intro k stI hstI
  obtain ⟨e, i, L, rfl, e1, e3, hk, hno⟩ := (hI _ _).1 hstI
  by_cases c : i < rows.length
  rotate_left
  · have : res = true := by
      have : rows.any (·.any fullC) = false := List.any_eq_false.2 fun x hx => by
        obtain ⟨q, hq, rfl⟩ := List.getElem_of_mem hx
        rw [hno q hq (by omega)]; decide
      rw [← hres, this]; rfl
    simp -implicitDefEqProofs [e1, e3, cRad, cRws, cRw, c, this]
  have w_i : IntKind.i64.wrap ((i : Int) + 1) = ((i + 1 : Nat) : Int) := by rw [w64_id (by omega) (by omega)]; omega
  have hlr := l2 _ (List.getElem_mem c)
  simp -implicitDefEqProofs [e1, e3, cRad, cRws, cRw, c, vmove, isNil]
  obtain ⟨J, hJ⟩ : ∃ J : Nat → St → Prop, ∀ k' s', J k' s' ↔ (∃ e p L, s' = ⟨e, .opn [(cRad ⟨s, fs, h, bits, rows⟩).map .c] false :: L⟩ ∧ e 1 = .one (.ptr ⟨0, 0, 0, 1⟩) ∧ e 3 = vI .i64 (i : Nat) ∧ e 4 = vI .i64 (p : Nat) ∧ (p + k' = rows[i].length) ∧ (∀ q (h : q < rows[i].length), q < p → fullC rows[i][q] = false)) := ⟨_, fun _ _ => Iff.rfl⟩
  refine wpL_ind J ?_ rows[i].length _ ((hJ _ _).2 ⟨_, 0, _, (by first | rfl | (simp [e1, e3, cRad, cRws, cRw]; done) | (simp [e1, e3, cRad, cRws, cRw]; rfl) | (simp [e1, e3, cRad, cRws, cRw]; and_intros <;> rfl)), by simp [e1], by simp [e3], by simp, by omega, by omega⟩)
  clear e1 e3
  intro k' stJ hstJ
  obtain ⟨e, p, L, rfl, e1, e3, e4, hk', hnp⟩ := (hJ _ _).1 hstJ
  by_cases d : p < rows[i].length
  rotate_left
  · simp -implicitDefEqProofs [e1, e3, e4, c, d, w_i, cRad, cRws, cRw]
    refine ⟨k - 1, by omega, (hI _ _).2 ⟨_, i + 1, _, (by first | rfl | (simp [cRad, cRws, cRw]; done) | (simp [cRad, cRws, cRw]; rfl) | (simp [cRad, cRws, cRw]; and_intros <;> rfl)), by simp [e1], by simp, by omega, fun q hq hq2 => ?_⟩⟩
    by_cases hqi : q = i
    · subst hqi
      exact List.any_eq_false.2 fun x hx => by
        obtain ⟨z, hz, rfl⟩ := List.getElem_of_mem hx
        rw [hnp z hz (by omega)]; decide
    · exact hno q hq (by omega)
  have w_p : IntKind.i64.wrap ((p : Int) + 1) = ((p + 1 : Nat) : Int) := by rw [w64_id (by omega) (by omega)]; omega
  have hbp := hbad i c p d
  have hnx : fullC rows[i][p] = false → ∀ q (h : q < rows[i].length), q < p + 1 → fullC rows[i][q] = false := fun hg q hq hq2 => by
    by_cases hqp : q = p
    · subst hqp; exact hg
    · exact hnp q hq (by omega)
  obtain ⟨y, hy⟩ : ∃ y, rows[i][p] = y := ⟨_, rfl⟩
  rw [hy] at hbp hnx
  obtain ⟨x, fl, pk, bb⟩ := y
  have hcl : cCl rows[i][p] = [.v (.string x), .v (.int .i64 fl), .v (.int .i64 pk), .v (.int .i64 bb)] := by rw [hy]; rfl
  unfold fullC at hbp hnx
  dsimp only at hbp hnx
  by_cases g : fl = 0
  rotate_left
  · rw [hbp (by simp [g])]
    simp -implicitDefEqProofs [e1, e3, e4, c, d, cRad, cRws, cRw, hcl, g, vmove, isNil, vstore, cellsOf?, Ent.wrO, wr]
  subst g
  have hbz : bytesRow' (List.replicate 37 [CV.v (.int .u8 0)]) = some (List.replicate 37 0) := rfl
  have hz0 : strOf (List.replicate 37 0) = nought := rfl
  simp -implicitDefEqProofs [-List.reduceReplicate, elemsOf, e1, e3, e4, c, d, w_p, cRad, cRws, cRw, hcl, vmove, isNil, vstore, cellsOf?, Ent.wrO, wr, vmakeSlice_eq es102 el5, small, vconvW, hbz, hz0, toList_inj]
  by_cases hx : x = nought
  · rw [if_pos hx]
    exact ⟨k' - 1, by omega, (hJ _ _).2 ⟨_, p + 1, _, (by first | rfl | (simp [cRad, cRws, cRw]; done) | (simp [cRad, cRws, cRw]; rfl) | (simp [cRad, cRws, cRw]; and_intros <;> rfl)), by simp [e1], by simp [e3], by simp, by omega, hnx (by rw [hx, sEq_iff.2 rfl]; rfl)⟩⟩
  · rw [if_neg hx]
    have hxn : sEq x nought = false := by
      cases h : sEq x nought with
      | false => rfl
      | true => exact absurd (sEq_iff.1 h) hx
    rw [hbp (by rw [hxn]; rfl)]

def eqRad (A B : Rad) : Bool := decide (A.s = B.s ∧ A.fs = B.fs ∧ A.h = B.h ∧ A.bits = B.bits ∧ A.rows = B.rows)
theorem eqRad_iff {A B : Rad} : eqRad A B = true ↔ A = B := by
  unfold eqRad
  rw [decide_eq_true_iff]
  constructor
  · rintro ⟨h1, h2, h3, h4, h5⟩
    cases A; cases B; simp_all
  · rintro rfl; simp
theorem rc_neq {H : Hp} {a b : ByteArray} {x y x2 y2 x3 y3 : Int} {p q : Operand} : vbin Try.prog H .neq 78 p q (.agg [.c (.v (.string a)), .c (.v (.int .i64 x)), .c (.v (.int .i64 x2)), .c (.v (.int .i64 x3))]) (.agg [.c (.v (.string b)), .c (.v (.int .i64 y)), .c (.v (.int .i64 y2)), .c (.v (.int .i64 y3))]) = qa (vB (!(a == b && x == y && x2 == y2 && x3 == y3))) :=
  (bin_st4 (P := Try.prog) (t := 78) (pv_of Try.underlying78) (by kernel_rfl) (by kernel_rfl) (by kernel_rfl) (by kernel_rfl) (by kernel_rfl) (by kernel_rfl) (by kernel_rfl) (by kernel_rfl) (by kernel_rfl) (by kernel_rfl) (by kernel_rfl) (by kernel_rfl) (by kernel_rfl) (by kernel_rfl) us9 (by kernel_rfl) (by kernel_rfl) (by kernel_rfl)).2
theorem rr_Equal {A B : Rad} (ha : Lens A) : TV.pu 17 [.agg (cRad A), .agg (cRad B)] = some (cB (eqRad A B)) := by
  refine run17 (by simp) ?_
  obtain ⟨res, hres⟩ : ∃ res, eqRad A B = res := ⟨_, rfl⟩
  rw [hres]
  have hT : A = B → res = true := fun h => by rw [← hres]; exact eqRad_iff.2 h
  have hF : A ≠ B → res = false := fun h => by
    cases h2 : res with
    | false => rfl
    | true => rw [h2] at hres; exact absurd (eqRad_iff.1 hres) h
  clear hres
  obtain ⟨s, fs, h, bits, rows⟩ := A
  obtain ⟨s', fs', h', bits', rows'⟩ := B
  obtain ⟨l1, l2, l3⟩ := ha
  dsimp only at l1 l2 l3
  have hf := ref10_Equal (s := fs) (h := h) (b := bits) (s' := fs') (h' := h') (b' := bits') l3
  simp only [cF] at hf
  by_cases c1 : s = s'
  rotate_left
  · have := hF (by rintro ⟨⟩; exact c1 rfl)
    simp -implicitDefEqProofs [Try.f17, cRad, cRws, cRw, c1, this]
  subst c1
  cases c2 : eqF fs h bits fs' h' bits' with
  | false =>
    rw [c2] at hf
    have := hF (by rintro ⟨⟩; simp [eqF] at c2)
    simp -implicitDefEqProofs [Try.f17, cRad, cRws, cRw, hf, this]
  | true =>
  rw [c2] at hf
  obtain ⟨rfl, rfl, rfl⟩ := of_decide_eq_true c2
  by_cases c3 : rows.length = rows'.length
  rotate_left
  · have := hF (by rintro ⟨⟩; exact c3 rfl)
    have c3' : ¬ (rows.length : Int) = rows'.length := by omega
    simp -implicitDefEqProofs [Try.f17, cRad, cRws, cRw, hf, c3', this]
  have c3' : ((rows.length : Int) != (rows'.length : Int)) = false := by simp [c3]
  simp -implicitDefEqProofs [Try.f17, cRad, cRws, cRw, hf, c3']
  obtain ⟨I, hI⟩ : ∃ I : Nat → St → Prop, ∀ k s', I k s' ↔ (∃ e i L, s' = ⟨e, .opn [(cRad ⟨s, fs, h, bits, rows⟩).map .c] false :: .opn [(cRad ⟨s, fs, h, bits, rows'⟩).map .c] false :: L⟩ ∧ e 2 = .one (.ptr ⟨0, 0, 0, 1⟩) ∧ e 3 = .one (.ptr ⟨1, 0, 0, 1⟩) ∧ e 5 = vI .i64 (i : Nat) ∧ (i + k = rows.length) ∧ (∀ j (h : j < rows.length) (h' : j < rows'.length), j < i → rows[j] = rows'[j])) := ⟨_, fun _ _ => Iff.rfl⟩
  refine wpL_ind I ?_ rows.length _ ((hI _ _).2 ⟨_, 0, _, (by first | rfl | (simp [cRad, cRws, cRw]; done) | (simp [cRad, cRws, cRw]; rfl) | (simp [cRad, cRws, cRw]; and_intros <;> rfl)), by simp, by simp, by simp, by simp, by omega⟩)
  intro k stI hstI
  obtain ⟨e, i, L, rfl, e2, e3, e5, hk, hno⟩ := (hI _ _).1 hstI
  by_cases c : i < rows.length
  rotate_left
  · have hrr : rows = rows' := List.ext_getElem c3 fun j q1 q2 => hno j q1 q2 (by omega)
    have := hT (by rw [hrr])
    simp -implicitDefEqProofs [e2, e5, cRad, cRws, cRw, c, this]
  have w_i : IntKind.i64.wrap ((i : Int) + 1) = ((i + 1 : Nat) : Int) := by rw [w64_id (by omega) (by omega)]; omega
  have co : i < rows'.length := by omega
  by_cases d1 : rows[i].length = rows'[i].length
  rotate_left
  · have := hF (by rintro ⟨⟩; exact d1 rfl)
    have d1' : ¬ (rows[i].length : Int) = rows'[i].length := by omega
    simp -implicitDefEqProofs [e2, e3, e5, cRad, cRws, cRw, c, co, d1', vmove, isNil, this]
  have d1' : ((rows[i].length : Int) != (rows'[i].length : Int)) = false := by simp [d1]
  have hlr := l2 _ (List.getElem_mem c)
  simp -implicitDefEqProofs [e2, e3, e5, cRad, cRws, cRw, c, co, d1', vmove, isNil]
  obtain ⟨J, hJ⟩ : ∃ J : Nat → St → Prop, ∀ k' s', J k' s' ↔ (∃ e p L, s' = ⟨e, .opn [(cRad ⟨s, fs, h, bits, rows⟩).map .c] false :: .opn [(cRad ⟨s, fs, h, bits, rows'⟩).map .c] false :: L⟩ ∧ e 2 = .one (.ptr ⟨0, 0, 0, 1⟩) ∧ e 3 = .one (.ptr ⟨1, 0, 0, 1⟩) ∧ e 5 = vI .i64 (i : Nat) ∧ e 6 = vI .i64 (p : Nat) ∧ (p + k' = rows[i].length) ∧ (∀ q (h : q < rows[i].length) (h' : q < rows'[i].length), q < p → rows[i][q] = rows'[i][q])) := ⟨_, fun _ _ => Iff.rfl⟩
  refine wpL_ind J ?_ rows[i].length _ ((hJ _ _).2 ⟨_, 0, _, (by first | rfl | (simp [e2, e3, e5, cRad, cRws, cRw]; done) | (simp [e2, e3, e5, cRad, cRws, cRw]; rfl) | (simp [e2, e3, e5, cRad, cRws, cRw]; and_intros <;> rfl)), by simp [e2], by simp [e3], by simp [e5], by simp, by omega, by omega⟩)
  clear e2 e3 e5
  intro k' stJ hstJ
  obtain ⟨e, p, L, rfl, e2, e3, e5, e6, hk', hnp⟩ := (hJ _ _).1 hstJ
  by_cases d : p < rows[i].length
  rotate_left
  · simp -implicitDefEqProofs [e2, e5, e6, c, d, w_i, cRad, cRws, cRw]
    refine ⟨k - 1, by omega, (hI _ _).2 ⟨_, i + 1, _, (by first | rfl | (simp [cRad, cRws, cRw]; done) | (simp [cRad, cRws, cRw]; rfl) | (simp [cRad, cRws, cRw]; and_intros <;> rfl)), by simp [e2], by simp [e3], by simp, by omega, fun q hq hq2 hq3 => ?_⟩⟩
    by_cases hqi : q = i
    · subst hqi
      exact List.ext_getElem d1 fun z q1 q2 => hnp z q1 q2 (by omega)
    · exact hno q hq hq2 (by omega)
  have w_p : IntKind.i64.wrap ((p : Int) + 1) = ((p + 1 : Nat) : Int) := by rw [w64_id (by omega) (by omega)]; omega
  have do' : p < rows'[i].length := by omega
  obtain ⟨y, hy⟩ : ∃ y, rows[i][p] = y := ⟨_, rfl⟩
  obtain ⟨z, hz⟩ : ∃ z, rows'[i][p] = z := ⟨_, rfl⟩
  have hne : y ≠ z → res = false := fun h => hF (by rintro ⟨⟩; exact h (hy.symm.trans hz))
  have hnx : y = z → ∀ q (h : q < rows[i].length) (h' : q < rows'[i].length), q < p + 1 → rows[i][q] = rows'[i][q] := fun hg q hq hq' hq2 => by
    by_cases hqp : q = p
    · subst hqp; rw [hy, hz]; exact hg
    · exact hnp q hq hq' (by omega)
  obtain ⟨x, fl, pk, bb⟩ := y
  obtain ⟨x', fl', pk', bb'⟩ := z
  have hcl : cCl rows[i][p] = [.v (.string x), .v (.int .i64 fl), .v (.int .i64 pk), .v (.int .i64 bb)] := by rw [hy]; rfl
  have hcl' : cCl rows'[i][p] = [.v (.string x'), .v (.int .i64 fl'), .v (.int .i64 pk'), .v (.int .i64 bb')] := by rw [hz]; rfl
  obtain ⟨B, hB⟩ : ∃ B, (x == x' && fl == fl' && pk == pk' && bb == bb') = B := ⟨_, rfl⟩
  have hn := fun (H : Hp) (p q : Operand) => rc_neq (H := H) (a := x) (b := x') (x := fl) (y := fl') (x2 := pk) (y2 := pk') (x3 := bb) (y3 := bb') (p := p) (q := q)
  rw [hB] at hn
  cases B with
  | true =>
    have hyz : (x, fl, pk, bb) = (x', fl', pk', bb') := by
      simp only [Bool.and_eq_true, Go.MapKept.bytes_beq, beq_iff_eq] at hB
      obtain ⟨⟨⟨h1, h2⟩, h3⟩, h4⟩ := hB
      rw [h1, h2, h3, h4]
    simp -implicitDefEqProofs [e2, e3, e5, e6, c, co, d, do', w_p, cRad, cRws, cRw, hcl, hcl', hn, vmove, isNil]
    exact ⟨k' - 1, by omega, (hJ _ _).2 ⟨_, p + 1, _, (by first | rfl | (simp [cRad, cRws, cRw]; done) | (simp [cRad, cRws, cRw]; rfl) | (simp [cRad, cRws, cRw]; and_intros <;> rfl)), by simp [e2], by simp [e3], by simp [e5], by simp, by omega, hnx hyz⟩⟩
  | false =>
    have := hne (by rintro ⟨⟩; rw [(Go.MapKept.bytes_beq _ _).2 rfl] at hB; simp at hB)
    simp -implicitDefEqProofs [e2, e3, e5, e6, c, co, d, do', cRad, cRws, cRw, hcl, hcl', hn, vmove, isNil, this]
end Go.Proofs.YthhbkihhllflfaaF
end

section
/- A radar's cells as the encoding of what came. -/
namespace Go.Proofs.YthhbkihhllflfaaF
open Go Go.Proofs.Vm

abbrev Pkt := ByteArray × Int
/-- A key's place in a row. -/
def pln (s : Int) (i cols : Nat) (k : ByteArray) : Nat := (hcell (hrow s ((i : Int) + 1)) k (cols : Int)).toNat
theorem pln_lt {s : Int} {i cols : Nat} (h : 1 ≤ cols) (k : ByteArray) : pln s i cols k < cols := by
  have := hcell_range (hrow s ((i : Int) + 1)) k (cols : Int) (by omega)
  unfold pln; omega
def encC (pl : ByteArray → Nat) (K : List ByteArray) (L : List Pkt) (p : Nat) : RCl :=
  (xorA (K.filter fun k => pl k == p), ((K.countP fun k => pl k == p : Nat) : Int), ((L.countP fun x => pl x.1 == p : Nat) : Int), ((L.filter fun x => pl x.1 == p).map (·.2)).sum)
def encRow (pl : ByteArray → Nat) (K : List ByteArray) (L : List Pkt) (n : Nat) : List RCl := (List.range n).map (encC pl K L)
def encRows (s : Int) (rows cols : Nat) (K : List ByteArray) (L : List Pkt) : List (List RCl) := (List.range rows).map fun i => encRow (pln s i cols) K L cols
theorem sum_perm {l m : List Int} (h : l.Perm m) : l.sum = m.sum := by
  induction h with
  | nil => rfl
  | cons x _ ih => rw [List.sum_cons, List.sum_cons, ih]
  | swap x y l => rw [List.sum_cons, List.sum_cons, List.sum_cons, List.sum_cons]; omega
  | trans _ _ h1 h2 => rw [h1, h2]
theorem encC_perm {pl : ByteArray → Nat} {K K' : List ByteArray} {L L' : List Pkt} (hK : K.Perm K') (hL : L.Perm L') (p : Nat) : encC pl K L p = encC pl K' L' p := by
  unfold encC
  rw [xorA_perm (hK.filter _), hK.countP_eq, hL.countP_eq, sum_perm ((hL.filter _).map _)]
theorem encRow_perm {pl : ByteArray → Nat} {K K' : List ByteArray} {L L' : List Pkt} (hK : K.Perm K') (hL : L.Perm L') (n : Nat) : encRow pl K L n = encRow pl K' L' n := by
  unfold encRow
  exact List.map_congr_left fun p _ => encC_perm hK hL p
theorem encRows_perm {s : Int} {rows cols : Nat} {K K' : List ByteArray} {L L' : List Pkt} (hK : K.Perm K') (hL : L.Perm L') : encRows s rows cols K L = encRows s rows cols K' L' := by
  unfold encRows
  exact List.map_congr_left fun p _ => encRow_perm hK hL _
theorem encRow_len (pl : ByteArray → Nat) (K : List ByteArray) (L : List Pkt) (n : Nat) : (encRow pl K L n).length = n := by simp [encRow]
theorem encRows_len (s : Int) (rows cols : Nat) (K : List ByteArray) (L : List Pkt) : (encRows s rows cols K L).length = rows := by simp [encRows]
theorem encRow_get {pl : ByteArray → Nat} {K : List ByteArray} {L : List Pkt} {n p : Nat} (h : p < (encRow pl K L n).length) : (encRow pl K L n)[p] = encC pl K L p := by simp [encRow]
theorem encRows_get {s : Int} {rows cols : Nat} {K : List ByteArray} {L : List Pkt} {i : Nat} (h : i < (encRows s rows cols K L).length) : (encRows s rows cols K L)[i] = encRow (pln s i cols) K L cols := by simp [encRows]
/-- A packet more. -/
theorem encC_add {pl : ByteArray → Nat} {K : List ByteArray} {L : List Pkt} {k : ByteArray} {b : Int} {fr : Bool} : encC pl (if fr then K ++ [k] else K) (L ++ [(k, b)]) (pl k) = addC fr k b (encC pl K L (pl k)) := by
  unfold encC addC
  cases fr with
  | true =>
    simp only [if_true, List.filter_append, List.countP_append, List.map_append, List.sum_append]
    simp [xorA_snoc]
  | false =>
    simp only [Bool.false_eq_true, if_false, List.filter_append, List.countP_append, List.map_append, List.sum_append]
    simp
theorem encC_add_ne {pl : ByteArray → Nat} {K : List ByteArray} {L : List Pkt} {k : ByteArray} {b : Int} {fr : Bool} {p : Nat} (h : pl k ≠ p) : encC pl (if fr then K ++ [k] else K) (L ++ [(k, b)]) p = encC pl K L p := by
  have h' : (pl k == p) = false := by simpa using h
  unfold encC
  cases fr <;> simp [List.filter_append, List.countP_append, h']
theorem encRow_add {pl : ByteArray → Nat} {K : List ByteArray} {L : List Pkt} {n : Nat} {k : ByteArray} {b : Int} {fr : Bool} : (encRow pl K L n).modify (pl k) (addC fr k b) = encRow pl (if fr then K ++ [k] else K) (L ++ [(k, b)]) n := by
  apply List.ext_getElem
  · simp [encRow_len]
  · intro p h1 h2
    rw [List.getElem_modify, encRow_get, encRow_get]
    split
    · rename_i h; subst h; exact encC_add.symm
    · rename_i h; exact (encC_add_ne h).symm
theorem encRows_add {s : Int} {rows cols : Nat} {K : List ByteArray} {L : List Pkt} {k : ByteArray} {b : Int} {fr : Bool} : updA (addC fr k b) s k (encRows s rows cols K L) = encRows s rows cols (if fr then K ++ [k] else K) (L ++ [(k, b)]) := by
  apply List.ext_getElem
  · rw [updA_len, encRows_len, encRows_len]
  · intro i h1 h2
    rw [updA_at, encRows_get, encRows_get, updR, encRow_len]
    exact encRow_add
/-- A flow less. -/
theorem encC_rem {pl : ByteArray → Nat} {K K' : List ByteArray} {L : List Pkt} {k : ByteArray} (h : K.Perm (k :: K')) : encC pl K' L (pl k) = remC k (encC pl K L (pl k)) := by
  rw [encC_perm h (.refl L)]
  unfold encC remC
  have h1 : xorA ((k :: K').filter fun x => pl x == pl k) = xorK (xorA (K'.filter fun x => pl x == pl k)) k := by
    rw [List.filter_cons, if_pos (by simp), xorA_perm (List.perm_append_singleton k _).symm, xorA_snoc]
  have h2 : (k :: K').countP (fun x => pl x == pl k) = K'.countP (fun x => pl x == pl k) + 1 := by simp
  simp only [h1, h2, xor_twice]
  have h3 : max ((((K'.countP (fun x => pl x == pl k) + 1 : Nat)) : Int) - 1) (-1099511627776) = ((K'.countP (fun x => pl x == pl k) : Nat) : Int) := by omega
  rw [h3]
theorem encC_rem_ne {pl : ByteArray → Nat} {K K' : List ByteArray} {L : List Pkt} {k : ByteArray} {p : Nat} (h : K.Perm (k :: K')) (hp : pl k ≠ p) : encC pl K' L p = encC pl K L p := by
  rw [encC_perm h (.refl L)]
  have h' : (pl k == p) = false := by simpa using hp
  unfold encC
  simp [h']
theorem encRows_rem {s : Int} {rows cols : Nat} {K K' : List ByteArray} {L : List Pkt} {k : ByteArray} (h : K.Perm (k :: K')) : updA (remC k) s k (encRows s rows cols K L) = encRows s rows cols K' L := by
  apply List.ext_getElem
  · rw [updA_len, encRows_len, encRows_len]
  · intro i h1 h2
    rw [updA_at, encRows_get, encRows_get, updR, encRow_len]
    apply List.ext_getElem
    · simp [encRow_len]
    · intro p g1 g2
      rw [List.getElem_modify, encRow_get, encRow_get]
      have hq : (hcell (hrow s ((i : Int) + 1)) k (cols : Int)).toNat = pln s i cols k := rfl
      rw [hq]
      split
      · rename_i e; subst e; exact (encC_rem h).symm
      · rename_i e; exact (encC_rem_ne h e).symm

/-! the filter's bits -/
def bitsOf (fs h : Int) (n : Nat) (L : List Pkt) : List Bool := (List.range n).map fun (j : Nat) => L.any fun x => (plc fs h x.1 n).any fun p => decide (p = (j : Int))
theorem bitsOf_len (fs h : Int) (n : Nat) (L : List Pkt) : (bitsOf fs h n L).length = n := by simp [bitsOf]
theorem bitsOf_nil (fs h : Int) (n : Nat) : bitsOf fs h n [] = List.replicate n false := by
  apply List.ext_getElem
  · simp [bitsOf]
  · intro j h1 h2; simp [bitsOf]
theorem bitsOf_add {fs h : Int} {n : Nat} (hn : 1 ≤ n) {L : List Pkt} {k : ByteArray} {b : Int} : addB (bitsOf fs h n L) (plc fs h k n) = bitsOf fs h n (L ++ [(k, b)]) := by
  apply List.ext_getElem
  · rw [addB_len, bitsOf_len, bitsOf_len]
  · intro j h1 h2
    have hj : j < (bitsOf fs h n L).length := by rw [addB_len] at h1; exact h1
    have := addB_get (plc fs h k n) (fun p hp => (plc_mem hn hp).1) (bitsOf fs h n L) j hj
    rw [List.getElem?_eq_getElem h1] at this
    rw [Option.some.inj this]
    simp [bitsOf]
theorem bitsOf_perm {fs h : Int} {n : Nat} {L L' : List Pkt} (hL : L.Perm L') : bitsOf fs h n L = bitsOf fs h n L' := by
  unfold bitsOf
  exact List.map_congr_left fun j _ => hL.any_eq
theorem hasB_of {fs h : Int} {n : Nat} (hn : 1 ≤ n) {L : List Pkt} {k : ByteArray} (hk : ∃ b, (k, b) ∈ L) : hasB fs h (bitsOf fs h n L) k = true := by
  obtain ⟨b, hb⟩ := hk
  unfold hasB
  rw [bitsOf_len, List.all_eq_true]
  intro p hp
  have hr := plc_mem hn hp
  have hq : p.toNat < (bitsOf fs h n L).length := by rw [bitsOf_len]; omega
  rw [List.getD_eq_getElem?_getD, List.getElem?_eq_getElem hq, Option.getD_some]
  simp only [bitsOf, List.getElem_map, List.getElem_range]
  exact List.any_eq_true.2 ⟨_, hb, List.any_eq_true.2 ⟨p, hp, by simp; omega⟩⟩
theorem hasB_nil {fs h : Int} {n : Nat} (hn : 1 ≤ n) (hh : 1 ≤ h) (k : ByteArray) : hasB fs h (bitsOf fs h n []) k = false := by
  unfold hasB
  rw [List.all_eq_false]
  have hl : 0 < (plc fs h k (bitsOf fs h n []).length).length := by rw [plc_len]; omega
  refine ⟨_, List.getElem_mem hl, ?_⟩
  generalize ((plc fs h k (bitsOf fs h n []).length)[0]'hl).toNat = j
  rw [bitsOf_nil, List.getD_eq_getElem?_getD, List.getElem?_replicate]
  split <;> simp

def encRad (s h : Int) (bits rows cols : Nat) (K : List ByteArray) (L : List Pkt) : Rad := ⟨s, hrow s 0, h, bitsOf (hrow s 0) h bits L, encRows s rows cols K L⟩
theorem encRad_nil (s h : Int) (bits rows cols : Nat) : encRad s h bits rows cols [] [] = newRad s bits h rows cols := by
  unfold encRad newRad
  rw [bitsOf_nil]
  congr 1
  apply List.ext_getElem
  · simp [encRows]
  · intro i h1 h2
    apply List.ext_getElem
    · simp [encRows, encRow]
    · intro p g1 g2
      simp [encRows, encRow, encC, nC, xorA]
theorem encRad_add {s h : Int} {bits rows cols : Nat} {K : List ByteArray} {L : List Pkt} {k : ByteArray} {b : Int} (hb : 1 ≤ bits) : addRad (encRad s h bits rows cols K L) k b = encRad s h bits rows cols (if freshB (encRad s h bits rows cols K L) k then K ++ [k] else K) (L ++ [(k, b)]) := by
  have h1 : (encRad s h bits rows cols K L).bits.length = bits := bitsOf_len ..
  unfold addRad
  rw [h1]
  show (⟨s, hrow s 0, h, addB (bitsOf (hrow s 0) h bits L) (plc (hrow s 0) h k bits), updA (addC (freshB (encRad s h bits rows cols K L) k) k b) s k (encRows s rows cols K L)⟩ : Rad) = _
  rw [bitsOf_add hb (b := b), encRows_add]
  rfl
theorem encRad_rem {s h : Int} {bits rows cols : Nat} {K K' : List ByteArray} {L : List Pkt} {k : ByteArray} (hp : K.Perm (k :: K')) : remR (encRad s h bits rows cols K L) k = encRad s h bits rows cols K' L := by
  unfold remR encRad
  congr 1
  exact encRows_rem hp
end Go.Proofs.YthhbkihhllflfaaF
end

section
/- A radar's encoding is right; what is peeled of it. -/
namespace Go.Proofs.YthhbkihhllflfaaF
open Go Go.Proofs.Vm

def Dim (h : Int) (bits rows cols : Nat) : Prop := 1 ≤ bits ∧ bits ≤ 256 ∧ 1 ≤ h ∧ h ≤ 7 ∧ 1 ≤ rows ∧ rows ≤ 7 ∧ 1 ≤ cols ∧ cols ≤ 256
theorem sum_bound {b : Int} : ∀ {l : List Int}, (∀ x ∈ l, 0 ≤ x ∧ x ≤ b) → 0 ≤ l.sum ∧ l.sum ≤ (l.length : Int) * b
  | [], _ => by simp
  | x :: l, h => by
    have h1 := h x List.mem_cons_self
    have h2 := sum_bound (l := l) fun y hy => h y (List.mem_cons_of_mem _ hy)
    rw [List.sum_cons, List.length_cons, Int.natCast_add, Int.add_mul]
    omega
theorem encC_ok {pl : ByteArray → Nat} {K : List ByteArray} {L : List Pkt} {p : Nat} (hK : K.length ≤ 1000) (hL : L.length ≤ 1000) (hb : ∀ x ∈ L, 0 ≤ x.2 ∧ x.2 ≤ 1073741824) : wrongB (encC pl K L p) = false := by
  rw [wrongB_iff]
  have h1 := List.countP_le_length (p := fun k => pl k == p) (l := K)
  have h2 := List.countP_le_length (p := fun x : Pkt => pl x.1 == p) (l := L)
  have h3 := sum_bound (b := 1073741824) (l := (L.filter fun x => pl x.1 == p).map (·.2)) fun y hy => by
    obtain ⟨x, hx, rfl⟩ := List.mem_map.1 hy
    exact hb x (List.mem_filter.1 hx).1
  have h4 := List.length_filter_le (fun x : Pkt => pl x.1 == p) L
  rw [List.length_map] at h3
  refine ⟨xorA_size _, ?_, ?_, ?_, ?_, h3.1, ?_⟩ <;> simp only [encC] <;> omega
theorem encRad_ok {s h : Int} {bits rows cols : Nat} {K : List ByteArray} {L : List Pkt} (hd : Dim h bits rows cols) (hK : K.length ≤ 1000) (hL : L.length ≤ 1000) (hb : ∀ x ∈ L, 0 ≤ x.2 ∧ x.2 ≤ 1073741824) : rOk (encRad s h bits rows cols K L) = true := by
  obtain ⟨d1, d2, d3, d4, d5, d6, d7, d8⟩ := hd
  have hr : ∀ x ∈ encRows s rows cols K L, x.length = cols ∧ ∀ c ∈ x, wrongB c = false := by
    intro x hx
    obtain ⟨i, _, rfl⟩ := List.mem_map.1 hx
    refine ⟨encRow_len .., fun c hc => ?_⟩
    obtain ⟨p, _, rfl⟩ := List.mem_map.1 hc
    exact encC_ok hK hL hb
  have hhd : ((encRows s rows cols K L).headD []).length = cols := by
    have : 0 < (encRows s rows cols K L).length := by rw [encRows_len]; omega
    cases he : encRows s rows cols K L with
    | nil => rw [he] at this; simp at this
    | cons x t => exact (hr x (by rw [he]; exact List.mem_cons_self)).1
  refine rOk_of ?_ rfl (by show 1 ≤ (encRows s rows cols K L).length; rw [encRows_len]; exact d5) (by show (encRows s rows cols K L).length ≤ 7; rw [encRows_len]; exact d6) fun x hx => ?_
  · rw [fOk_iff]
    show 1 ≤ h ∧ h ≤ 7 ∧ 1 ≤ (bitsOf (hrow s 0) h bits L).length ∧ (bitsOf (hrow s 0) h bits L).length ≤ 256
    rw [bitsOf_len]
    exact ⟨d3, d4, d1, d2⟩
  · obtain ⟨h1, h2⟩ := hr x hx
    refine ⟨by omega, by omega, ?_, h2⟩
    show x.length = ((encRows s rows cols K L).headD []).length
    rw [h1, hhd]
theorem encRad_seeds {s h : Int} {bits rows cols : Nat} {K : List ByteArray} {L : List Pkt} (h0 : 0 ≤ s) (h1 : s < 18446744073709551616) : Seeds (encRad s h bits rows cols K L) := by
  have := hrow_range s 0
  refine ⟨h0, h1, ?_, ?_⟩ <;> simp only [encRad] <;> omega
theorem encRad_lens {s h : Int} {bits rows cols : Nat} {K : List ByteArray} {L : List Pkt} (hd : Dim h bits rows cols) : Lens (encRad s h bits rows cols K L) := by
  obtain ⟨d1, d2, d3, d4, d5, d6, d7, d8⟩ := hd
  refine ⟨?_, fun x hx => ?_, ?_⟩
  · show (encRows s rows cols K L).length < _
    rw [encRows_len]; omega
  · obtain ⟨i, _, rfl⟩ := List.mem_map.1 (show x ∈ encRows s rows cols K L from hx)
    rw [encRow_len]; omega
  · show (bitsOf (hrow s 0) h bits L).length < _
    rw [bitsOf_len]; omega

theorem countP_one {α : Type} {q : α → Bool} {l : List α} (h : l.countP q = 1) : ∃ x ∈ l, l.filter q = [x] ∧ q x = true := by
  rw [List.countP_eq_length_filter] at h
  obtain ⟨x, hx⟩ := List.length_eq_one_iff.1 h
  have : x ∈ l.filter q := by rw [hx]; exact List.mem_singleton.2 rfl
  obtain ⟨h1, h2⟩ := List.mem_filter.1 this
  exact ⟨x, h1, hx, h2⟩
theorem pure_enc {s h : Int} {bits rows cols : Nat} {K : List ByteArray} {L : List Pkt} (hK : ∀ k ∈ K, k.size = 37) {told : List ByteArray} {k : ByteArray} (hp : pureOf (encRad s h bits rows cols K L) told = some k) : k ∈ K := by
  obtain ⟨i, p, hi, hpp, hc, rfl⟩ := pureOf_some hp
  obtain ⟨h1, -, -, -⟩ := okC_facts hc
  have hi' : i < (encRows s rows cols K L).length := hi
  have e : (encRad s h bits rows cols K L).rows[i] = encRow (pln s i cols) K L cols := encRows_get hi'
  have hp2 : p < (encRow (pln s i cols) K L cols).length := by rw [← e]; exact hpp
  have e2 : (encRad s h bits rows cols K L).rows[i][p] = encC (pln s i cols) K L p := by simp only [e]; exact encRow_get hp2
  have h1 : (encC (pln s i cols) K L p).2.1 = 1 := by rw [← e2]; exact h1
  have h1 : (((K.countP fun k => pln s i cols k == p) : Nat) : Int) = 1 := h1
  have e3 : (encRad s h bits rows cols K L).rows[i][p].1 = (encC (pln s i cols) K L p).1 := congrArg (·.1) e2
  refine e3 ▸ ?_
  obtain ⟨x, hx, hf, -⟩ := countP_one (q := fun k => pln s i cols k == p) (l := K) (by omega)
  show xorA (K.filter fun k => pln s i cols k == p) ∈ K
  rw [hf, xorA_one (hK x hx)]
  exact hx
theorem peelN_enc {s h : Int} {bits rows cols : Nat} {L : List Pkt} : ∀ (n : Nat) (K out : List ByteArray), (∀ k ∈ K, k.size = 37) → posN (encRad s h bits rows cols K L) ≤ n →
    ∃ T K', peelN n (encRad s h bits rows cols K L) out = (ssort (out ++ T), encRad s h bits rows cols K' L) ∧ K.Perm (T ++ K') ∧ pureOf (encRad s h bits rows cols K' L) (out ++ T) = none
  | 0, K, out, hK, hn => by
    refine ⟨[], K, by rw [List.append_nil]; rfl, .refl _, ?_⟩
    rw [List.append_nil]
    cases hp : pureOf (encRad s h bits rows cols K L) out with
    | none => rfl
    | some k => have := posN_rem hp; omega
  | n + 1, K, out, hK, hn => by
    cases hp : pureOf (encRad s h bits rows cols K L) out with
    | none =>
      refine ⟨[], K, ?_, .refl _, by rw [List.append_nil]; exact hp⟩
      rw [peelN_none hp, List.append_nil]
    | some k =>
      have hk := pure_enc hK hp
      have hpe : K.Perm (k :: K.erase k) := List.perm_cons_erase hk
      have hlt := posN_rem hp
      rw [encRad_rem hpe] at hlt
      obtain ⟨T, K', h1, h2, h3⟩ := peelN_enc (s := s) (h := h) (bits := bits) (rows := rows) (cols := cols) (L := L) n (K.erase k) (out ++ [k]) (fun x hx => hK x (List.mem_of_mem_erase hx)) (by omega)
      refine ⟨k :: T, K', ?_, hpe.trans (h2.cons k), ?_⟩
      · rw [peelN, hp]
        show peelN n (remR (encRad s h bits rows cols K L) k) (out ++ [k]) = _
        rw [encRad_rem hpe, h1, List.append_assoc]
        rfl
      · rw [← h3, List.append_assoc]; rfl
theorem peel_enc {s h : Int} {bits rows cols : Nat} {L : List Pkt} {K : List ByteArray} (hK : ∀ k ∈ K, k.size = 37) :
    ∃ T K', peel (encRad s h bits rows cols K L) = (ssort T, encRad s h bits rows cols K' L) ∧ K.Perm (T ++ K') ∧ pureOf (encRad s h bits rows cols K' L) T = none := peelN_enc _ K [] hK (Nat.le_refl _)
/-- A radar with a flow is not empty; one without is. -/
theorem enc_full {s h : Int} {bits rows cols : Nat} {L : List Pkt} {K : List ByteArray} (hd : Dim h bits rows cols) (hK : K ≠ []) : ((encRad s h bits rows cols K L).rows.any (·.any fullC)) = true := by
  obtain ⟨d1, d2, d3, d4, d5, d6, d7, d8⟩ := hd
  obtain ⟨k, t, rfl⟩ : ∃ k t, K = k :: t := by cases K with | nil => exact absurd rfl hK | cons k t => exact ⟨k, t, rfl⟩
  have hp := pln_lt (s := s) (i := 0) d7 k
  refine List.any_eq_true.2 ⟨encRow (pln s 0 cols) (k :: t) L cols, List.mem_map.2 ⟨0, List.mem_range.2 (by omega), rfl⟩, List.any_eq_true.2 ⟨encC (pln s 0 cols) (k :: t) L (pln s 0 cols k), List.mem_map.2 ⟨_, List.mem_range.2 hp, rfl⟩, ?_⟩⟩
  unfold fullC
  have : (encC (pln s 0 cols) (k :: t) L (pln s 0 cols k)).2.1 ≠ 0 := by
    simp only [encC, List.countP_cons]
    simp
    omega
  rw [decide_eq_true this, Bool.true_or]
theorem enc_empty {s h : Int} {bits rows cols : Nat} {L : List Pkt} : ((encRad s h bits rows cols [] L).rows.any (·.any fullC)) = false := by
  refine List.any_eq_false.2 fun x hx => ?_
  obtain ⟨i, _, rfl⟩ := List.mem_map.1 hx
  rw [Bool.not_eq_true]
  refine List.any_eq_false.2 fun c hc => ?_
  obtain ⟨p, _, rfl⟩ := List.mem_map.1 hc
  have : sEq nought nought = true := sEq_iff.2 rfl
  simp [fullC, encC, xorA, this]
end Go.Proofs.YthhbkihhllflfaaF
end

section
/- One key alone; a fixed answer. -/
set_option maxRecDepth 8192
set_option maxHeartbeats 1000000
namespace Go.Proofs.YthhbkihhllflfaaF
open Go Go.Proofs.Vm

def aK (k : ByteArray) (L : List Pkt) : List ByteArray := if L = [] then [] else [k]
theorem freshB_enc {s h : Int} {bits rows cols : Nat} {K : List ByteArray} {L : List Pkt} {k : ByteArray} : freshB (encRad s h bits rows cols K L) k = !hasB (hrow s 0) h (bitsOf (hrow s 0) h bits L) k := rfl
theorem add_alone {s h : Int} {bits rows cols : Nat} (hd : Dim h bits rows cols) {L : List Pkt} {k : ByteArray} {b : Int} (hL : ∀ x ∈ L, x.1 = k) : addRad (encRad s h bits rows cols (aK k L) L) k b = encRad s h bits rows cols (aK k (L ++ [(k, b)])) (L ++ [(k, b)]) := by
  rw [encRad_add hd.1]
  congr 1
  have hne : L ++ [(k, b)] ≠ [] := by simp
  by_cases hL0 : L = []
  · subst hL0
    have hf : freshB (encRad s h bits rows cols (aK k []) []) k = true := by rw [freshB_enc, hasB_nil hd.1 hd.2.2.1]; rfl
    rw [if_pos hf]
    simp [aK]
  · have hf : freshB (encRad s h bits rows cols (aK k L) L) k = false := by
      rw [freshB_enc, hasB_of hd.1]
      · rfl
      · cases L with
        | nil => exact absurd rfl hL0
        | cons x t => exact ⟨x.2, by rw [← hL x List.mem_cons_self]; exact List.mem_cons_self⟩
    rw [if_neg (by rw [hf]; decide)]
    simp [aK, hL0]
theorem pure_alone {s h : Int} {bits rows cols : Nat} (hd : Dim h bits rows cols) {L : List Pkt} {k : ByteArray} (hk : k.size = 37) (hL : ∃ b, (k, b) ∈ L) : pureOf (encRad s h bits rows cols [k] L) [] ≠ none := by
  obtain ⟨d1, d2, d3, d4, d5, d6, d7, d8⟩ := hd
  intro hn
  have hp := pln_lt (s := s) (i := 0) d7 k
  have h1 := List.findSome?_eq_none_iff.1 hn 0 (List.mem_range.2 (by show 0 < (encRows s rows cols [k] L).length; rw [encRows_len]; omega))
  have e : (encRad s h bits rows cols [k] L).rows.getD 0 [] = encRow (pln s 0 cols) [k] L cols := by
    have : 0 < (encRows s rows cols [k] L).length := by rw [encRows_len]; omega
    show (encRows s rows cols [k] L).getD 0 [] = _
    rw [List.getD_eq_getElem?_getD, List.getElem?_eq_getElem this, Option.getD_some, encRows_get]
  unfold pureR at h1
  rw [e, encRow_len] at h1
  have h2 := List.findSome?_eq_none_iff.1 h1 (pln s 0 cols k) (List.mem_range.2 hp)
  have hq : pln s 0 cols k < (encRow (pln s 0 cols) [k] L cols).length := by rw [encRow_len]; exact hp
  rw [List.getD_eq_getElem?_getD, List.getElem?_eq_getElem hq, Option.getD_some, encRow_get] at h2
  have hc1 : (encC (pln s 0 cols) [k] L (pln s 0 cols k)).1 = k := by
    simp only [encC]
    rw [List.filter_cons, if_pos (by simp), List.filter_nil, xorA_one hk]
  have hc2 : (encC (pln s 0 cols) [k] L (pln s 0 cols k)).2.1 = 1 := by simp [encC]
  have hok : okC (encRad s h bits rows cols [k] L) [] 0 cols (pln s 0 cols k) (encC (pln s 0 cols) [k] L (pln s 0 cols k)) = true := by
    unfold okC
    rw [hc1, hc2]
    have h3 : rplc (encRad s h bits rows cols [k] L) k 0 cols = ((pln s 0 cols k : Nat) : Int) := by
      have := hcell_range (hrow s ((0 : Nat) + 1)) k (cols : Int) (by omega)
      show hcell (hrow s ((0 : Nat) + 1)) k (cols : Int) = (((hcell (hrow s ((0 : Nat) + 1)) k (cols : Int)).toNat : Nat) : Int)
      omega
    have h4 : hasB (encRad s h bits rows cols [k] L).fs (encRad s h bits rows cols [k] L).h (encRad s h bits rows cols [k] L).bits k = true := hasB_of d1 hL
    rw [h3, h4]
    simp
  rw [if_pos hok] at h2
  exact absurd h2 (by simp)
theorem peel_alone {s h : Int} {bits rows cols : Nat} (hd : Dim h bits rows cols) {L : List Pkt} {k : ByteArray} (hk : k.size = 37) (hL : ∃ b, (k, b) ∈ L) : peel (encRad s h bits rows cols [k] L) = ([k], encRad s h bits rows cols [] L) := by
  obtain ⟨T, K', h1, h2, h3⟩ := peel_enc (s := s) (h := h) (bits := bits) (rows := rows) (cols := cols) (L := L) (K := [k]) (fun x hx => by rw [List.mem_singleton.1 hx]; exact hk)
  rw [h1]
  cases T with
  | nil =>
    have : K' = [k] := List.perm_singleton.1 h2.symm
    subst this
    exact absurd h3 (pure_alone hd hk hL)
  | cons x T =>
    have hl := h2.length_eq
    simp only [List.length_cons, List.length_nil, List.length_append] at hl
    obtain rfl : T = [] := List.length_eq_zero_iff.1 (by omega)
    obtain rfl : K' = [] := List.length_eq_zero_iff.1 (by omega)
    have : [x] = [k] := List.perm_singleton.1 h2.symm
    rw [this]
    rw [show ssort [k] = [k] from ssort_of_srt (List.pairwise_singleton _ _)]
theorem peel_none {s h : Int} {bits rows cols : Nat} {L : List Pkt} : peel (encRad s h bits rows cols [] L) = ([], encRad s h bits rows cols [] L) := by
  obtain ⟨T, K', h1, h2, h3⟩ := peel_enc (s := s) (h := h) (bits := bits) (rows := rows) (cols := cols) (L := L) (K := []) (fun x hx => by simp at hx)
  have hl := h2.length_eq
  simp only [List.length_nil, List.length_append] at hl
  obtain rfl : T = [] := List.length_eq_zero_iff.1 (by omega)
  obtain rfl : K' = [] := List.length_eq_zero_iff.1 (by omega)
  rw [h1, ssort_nil]

def aKey : ByteArray := ⟨#[48, 49, 50, 51, 52, 53, 54, 55, 56, 57, 97, 98, 99, 100, 101, 102, 48, 49, 50, 51, 52, 53, 54, 55, 56, 57, 97, 98, 99, 100, 101, 102, 17, 0, 1, 0, 2]⟩
theorem law_awake : TV.pu 13 [] = some (cB true) := by
  refine run13 (by simp) ?_
  have hd : Dim 2 64 2 8 := by unfold Dim; omega
  have hsz : aKey.size = 37 := rfl
  have hfit : fitB 100 = true := by decide
  have hN : TV.pu 24 [cI .u64 1, cI .i64 64, cI .i64 2, cI .i64 2, cI .i64 8] = _ := rd_New (seed := 1) (hh := 2) (bits := 64) (rows := 2) (cols := 8) (by decide) (by decide) (by omega)
  rw [← encRad_nil] at hN
  have hS := fun K L => encRad_seeds (s := 1) (h := 2) (bits := 64) (rows := 2) (cols := 8) (K := K) (L := L) (by decide) (by decide)
  have hL := fun K L => encRad_lens (s := 1) (h := 2) (bits := 64) (rows := 2) (cols := 8) (K := K) (L := L) hd
  have hb : ∀ x ∈ [(aKey, (100 : Int)), (aKey, 100)], 0 ≤ x.2 ∧ x.2 ≤ 1073741824 := by intro x hx; simp only [List.mem_cons, List.not_mem_nil, or_false, or_self] at hx; subst hx; decide
  have ok0 := encRad_ok (s := 1) (K := []) (L := []) hd (by simp) (by simp) (by simp)
  have ok1 := encRad_ok (s := 1) (K := [aKey]) (L := [(aKey, 100)]) hd (by simp) (by simp) (fun x hx => hb x (List.mem_cons_of_mem _ hx))
  have ok2 := encRad_ok (s := 1) (K := [aKey]) (L := [(aKey, 100), (aKey, 100)]) hd (by simp) (by simp) hb
  have ok3 := encRad_ok (s := 1) (K := []) (L := [(aKey, 100), (aKey, 100)]) hd (by simp) (by simp) hb
  have a1 := add_alone (s := 1) hd (L := []) (k := aKey) (b := 100) (by simp)
  have a2 := add_alone (s := 1) hd (L := [(aKey, 100)]) (k := aKey) (b := 100) (by simp)
  simp only [aK, List.nil_append, List.cons_append, if_true, List.cons_ne_self, reduceCtorEq, if_false] at a1 a2
  have A1 := rd_Add' (R := encRad 1 2 64 2 8 [] []) (key := aKey) (n := 100) (hS _ _) (hL _ _) ok0 hsz hfit
  rw [a1, ok1, if_pos rfl] at A1
  have A2 := rd_Add' (R := encRad 1 2 64 2 8 [aKey] [(aKey, 100)]) (key := aKey) (n := 100) (hS _ _) (hL _ _) ok1 hsz hfit
  rw [a2, ok2, if_pos rfl] at A2
  have P := rd_Peel (R := encRad 1 2 64 2 8 [aKey] [(aKey, 100), (aKey, 100)]) (hS _ _) (hL _ _) ok2
  rw [peel_alone hd hsz ⟨100, by simp⟩] at P
  have E2 := rd_Empty (R := encRad 1 2 64 2 8 [aKey] [(aKey, 100), (aKey, 100)]) (hS _ _) (hL _ _)
  have E3 := rd_Empty (R := encRad 1 2 64 2 8 [] [(aKey, 100), (aKey, 100)]) (hS _ _) (hL _ _)
  rw [emptyB, ok2, enc_full hd (by simp)] at E2
  rw [emptyB, ok3, enc_empty] at E3
  obtain ⟨R0, h0⟩ : ∃ R, encRad 1 2 64 2 8 [] [] = R := ⟨_, rfl⟩
  obtain ⟨R1, h1⟩ : ∃ R, encRad 1 2 64 2 8 [aKey] [(aKey, 100)] = R := ⟨_, rfl⟩
  obtain ⟨R2, h2⟩ : ∃ R, encRad 1 2 64 2 8 [aKey] [(aKey, 100), (aKey, 100)] = R := ⟨_, rfl⟩
  obtain ⟨R3, h3⟩ : ∃ R, encRad 1 2 64 2 8 [] [(aKey, 100), (aKey, 100)] = R := ⟨_, rfl⟩
  rw [h0] at hN A1
  rw [h1] at A1 A2
  rw [h2] at A2 P E2
  rw [h3] at P E3
  simp only [cRad, cRws, cRw, peelA, cSs, cStr, List.map_cons, List.map_nil, Bool.not_true, Bool.not_false, Bool.and_false, Bool.and_true] at hN A1 A2 P E2 E3
  simp only [aKey] at A1 A2 P
  simp -implicitDefEqProofs [Try.f13, hN, A1, A2, P, E2, E3, vmove, isNil, vstore, cellsOf?, Ent.wrO, wr]
end Go.Proofs.YthhbkihhllflfaaF
end

section
/- The law: a radar of any numbers is told, or refused. -/
set_option maxRecDepth 8192
set_option maxHeartbeats 1000000
namespace Go.Proofs.YthhbkihhllflfaaF
open Go Go.Proofs.Vm

theorem law_news {seed bits hs rows cols : Int} (s0 : 0 ≤ seed) (s1 : seed < 18446744073709551616) :
    TV.pu 9 [cI .u64 seed, cI .i64 bits, cI .i64 hs, cI .i64 rows, cI .i64 cols] = some (cB true) := by
  refine run9 (by simp) ?_
  have hA := law_awake
  by_cases hd : 1 ≤ bits ∧ bits ≤ 256 ∧ 1 ≤ hs ∧ hs ≤ 7 ∧ 1 ≤ rows ∧ rows ≤ 7 ∧ 1 ≤ cols ∧ cols ≤ 256
  rotate_left
  · have hN := rd_New_arg (seed := seed) s0 s1 hd
    simp only [cRad, zRad, cRws, cRw] at hN
    by_cases c1 : bits < 1
    · simp -implicitDefEqProofs [Try.f9, hN, hA, c1, vmove, isNil, vstore, cellsOf?, Ent.wrO, wr]
    by_cases c2 : 256 < bits
    · simp -implicitDefEqProofs [Try.f9, hN, hA, c1, c2, vmove, isNil, vstore, cellsOf?, Ent.wrO, wr]
    by_cases c3 : hs < 1
    · simp -implicitDefEqProofs [Try.f9, hN, hA, c1, c2, c3, vmove, isNil, vstore, cellsOf?, Ent.wrO, wr]
    by_cases c4 : 7 < hs
    · simp -implicitDefEqProofs [Try.f9, hN, hA, c1, c2, c3, c4, vmove, isNil, vstore, cellsOf?, Ent.wrO, wr]
    by_cases c5 : rows < 1
    · simp -implicitDefEqProofs [Try.f9, hN, hA, c1, c2, c3, c4, c5, vmove, isNil, vstore, cellsOf?, Ent.wrO, wr]
    by_cases c6 : 7 < rows
    · simp -implicitDefEqProofs [Try.f9, hN, hA, c1, c2, c3, c4, c5, c6, vmove, isNil, vstore, cellsOf?, Ent.wrO, wr]
    by_cases c7 : cols < 1
    · simp -implicitDefEqProofs [Try.f9, hN, hA, c1, c2, c3, c4, c5, c6, c7, vmove, isNil, vstore, cellsOf?, Ent.wrO, wr]
    by_cases c8 : 256 < cols
    · simp -implicitDefEqProofs [Try.f9, hN, hA, c1, c2, c3, c4, c5, c6, c7, c8, vmove, isNil, vstore, cellsOf?, Ent.wrO, wr]
    exact absurd ⟨by omega, by omega, by omega, by omega, by omega, by omega, by omega, by omega⟩ hd
  obtain ⟨b, rfl⟩ := Int.eq_ofNat_of_zero_le (show 0 ≤ bits by omega)
  obtain ⟨r, rfl⟩ := Int.eq_ofNat_of_zero_le (show 0 ≤ rows by omega)
  obtain ⟨c, rfl⟩ := Int.eq_ofNat_of_zero_le (show 0 ≤ cols by omega)
  have hdim : Dim hs b r c := by unfold Dim; omega
  have hN := rd_New (seed := seed) (hh := hs) (bits := b) (rows := r) (cols := c) s0 s1 (by omega)
  have hS := encRad_seeds (s := seed) (h := hs) (bits := b) (rows := r) (cols := c) (K := []) (L := []) s0 s1
  have hLe := encRad_lens (s := seed) (h := hs) (bits := b) (rows := r) (cols := c) (K := []) (L := []) hdim
  have hok := encRad_ok (s := seed) (K := []) (L := []) hdim (by simp) (by simp) (by simp)
  have hR1 := rr_Right hS hLe
  have hR2 := rd_Right hS hLe
  have hE := rd_Empty hS hLe
  have hf := law_ref (R := encRad seed hs b r c [] []) ⟨by show 24 * (encRows seed r c [] []).length ≤ _; rw [encRows_len]; omega, fun x hx => by
    obtain ⟨i, _, rfl⟩ := List.mem_map.1 (show x ∈ encRows seed r c [] [] from hx)
    rw [encRow_len]; omega⟩
  have hSet := bloom_Set0 (seed := hrow seed 0) (h := hs) (n := b) (by omega)
  rw [hok] at hR1 hR2
  rw [emptyB, hok, enc_empty] at hE
  rw [encRad_nil] at hR1 hR2 hE hf
  obtain ⟨rr, hrr⟩ : ∃ rr, List.replicate r (List.replicate c nC) = rr := ⟨_, rfl⟩
  have hrl : rr.length = r := by rw [← hrr]; simp
  have hr0 : 0 < rr.length := by omega
  have hr1 : rr[0].length = c := by subst hrr; simp
  obtain ⟨bb, hbb⟩ : ∃ bb, List.replicate b false = bb := ⟨_, rfl⟩
  have hbl : bb.length = b := by rw [← hbb]; simp
  have hrx : rr[0]? = some rr[0] := List.getElem?_eq_getElem hr0
  simp only [newRad, cF, hrr, hbb] at hN hR1 hR2 hE hf hSet
  simp only [cRad, cRws, cRw, Bool.not_false, Bool.and_true] at hN hR1 hR2 hE hf
  have c1 : ¬ (b : Int) < 1 := by omega
  have c2 : ¬ 256 < (b : Int) := by omega
  have c3 : ¬ hs < 1 := by omega
  have c4 : ¬ 7 < hs := by omega
  have c5 : ¬ (r : Int) < 1 := by omega
  have c6 : ¬ 7 < (r : Int) := by omega
  have c7 : ¬ (c : Int) < 1 := by omega
  have c8 : ¬ 256 < (c : Int) := by omega
  simp -implicitDefEqProofs [Try.f9, hN, hA, hR1, hR2, hE, hf, hSet, hrl, hrx, hr1, hbl, c1, c2, c3, c4, c5, c6, c7, c8, vmove, isNil, vstore, cellsOf?, Ent.wrO, wr]
end Go.Proofs.YthhbkihhllflfaaF
end

section
/- The law: a packet more, a flow less. -/
set_option maxRecDepth 8192
set_option maxHeartbeats 1000000
namespace Go.Proofs.YthhbkihhllflfaaF
open Go Go.Proofs.Vm

theorem rd_Place_no {R : Rad} {key : ByteArray} {i : Int} (hs : Seeds R) (hl : Lens R) (h : rOk R = false ∨ key.size ≠ 37 ∨ i < 0 ∨ (R.rows.length : Int) ≤ i) : TV.pu 28 [.agg (cRad R), cS key, cI .i64 i] = some (cI .i64 0) := by
  refine run28 (by simp) ?_
  have hR := rd_Right hs hl
  simp only [cRad, cRws, cRw] at hR
  cases hok : rOk R with
  | false =>
    rw [hok] at hR
    simp -implicitDefEqProofs [Try.f28, cRad, cRws, cRw, vmove, isNil, hR]
  | true =>
  rw [hok] at hR
  by_cases c1 : i < 0
  · simp -implicitDefEqProofs [Try.f28, cRad, cRws, cRw, vmove, isNil, hR, c1]
  by_cases c2 : (R.rows.length : Int) ≤ i
  · simp -implicitDefEqProofs [Try.f28, cRad, cRws, cRw, vmove, isNil, hR, c1, c2]
  have hk : ¬ (key.size : Int) = 37 := by
    rcases h with h | h | h | h
    · rw [hok] at h; cases h
    · omega
    · omega
    · omega
  simp -implicitDefEqProofs [Try.f28, cRad, cRws, cRw, vmove, isNil, hR, c1, c2, hk]
theorem updA_lens7 {R : Rad} {f : RCl → RCl} {key : ByteArray} {bits : List Bool} (h : Lens7 R) : Lens7 { R with bits := bits, rows := updA f R.s key R.rows } := by
  refine ⟨by show 24 * (updA f R.s key R.rows).length ≤ _; rw [updA_len]; exact h.1, fun x hx => ?_⟩
  obtain ⟨j, hj, rfl⟩ := List.getElem_of_mem (show x ∈ updA f R.s key R.rows from hx)
  rw [updA_at, updR_len]
  exact h.2 _ (List.getElem_mem _)
theorem zRad_lens : Lens zRad := ⟨by simp [zRad], by simp [zRad], by simp [zRad]⟩
theorem zRad_lens7 : Lens7 zRad := ⟨by simp [zRad], by simp [zRad]⟩
/-- What a packet makes of it, by both. -/
theorem add_both {R : Rad} {key : ByteArray} {n : Int} (hs : Seeds R) (hl : Lens R) (h7 : Lens7 R) : ∃ R' e, TV.pu 25 [.agg (cRad R), cS key, cI .i64 n] = some (.tup [(true, cRad R'), (false, [.v (.int .i64 e)])]) ∧ TV.pu 27 [.agg (cRad R), cS key, cI .i64 n] = some (.tup [(true, cRad R'), (false, [.v (.int .i64 e)])]) ∧ Lens R' ∧ Lens7 R' := by
  by_cases h : rOk R = false ∨ key.size ≠ 37 ∨ fitB n = false
  · exact ⟨zRad, 1, rd_Add_arg hs hl h, rr_Add_arg hs hl h, zRad_lens, zRad_lens7⟩
  · have hok : rOk R = true := by cases e : rOk R with | true => rfl | false => exact absurd (.inl e) h
    have hk : key.size = 37 := by
      by_cases e : key.size = 37
      · exact e
      · exact absurd (.inr (.inl e)) h
    have hf : fitB n = true := by cases e : fitB n with | true => rfl | false => exact absurd (.inr (.inr e)) h
    have h1 := rd_Add' hs hl hok hk hf
    have h2 := rr_Add hs hl hok hk hf
    by_cases g : rOk (addRad R key n) = true
    · rw [if_pos g] at h1 h2
      exact ⟨_, 0, h1, h2, addRad_lens hl, updA_lens7 h7⟩
    · rw [if_neg g] at h1 h2
      exact ⟨_, 5, h1, h2, zRad_lens, zRad_lens7⟩
theorem law_turns {R : Rad} {k : ByteArray} {n i : Int} (hs : Seeds R) (hl : Lens R) (h7 : Lens7 R) (hi0 : -9223372036854775808 ≤ i) (hi1 : i < 9223372036854775808) :
    TV.pu 7 [.agg (cRad R), cS k, cI .i64 n, cI .i64 i] = some (cB true) := by
  refine run7 (by simp) ?_
  have hA := law_awake
  have hrf := law_ref h7
  have hsm := rr_Small hl
  cases hsmall : smallB R with
  | false =>
    rw [hsmall] at hsm
    simp only [cRad, cRws, cRw] at hrf hsm
    simp -implicitDefEqProofs [Try.f7, cRad, cRws, cRw, hrf, hsm, hA, vmove, isNil, vstore, cellsOf?, Ent.wrO, wr]
  | true =>
  rw [hsmall] at hsm
  by_cases hk : k.size ≤ 100
  rotate_left
  · have hk' : 100 < (k.size : Int) := by omega
    simp only [cRad, cRws, cRw] at hrf hsm
    simp -implicitDefEqProofs [Try.f7, cRad, cRws, cRw, hrf, hsm, hk', hA, vmove, isNil, vstore, cellsOf?, Ent.wrO, wr]
  have hk' : ¬ 100 < (k.size : Int) := by omega
  obtain ⟨R', e, hA1, hA2, hl', h7'⟩ := add_both (R := R) (key := k) (n := n) hs hl h7
  have hrf' := law_ref h7'
  have hEq := rr_Equal (A := R') (B := R') hl'
  rw [eqRad_iff.2 rfl] at hEq
  have hRt := rr_Right hs hl
  have hRd := rd_Right hs hl
  have hEr := rr_Empty hl
  have hEd := rd_Empty hs hl
  have hEqR := rr_Equal (A := R) (B := R) hl
  rw [eqRad_iff.2 rfl] at hEqR
  unfold emptyB at hEd
  by_cases hb : rOk R = false ∨ k.size ≠ 37
  · have hRm := rd_Remove_no hs hl hb
    have hPl := rd_Place_no (i := i) hs hl (hb.imp_right .inl)
    cases hok : rOk R with
    | false =>
      rw [hok] at hRt hRd hEd
      rw [Bool.false_and] at hEd
      simp only [cRad, cRws, cRw] at hrf hsm hA1 hA2 hrf' hEq hRt hRd hEr hEd hEqR hRm hPl
      simp -implicitDefEqProofs [Try.f7, cRad, cRws, cRw, hrf, hsm, hk', hA, hA1, hA2, hrf', hEq, hRt, hRd, hEd, hEqR, hRm, hPl, bin_bne ub4, vmove, isNil, vstore, cellsOf?, Ent.wrO, wr]
    | true =>
      have h37 : ¬ (k.size : Int) = 37 := by rcases hb with h | h; (rw [hok] at h; cases h); omega
      rw [hok] at hRt hRd hEd
      rw [Bool.true_and] at hEd
      obtain ⟨em, hem⟩ : ∃ em, (!R.rows.any (·.any fullC)) = em := ⟨_, rfl⟩
      rw [hem] at hEr hEd
      simp only [cRad, cRws, cRw] at hrf hsm hA1 hA2 hrf' hEq hRt hRd hEr hEd hEqR hRm hPl
      simp -implicitDefEqProofs [Try.f7, cRad, cRws, cRw, hrf, hsm, hk', h37, hA, hA1, hA2, hrf', hEq, hRt, hRd, hEr, hEd, hEqR, hRm, hPl, bin_bne ub4, vmove, isNil, vstore, cellsOf?, Ent.wrO, wr]
  have hok : rOk R = true := by cases e : rOk R with | true => rfl | false => exact absurd (.inl e) hb
  have h37n : k.size = 37 := by
    by_cases e : k.size = 37
    · exact e
    · exact absurd (.inr e) hb
  have h37 : (k.size : Int) = 37 := by omega
  have hRm : TV.pu 26 [.agg (cRad R), cS k] = some (.agg (cRad (remR R k))) := rd_Remove hs hl hok h37n
  have hRm2 := rr_Remove hs hl hok h37n
  have hrf3 := law_ref (R := remR R k) (updA_lens7 h7)
  have hEq3 := rr_Equal (A := remR R k) (B := remR R k) (remR_lens hl)
  rw [eqRad_iff.2 rfl] at hEq3
  obtain ⟨R3, h3⟩ : ∃ R3, remR R k = R3 := ⟨_, rfl⟩
  rw [h3] at hRm hRm2 hrf3 hEq3
  rw [hok] at hRt hRd hEd
  rw [Bool.true_and] at hEd
  obtain ⟨em, hem⟩ : ∃ em, (!R.rows.any (·.any fullC)) = em := ⟨_, rfl⟩
  rw [hem] at hEr hEd
  by_cases c1 : i < 0
  · have hPl := rd_Place_no (R := R) (key := k) (i := i) hs hl (.inr (.inr (.inl c1)))
    have c1' : ¬ 0 ≤ i := by omega
    simp only [cRad, cRws, cRw] at hrf hsm hA1 hA2 hrf' hEq hRt hRd hEr hEd hEqR hRm hPl hRm2 hrf3 hEq3
    simp -implicitDefEqProofs [Try.f7, cRad, cRws, cRw, hrf, hsm, h37, hA, hA1, hA2, hrf', hEq, hRt, hRd, hEr, hEd, hRm, hPl, hRm2, hrf3, hEq3, c1', bin_bne ub4, vmove, isNil, vstore, cellsOf?, Ent.wrO, wr]
  obtain ⟨i, rfl⟩ := Int.eq_ofNat_of_zero_le (show 0 ≤ i by omega)
  by_cases c2 : i < R.rows.length
  rotate_left
  · have hPl := rd_Place_no (R := R) (key := k) (i := i) hs hl (.inr (.inr (.inr (by omega))))
    have c2' : ¬ (i : Int) < (R.rows.length : Int) := by omega
    simp only [cRad, cRws, cRw] at hrf hsm hA1 hA2 hrf' hEq hRt hRd hEr hEd hEqR hRm hPl hRm2 hrf3 hEq3
    simp -implicitDefEqProofs [Try.f7, cRad, cRws, cRw, hrf, hsm, h37, hA, hA1, hA2, hrf', hEq, hRt, hRd, hEr, hEd, hRm, hPl, hRm2, hrf3, hEq3, c2', bin_bne ub4, vmove, isNil, vstore, cellsOf?, Ent.wrO, wr]
  have c2' : (i : Int) < (R.rows.length : Int) := by omega
  have hPl := rd_Place (R := R) (key := k) (i := i) hs hl hok c2 h37n
  have hPl2 := rr_Place (R := R) (key := k) (i := i) hs hl c2 (by omega)
  obtain ⟨pp, hpp⟩ : ∃ pp, rplc R k i R.rows[i].length = pp := ⟨_, rfl⟩
  rw [hpp] at hPl hPl2
  simp only [cRad, cRws, cRw] at hrf hsm hA1 hA2 hrf' hEq hRt hRd hEr hEd hEqR hRm hPl hPl2 hRm2 hrf3 hEq3
  simp -implicitDefEqProofs [Try.f7, cRad, cRws, cRw, hrf, hsm, h37, hA, hA1, hA2, hrf', hEq, hRt, hRd, hEr, hEd, hRm, hPl, hPl2, hRm2, hrf3, hEq3, c2', bin_bne ub4, vmove, isNil, vstore, cellsOf?, Ent.wrO, wr]
end Go.Proofs.YthhbkihhllflfaaF
end

section
/- The law: the first pure cell, and what is peeled. -/
set_option maxRecDepth 8192
set_option maxHeartbeats 1000000
namespace Go.Proofs.YthhbkihhllflfaaF
open Go Go.Proofs.Vm

theorem peelN_keeps {n : Nat} : ∀ {R : Rad} {out : List ByteArray}, Lens R → Lens7 R → Lens (peelN n R out).2 ∧ Lens7 (peelN n R out).2 := by
  induction n with
  | zero => intro R out h h7; exact ⟨h, h7⟩
  | succ n ih =>
    intro R out h h7
    rw [peelN]
    cases hp : pureOf R out with
    | none => exact ⟨h, h7⟩
    | some k => exact ih (remR_lens h) (updA_lens7 h7)
theorem rd_Peel_no {R : Rad} (hs : Seeds R) (hl : Lens R) (hok : rOk R = false) : TV.pu 15 [.agg (cRad R)] = some (peelA ([], R)) := by
  refine run15 (by simp) ?_
  have hP := rd_Pure_no (told := []) hs hl hok
  simp only [cRad, cRws, cRw, cSs, List.map_nil, pureA] at hP
  simp -implicitDefEqProofs [Try.f15, cRad, cRws, cRw, vmove, isNil]
  refine wpL_ind (fun k s' => k = 1 ∧ s' = _) ?_ 1 _ ⟨rfl, rfl⟩
  rintro k st ⟨rfl, rfl⟩
  have hso := sort_strs (H := [.opn [(cRad R).map .c] false, .clo [] false, .opn [[.c (.v (.int .u64 0)), .c (.v (.int .u64 0)), .c (.v (.int .i64 0)), .sl 3 0 0 0, .sl 4 0 0 0]] false, .clo [] false, .clo [] false, .clo [] false]) (id := 5) (l := []) rfl (by decide)
  simp only [cRad, cRws, cRw, List.map_cons, List.map_nil, List.length_nil, ssort_nil] at hso
  simp -implicitDefEqProofs [vmove, isNil, hP, hso, vstore, cellsOf?, Ent.wrO, wr]
  try simp [qa, comps, peelA, cSs, cRad, cRws, cRw]
theorem peelN_len {n : Nat} : ∀ {R : Rad} {out : List ByteArray}, (peelN n R out).1.length ≤ out.length + n := by
  induction n with
  | zero => intro R out; show (ssort out).length ≤ _; rw [ssort_len]; omega
  | succ n ih =>
    intro R out
    rw [peelN]
    cases hp : pureOf R out with
    | none => show (ssort out).length ≤ _; rw [ssort_len]; omega
    | some k =>
      have := ih (R := remR R k) (out := out ++ [k])
      rw [List.length_append] at this
      simp only [List.length_cons, List.length_nil] at this
      show (peelN n (remR R k) (out ++ [k])).1.length ≤ _
      omega
theorem law_peels {R : Rad} {told : List ByteArray} (hs : Seeds R) (hl : Lens R) (h7 : Lens7 R) (ht : told.length < 9223372036854775807) :
    TV.pu 3 [.agg (cRad R), .one (cSs told)] = some (cB true) := by
  refine run3 (by simp) ?_
  have hA := law_awake
  have hrf := law_ref h7
  have hsm := rr_Small hl
  cases hsmall : smallB R with
  | false =>
    rw [hsmall] at hsm
    simp only [cRad, cRws, cRw] at hrf hsm
    simp -implicitDefEqProofs [Try.f3, cRad, cRws, cRw, hrf, hsm, hA, vmove, isNil, vstore, cellsOf?, Ent.wrO, wr]
  | true =>
  rw [hsmall] at hsm
  have hsh : TV.pu 12 [.one (cSs told), cI .i64 40] = _ := rr_Short (l := told) (most := 40) ht
  cases hsho : shortB told 40 with
  | false =>
    rw [hsho] at hsh
    simp only [cRad, cRws, cRw, cSs] at hrf hsm hsh
    simp -implicitDefEqProofs [Try.f3, cRad, cRws, cRw, cSs, hrf, hsm, hsh, hA, vmove, isNil, vstore, cellsOf?, Ent.wrO, wr]
  | true =>
  rw [hsho] at hsh
  have hRt := rr_Right hs hl
  cases hok : rOk R with
  | false =>
    rw [hok] at hRt
    have hP := rd_Pure_no (told := told) hs hl hok
    have hPe := rd_Peel_no hs hl hok
    have hEq := rr_Equal (A := R) (B := R) hl
    rw [eqRad_iff.2 rfl] at hEq
    have hse : sEq ByteArray.empty ByteArray.empty = true := sEq_iff.2 rfl
    simp only [cRad, cRws, cRw, cSs, peelA, pureA, List.map_nil] at hrf hsm hsh hRt hP hPe hEq
    simp -implicitDefEqProofs [Try.f3, cRad, cRws, cRw, cSs, hrf, hsm, hsh, hRt, hP, hPe, hEq, hA, vmove, isNil, vstore, cellsOf?, Ent.wrO, wr]
  | true =>
  rw [hok] at hRt
  have hP := rd_Pure (told := told) hs hl hok ht
  have hP2 := rr_Pure (told := told) hs hl hok ht
  have hPe := rd_Peel hs hl hok
  have hPe2 := rr_Peel hs hl hok
  have hke := peelN_keeps (n := posN R) (out := []) hl h7
  obtain ⟨m, R', hm⟩ : ∃ m R', peel R = (m, R') := ⟨_, _, rfl⟩
  rw [show peelN (posN R) R [] = (m, R') from hm] at hke
  have hml : m.length < 9223372036854775807 := by
    have h1 := peelN_len (n := posN R) (R := R) (out := [])
    rw [show peelN (posN R) R [] = (m, R') from hm] at h1
    have h2 := posN_le hok
    simp only [List.length_nil] at h1
    omega
  rw [hm] at hPe hPe2
  have hrf' := law_ref hke.2
  have hEq := rr_Equal (A := R') (B := R') hke.1
  rw [eqRad_iff.2 rfl] at hEq
  have hSa := rr_Same (l := m) (m := m) hml
  rw [decide_eq_true rfl] at hSa
  cases hpu : pureOf R told with
  | none =>
    rw [hpu] at hP hP2
    simp only [cRad, cRws, cRw, cSs, peelA, pureA] at hrf hsm hsh hRt hP hP2 hPe hPe2 hrf' hEq hSa
    simp -implicitDefEqProofs [Try.f3, cRad, cRws, cRw, cSs, hrf, hsm, hsh, hRt, hP, hP2, hPe, hPe2, hrf', hEq, hSa, hA, bin_beq ub4, vmove, isNil, vstore, cellsOf?, Ent.wrO, wr]
  | some k =>
    rw [hpu] at hP hP2
    simp only [cRad, cRws, cRw, cSs, peelA, pureA] at hrf hsm hsh hRt hP hP2 hPe hPe2 hrf' hEq hSa
    simp -implicitDefEqProofs [Try.f3, cRad, cRws, cRw, cSs, hrf, hsm, hsh, hRt, hP, hP2, hPe, hPe2, hrf', hEq, hSa, hA, bin_beq ub4, vmove, isNil, vstore, cellsOf?, Ent.wrO, wr]
end Go.Proofs.YthhbkihhllflfaaF
end

section
/- The law: one flow alone. -/
set_option maxRecDepth 8192
set_option maxHeartbeats 1000000
namespace Go.Proofs.YthhbkihhllflfaaF
open Go Go.Proofs.Vm

def cSz (seed bits hs rows cols : Int) : List CV := [.v (.int .u64 seed), .v (.int .i64 bits), .v (.int .i64 hs), .v (.int .i64 rows), .v (.int .i64 cols)]
def cU16 (n : Int) : List CV := [.v (.int .u16 n)]
theorem law_alone {seed bits hs rows cols : Int} {k : ByteArray} {ns : List Int} (s0 : 0 ≤ seed) (s1 : seed < 18446744073709551616) (hk : k.size ≤ 140737488351232) (hns : ∀ n ∈ ns, 0 ≤ n ∧ n < 65536) (hl : ns.length < 4611686018427387904) :
    TV.pu 6 [.agg (cSz seed bits hs rows cols), cS k, .one (.arr (ns.map cU16))] = some (cB true) := by
  refine run6 (by simp) ?_
  have hA := law_awake
  by_cases hd : 1 ≤ bits ∧ bits ≤ 256 ∧ 1 ≤ hs ∧ hs ≤ 7 ∧ 1 ≤ rows ∧ rows ≤ 7 ∧ 1 ≤ cols ∧ cols ≤ 256
  rotate_left
  · have hN := rd_New_arg (seed := seed) s0 s1 hd
    simp only [cRad, zRad, cRws, cRw] at hN
    simp -implicitDefEqProofs [Try.f6, cSz, hN, hA, vmove, isNil, vstore, cellsOf?, Ent.wrO, wr]
  obtain ⟨b, rfl⟩ := Int.eq_ofNat_of_zero_le (show 0 ≤ bits by omega)
  obtain ⟨r, rfl⟩ := Int.eq_ofNat_of_zero_le (show 0 ≤ rows by omega)
  obtain ⟨c, rfl⟩ := Int.eq_ofNat_of_zero_le (show 0 ≤ cols by omega)
  have hdim : Dim hs b r c := by unfold Dim; omega
  have hN := rd_New (seed := seed) (hh := hs) (bits := b) (rows := r) (cols := c) s0 s1 (by omega)
  rw [← encRad_nil] at hN
  have hS := fun K L => encRad_seeds (s := seed) (h := hs) (bits := b) (rows := r) (cols := c) (K := K) (L := L) s0 s1
  have hLe := fun K L => encRad_lens (s := seed) (h := hs) (bits := b) (rows := r) (cols := c) (K := K) (L := L) hdim
  by_cases h37 : k.size = 37
  rotate_left
  · have h37' : ¬ (k.size : Int) = 37 := by omega
    simp only [cRad, cRws, cRw] at hN
    simp -implicitDefEqProofs [Try.f6, cSz, hN, hA, h37', vmove, isNil, vstore, cellsOf?, Ent.wrO, wr]
  have h37' : (k.size : Int) = 37 := by omega
  by_cases h60 : ns.length ≤ 60
  rotate_left
  · have h60' : 60 < (ns.length : Int) := by omega
    simp only [cRad, cRws, cRw] at hN
    simp -implicitDefEqProofs [Try.f6, cSz, hN, hA, h37', h60', vmove, isNil, vstore, cellsOf?, Ent.wrO, wr]
  have h60' : ¬ 60 < (ns.length : Int) := by omega
  by_cases h40 : c ≤ 40
  rotate_left
  · have h40' : 40 < (c : Int) := by omega
    simp only [cRad, cRws, cRw] at hN
    simp -implicitDefEqProofs [Try.f6, cSz, hN, hA, h37', h60', h40', vmove, isNil, vstore, cellsOf?, Ent.wrO, wr]
  have h40' : ¬ 40 < (c : Int) := by omega
  obtain ⟨R, hR⟩ : ∃ R, encRad seed hs b r c [] [] = R := ⟨_, rfl⟩
  rw [hR] at hN
  simp only [cRad, cRws, cRw] at hN
  simp -implicitDefEqProofs [Try.f6, cSz, hN, h37', h60', h40', vmove, isNil, vstore, cellsOf?, Ent.wrO, wr]
  have hK : ∀ P : List Pkt, aK k P = [] ∨ aK k P = [k] := fun P => by unfold aK; split; exact .inl rfl; exact .inr rfl
  obtain ⟨P, hP⟩ : ∃ P : Nat → List Pkt, P = fun i => (ns.take i).map fun n => (k, n) := ⟨_, rfl⟩
  have hPk : ∀ i, ∀ x ∈ P i, x.1 = k := fun i x hx => by rw [hP] at hx; obtain ⟨y, _, rfl⟩ := List.mem_map.1 hx; rfl
  have hPb : ∀ i, ∀ x ∈ P i, 0 ≤ x.2 ∧ x.2 ≤ 1073741824 := fun i x hx => by
    rw [hP] at hx
    obtain ⟨y, hy, rfl⟩ := List.mem_map.1 hx
    have := hns y (List.mem_of_mem_take hy)
    exact ⟨this.1, by have := this.2; show y ≤ _; omega⟩
  have hPl : ∀ i, (P i).length ≤ 60 := fun i => by rw [hP]; simp; omega
  have hok : ∀ i, rOk (encRad seed hs b r c (aK k (P i)) (P i)) = true := fun i => encRad_ok hdim (by rcases hK (P i) with h | h <;> rw [h] <;> simp) (by have := hPl i; omega) (hPb i)
  have hok0 : ∀ i, rOk (encRad seed hs b r c [] (P i)) = true := fun i => encRad_ok hdim (by simp) (by have := hPl i; omega) (hPb i)
  have hP0 : P 0 = [] := by rw [hP]; rfl
  rw [← show aK k (P 0) = [] by rw [hP0]; rfl, show encRad seed hs b r c (aK k (P 0)) [] = encRad seed hs b r c (aK k (P 0)) (P 0) by rw [hP0]] at hR
  obtain ⟨I, hI⟩ : ∃ I : Nat → St → Prop, ∀ n s', I n s' ↔ (∃ e R i B0 L, s' = ⟨e, B0 :: .opn [(cRad R).map .c] false :: L⟩ ∧ e 1 = vS k ∧ e 2 = .one (.c (.arr (ns.map cU16))) ∧ e 7 = .one (.ptr ⟨1, 0, 0, 1⟩) ∧ e 45 = .one (.c (.arr (ns.map cU16))) ∧ e 46 = vI .i64 ns.length ∧ e 47 = vI .i64 (i : Nat) ∧ (i + n = ns.length) ∧ (encRad seed hs b r c (aK k (P i)) (P i) = R)) := ⟨_, fun _ _ => Iff.rfl⟩
  refine wpL_ind I ?_ ns.length _ ((hI _ _).2 ⟨_, R, 0, _, _, (by first | rfl | (simp [cRad, cRws, cRw]; done) | (simp [cRad, cRws, cRw]; rfl) | (simp [cRad, cRws, cRw]; and_intros <;> rfl)), by simp, by simp, by simp, by simp, by simp, by simp, by omega, hR⟩)
  clear hN hR
  intro n stI hstI
  obtain ⟨e, R, i, B0, L, rfl, e1, e2, e7, e45, e46, e47, hn, hRi⟩ := (hI _ _).1 hstI
  by_cases ci : i < ns.length
  · have w_i : IntKind.i64.wrap ((i : Int) + 1) = ((i + 1 : Nat) : Int) := by rw [w64_id (by omega) (by omega)]; omega
    have hb := hns _ (List.getElem_mem ci)
    have hsn : P (i + 1) = P i ++ [(k, ns[i])] := by rw [hP]; simp only; rw [List.take_add_one, List.getElem?_eq_getElem ci, Option.toList_some, List.map_append]; rfl
    have hA1 := rd_Add' (R := encRad seed hs b r c (aK k (P i)) (P i)) (key := k) (n := ns[i]) (hS _ _) (hLe _ _) (hok i) h37 (by unfold fitB; rw [decide_eq_true hb.1, decide_eq_true (show ns[i] ≤ 1099511627776 by omega)]; rfl)
    rw [add_alone hdim (hPk i), ← hsn, hok (i + 1), if_pos rfl, hRi] at hA1
    obtain ⟨R', hR'⟩ : ∃ R', encRad seed hs b r c (aK k (P (i + 1))) (P (i + 1)) = R' := ⟨_, rfl⟩
    rw [hR'] at hA1
    have hwr : IntKind.i64.wrap ns[i] = ns[i] := w64_id (by omega) (by omega)
    simp only [cRad, cRws, cRw] at hA1
    simp -implicitDefEqProofs [e1, e7, e45, e46, e47, ci, w_i, hA1, hwr, cU16, cRad, cRws, cRw, cv_eq, vmove, isNil, vstore, cellsOf?, Ent.wrO, wr]
    exact ⟨n - 1, by omega, (hI _ _).2 ⟨_, R', i + 1, _, _, (by first | rfl | (simp [cRad, cRws, cRw]; done) | (simp [cRad, cRws, cRw]; rfl) | (simp [cRad, cRws, cRw]; and_intros <;> rfl)), by simp [e1], by simp [e2], by simp [e7], by simp [e45], by simp [e46], by simp, by omega, hR'⟩⟩
  have hi : P i = P ns.length := by rw [hP]; simp only; rw [List.take_of_length_le (show ns.length ≤ i by omega), List.take_length]
  have ci' : ¬ (i : Int) < ns.length := by omega
  rw [hi] at hRi
  have okn := hok ns.length
  have hPe := rd_Peel (R := encRad seed hs b r c (aK k (P ns.length)) (P ns.length)) (hS _ _) (hLe _ _) okn
  have hE := rd_Empty (R := encRad seed hs b r c (aK k (P ns.length)) (P ns.length)) (hS _ _) (hLe _ _)
  rw [emptyB, okn] at hE
  by_cases h0 : ns.length = 0
  · have hPn : P ns.length = [] := by rw [h0, hP0]
    have hn0 : ns = [] := List.length_eq_zero_iff.1 h0
    have h0' : (ns.length : Int) = 0 := by omega
    rw [hPn] at hPe hE hRi
    simp only [aK, if_true] at hPe hE hRi
    rw [peel_none] at hPe
    rw [enc_empty] at hE
    rw [hRi] at hPe hE
    simp only [cRad, cRws, cRw, peelA, cSs, List.map_nil, Bool.not_false, Bool.and_true] at hPe hE
    subst hn0
    simp -implicitDefEqProofs [e2, e7, e45, e46, e47, hPe, hE, hA, cRad, cRws, cRw, vmove, isNil, vstore, cellsOf?, Ent.wrO, wr]
  have hPn : P ns.length ≠ [] := by rw [hP]; intro h; simp at h; exact h0 (by rw [h]; rfl)
  have haK : aK k (P ns.length) = [k] := by unfold aK; rw [if_neg hPn]
  have hkb : ∃ b, (k, b) ∈ P ns.length := by
    cases hc : P ns.length with
    | nil => exact absurd hc hPn
    | cons x t =>
      have hx : x ∈ P ns.length := by rw [hc]; exact List.mem_cons_self
      exact ⟨x.2, by rw [← hPk _ x hx]; exact List.mem_cons_self⟩
  have h0' : ¬ (ns.length : Int) = 0 := by omega
  have h0n : ¬ ns = [] := fun h => h0 (by rw [h]; rfl)
  rw [haK] at hPe hE hRi okn
  rw [peel_alone hdim h37 hkb] at hPe
  rw [enc_full hdim (by simp)] at hE
  have hE3 := rd_Empty (R := encRad seed hs b r c [] (P ns.length)) (hS _ _) (hLe _ _)
  rw [emptyB, hok0, enc_empty] at hE3
  have hRm := rd_Remove (R := encRad seed hs b r c [k] (P ns.length)) (key := k) (hS _ _) (hLe _ _) okn h37
  have hrm := encRad_rem (s := seed) (h := hs) (bits := b) (rows := r) (cols := c) (K := [k]) (K' := []) (L := P ns.length) (k := k) (.refl _)
  unfold remR at hrm
  rw [hrm] at hRm
  rw [hRi] at hPe hE hRm
  obtain ⟨R3, h3⟩ : ∃ R, encRad seed hs b r c [] (P ns.length) = R := ⟨_, rfl⟩
  rw [h3] at hPe hE3 hRm
  simp only [cRad, cRws, cRw, peelA, cSs, cStr, List.map_cons, List.map_nil, Bool.not_true, Bool.not_false, Bool.and_true, Bool.and_false] at hPe hE hE3 hRm
  simp -implicitDefEqProofs [e1, e2, e7, e46, e47, ci, h0n, hPe, hE, hE3, hRm, hA, cRad, cRws, cRw, vmove, isNil, vstore, cellsOf?, Ent.wrO, wr]
end Go.Proofs.YthhbkihhllflfaaF
end

section
/- A radar to which packets came. -/
set_option maxRecDepth 8192
set_option maxHeartbeats 1000000
namespace Go.Proofs.YthhbkihhllflfaaF
open Go Go.Proofs.Vm

def cPk (p : Pkt) : List CV := [.v (.string p.1), .v (.int .i64 p.2)]
def cPks (l : List Pkt) : CV := .arr (l.map cPk)
def fedStep (fs h : Int) (n : Nat) (st : List ByteArray × List Pkt × Bool) (p : Pkt) : List ByteArray × List Pkt × Bool :=
  if hasB fs h (bitsOf fs h n st.2.1) p.1 = true then (st.1, st.2.1 ++ [p], st.2.2 && st.1.any (sEq p.1)) else (st.1 ++ [p.1], st.2.1 ++ [p], st.2.2)
def fedS (fs h : Int) (n : Nat) (l : List Pkt) : List ByteArray × List Pkt × Bool := l.foldl (fedStep fs h n) ([], [], true)
theorem fedS_snoc (fs h : Int) (n : Nat) (l : List Pkt) (p : Pkt) : fedS fs h n (l ++ [p]) = fedStep fs h n (fedS fs h n l) p := by simp [fedS]
theorem list_rev {α : Type} {motive : List α → Prop} (h0 : motive []) (h1 : ∀ l x, motive l → motive (l ++ [x])) : ∀ l, motive l := by
  have key : ∀ n l, l.length = n → motive l := by
    intro n
    induction n with
    | zero => intro l hl; rw [List.length_eq_zero_iff.1 hl]; exact h0
    | succ n ih =>
      intro l hl
      have hne : l ≠ [] := by rintro rfl; simp at hl
      rw [← List.dropLast_concat_getLast hne]
      exact h1 _ _ (ih _ (by simp; omega))
  exact fun l => key _ l rfl
theorem fedS_L (fs h : Int) (n : Nat) : ∀ l, (fedS fs h n l).2.1 = l := by
  refine list_rev rfl fun l x ih => ?_
  rw [fedS_snoc]
  unfold fedStep
  split <;> simp only [ih]
theorem fedS_facts {fs h : Int} {n : Nat} (hn : 1 ≤ n) : ∀ l, (fedS fs h n l).1.Nodup ∧ (∀ k ∈ (fedS fs h n l).1, ∃ b, (k, b) ∈ l) ∧ (fedS fs h n l).1.length ≤ l.length ∧ ((fedS fs h n l).2.2 = true → ∀ x ∈ l, x.1 ∈ (fedS fs h n l).1) ∧ (l ≠ [] → 1 ≤ h → (fedS fs h n l).1 ≠ []) := by
  refine list_rev ?_ fun l x ih => ?_
  · simp [fedS]
  · obtain ⟨h1, h2, h3, h4, h5⟩ := ih
    have hL := fedS_L fs h n l
    rw [fedS_snoc]
    unfold fedStep
    by_cases c : hasB fs h (bitsOf fs h n (fedS fs h n l).2.1) x.1 = true
    · rw [if_pos c]
      refine ⟨h1, fun k hk => ?_, by simp; omega, fun ha y hy => ?_, fun _ hh => ?_⟩
      · obtain ⟨b, hb⟩ := h2 k hk
        exact ⟨b, List.mem_append_left _ hb⟩
      · simp only [Bool.and_eq_true] at ha
        rcases List.mem_append.1 hy with hy | hy
        · exact h4 ha.1 y hy
        · rw [List.mem_singleton.1 hy]
          obtain ⟨z, hz, e⟩ := List.any_eq_true.1 ha.2
          rw [sEq_iff.1 e]; exact hz
      · by_cases hl : l = []
        · subst hl
          rw [show (fedS fs h n []).2.1 = [] from rfl, hasB_nil hn hh] at c
          cases c
        · exact h5 hl hh
    · rw [if_neg c]
      have hnew : x.1 ∉ (fedS fs h n l).1 := fun hx => c (by rw [hL]; exact hasB_of hn (h2 _ hx))
      refine ⟨?_, fun k hk => ?_, by simp; omega, fun ha y hy => ?_, fun _ _ => by simp⟩
      · exact List.nodup_append.2 ⟨h1, List.nodup_cons.2 ⟨by simp, List.nodup_nil⟩, fun a ha b hb => by rw [List.mem_singleton.1 hb]; rintro rfl; exact hnew ha⟩
      · rcases List.mem_append.1 hk with hk | hk
        · obtain ⟨b, hb⟩ := h2 k hk
          exact ⟨b, List.mem_append_left _ hb⟩
        · rw [List.mem_singleton.1 hk]
          exact ⟨x.2, List.mem_append_right _ (List.mem_singleton.2 rfl)⟩
      · rcases List.mem_append.1 hy with hy | hy
        · exact List.mem_append_left _ (h4 ha y hy)
        · rw [List.mem_singleton.1 hy]; exact List.mem_append_right _ (List.mem_singleton.2 rfl)
def goodPk (p : Pkt) : Bool := decide (p.1.size = 37) && decide (0 ≤ p.2) && decide (p.2 ≤ 1073741824)
theorem goodPk_iff {p : Pkt} : goodPk p = true ↔ p.1.size = 37 ∧ 0 ≤ p.2 ∧ p.2 ≤ 1073741824 := by unfold goodPk; simp [and_assoc]
def fedA (R : Rad) (keys : List ByteArray) (all ok : Bool) : CA := .tup [(true, cRad R), (false, [cSs keys]), (false, [.v (.bool all)]), (false, [.v (.bool ok)])]
theorem law_fed {seed bits hs rows cols : Int} {l : List Pkt} (s0 : 0 ≤ seed) (s1 : seed < 18446744073709551616) (hl : l.length < 4611686018427387904) :
    (¬ ((1 ≤ bits ∧ bits ≤ 256 ∧ 1 ≤ hs ∧ hs ≤ 7 ∧ 1 ≤ rows ∧ rows ≤ 7 ∧ 1 ≤ cols ∧ cols ≤ 40) ∧ l.length ≤ 60 ∧ ∀ p ∈ l, goodPk p = true) → ∃ R, TV.pu 21 [.agg (cSz seed bits hs rows cols), .one (cPks l)] = some (fedA R [] false false)) ∧
    ((1 ≤ bits ∧ bits ≤ 256 ∧ 1 ≤ hs ∧ hs ≤ 7 ∧ 1 ≤ rows ∧ rows ≤ 7 ∧ 1 ≤ cols ∧ cols ≤ 40) ∧ l.length ≤ 60 ∧ (∀ p ∈ l, goodPk p = true) → TV.pu 21 [.agg (cSz seed bits hs rows cols), .one (cPks l)] = some (fedA (encRad seed hs bits.toNat rows.toNat cols.toNat (fedS (hrow seed 0) hs bits.toNat l).1 l) (ssort (fedS (hrow seed 0) hs bits.toNat l).1) (fedS (hrow seed 0) hs bits.toNat l).2.2 true)) := by
  suffices h : ∃ R keys all ok, TV.pu 21 [.agg (cSz seed bits hs rows cols), .one (cPks l)] = some (fedA R keys all ok) ∧
      ((¬ ((1 ≤ bits ∧ bits ≤ 256 ∧ 1 ≤ hs ∧ hs ≤ 7 ∧ 1 ≤ rows ∧ rows ≤ 7 ∧ 1 ≤ cols ∧ cols ≤ 40) ∧ l.length ≤ 60 ∧ ∀ p ∈ l, goodPk p = true) ∧ keys = [] ∧ all = false ∧ ok = false) ∨
      ((1 ≤ bits ∧ bits ≤ 256 ∧ 1 ≤ hs ∧ hs ≤ 7 ∧ 1 ≤ rows ∧ rows ≤ 7 ∧ 1 ≤ cols ∧ cols ≤ 40) ∧ l.length ≤ 60 ∧ (∀ p ∈ l, goodPk p = true)) ∧ R = encRad seed hs bits.toNat rows.toNat cols.toNat (fedS (hrow seed 0) hs bits.toNat l).1 l ∧ keys = ssort (fedS (hrow seed 0) hs bits.toNat l).1 ∧ all = (fedS (hrow seed 0) hs bits.toNat l).2.2 ∧ ok = true) by
    obtain ⟨R, keys, all, ok, h1, ⟨h2, rfl, rfl, rfl⟩ | ⟨h2, rfl, rfl, rfl, rfl⟩⟩ := h
    · exact ⟨fun _ => ⟨R, h1⟩, fun h => absurd h h2⟩
    · exact ⟨fun h => absurd h2 h, fun _ => h1⟩
  by_cases hd : 1 ≤ bits ∧ bits ≤ 256 ∧ 1 ≤ hs ∧ hs ≤ 7 ∧ 1 ≤ rows ∧ rows ≤ 7 ∧ 1 ≤ cols ∧ cols ≤ 256
  rotate_left
  · have hN := rd_New_arg (seed := seed) s0 s1 hd
    refine ⟨zRad, [], false, false, run21 (by simp) ?_, .inl ⟨fun h => hd (by omega), rfl, rfl, rfl⟩⟩
    simp only [cRad, zRad, cRws, cRw] at hN
    simp -implicitDefEqProofs [Try.f21, cSz, cPks, hN, vmove, isNil, vstore, cellsOf?, Ent.wrO, wr]
    try simp [qa, comps, fedA, cSs, cRad, zRad, cRws, cRw]
  obtain ⟨b, rfl⟩ := Int.eq_ofNat_of_zero_le (show 0 ≤ bits by omega)
  obtain ⟨r, rfl⟩ := Int.eq_ofNat_of_zero_le (show 0 ≤ rows by omega)
  obtain ⟨c, rfl⟩ := Int.eq_ofNat_of_zero_le (show 0 ≤ cols by omega)
  have hdim : Dim hs b r c := by unfold Dim; omega
  have hN := rd_New (seed := seed) (hh := hs) (bits := b) (rows := r) (cols := c) s0 s1 (by omega)
  rw [← encRad_nil] at hN
  have hS := fun K L => encRad_seeds (s := seed) (h := hs) (bits := b) (rows := r) (cols := c) (K := K) (L := L) s0 s1
  have hLe := fun K L => encRad_lens (s := seed) (h := hs) (bits := b) (rows := r) (cols := c) (K := K) (L := L) hdim
  simp only [Int.toNat_natCast]
  by_cases h60 : l.length ≤ 60
  rotate_left
  · have h60' : 60 < (l.length : Int) := by omega
    refine ⟨encRad seed hs b r c [] [], [], false, false, run21 (by simp) ?_, .inl ⟨fun h => h60 h.2.1, rfl, rfl, rfl⟩⟩
    simp only [cRad, cRws, cRw] at hN
    simp -implicitDefEqProofs [Try.f21, cSz, cPks, hN, h60', vmove, isNil, vstore, cellsOf?, Ent.wrO, wr]
    try simp [qa, comps, fedA, cSs, cRad, cRws, cRw]
  have h60' : ¬ 60 < (l.length : Int) := by omega
  by_cases h40 : c ≤ 40
  rotate_left
  · have h40' : 40 < (c : Int) := by omega
    refine ⟨encRad seed hs b r c [] [], [], false, false, run21 (by simp) ?_, .inl ⟨fun h => h40 (by omega), rfl, rfl, rfl⟩⟩
    simp only [cRad, cRws, cRw] at hN
    simp -implicitDefEqProofs [Try.f21, cSz, cPks, hN, h60', h40', vmove, isNil, vstore, cellsOf?, Ent.wrO, wr]
    try simp [qa, comps, fedA, cSs, cRad, cRws, cRw]
  have h40' : ¬ 40 < (c : Int) := by omega
  have h60n : ∀ i, (l.take i).length ≤ 60 := fun i => by simp; omega
  obtain ⟨S, hSd⟩ : ∃ S : Nat → List ByteArray × List Pkt × Bool, S = fun i => fedS (hrow seed 0) hs b (l.take i) := ⟨_, rfl⟩
  have hSn : ∀ i (h : i < l.length), S (i + 1) = fedStep (hrow seed 0) hs b (S i) l[i] := fun i h => by
    rw [hSd]; simp only
    rw [List.take_add_one, List.getElem?_eq_getElem h, Option.toList_some, fedS_snoc]
  have hSL : ∀ i, (S i).2.1 = l.take i := fun i => by rw [hSd]; exact fedS_L ..
  have hSf := fun i => fedS_facts (fs := hrow seed 0) (h := hs) (n := b) (by omega) (l.take i)
  have hS0 : S 0 = ([], [], true) := by rw [hSd]; rfl
  have hSe : ∀ i, fedS (hrow seed 0) hs b (l.take i) = S i := fun i => by rw [hSd]
  simp only [hSe] at hSf
  obtain ⟨j0, hj0⟩ : ∃ j0, j0 = l.findIdx (fun p => !goodPk p) := ⟨_, rfl⟩
  have hgood : ∀ i (h : i < l.length), i < j0 → goodPk l[i] = true := fun i h hi => by
    have := List.not_of_lt_findIdx (p := fun p => !goodPk p) (xs := l) (i := i) (by omega)
    simpa using this
  have hbad : ∀ h : j0 < l.length, goodPk l[j0] = false := fun h => by
    have h' : l.findIdx (fun p => !goodPk p) < l.length := by omega
    have := List.findIdx_getElem (p := fun p => !goodPk p) (xs := l) (w := h')
    simp only [← hj0] at this
    simpa using this
  have hjle : j0 ≤ l.length := by rw [hj0]; exact List.findIdx_le_length
  have hok : ∀ i, i ≤ j0 → rOk (encRad seed hs b r c (S i).1 (l.take i)) = true := fun i hi => encRad_ok hdim (by have := (hSf i).2.2.1; have := h60n i; omega) (by have := h60n i; omega) fun x hx => by
    obtain ⟨q, hq, rfl⟩ := List.getElem_of_mem hx
    rw [List.length_take] at hq
    rw [List.getElem_take]
    exact ((goodPk_iff).1 (hgood q (by omega) (by omega))).2
  obtain ⟨res, hres⟩ : ∃ res : Rad × List ByteArray × Bool × Bool, res = if j0 < l.length then (encRad seed hs b r c (S j0).1 (l.take j0), [], false, false) else (encRad seed hs b r c (S l.length).1 l, ssort (S l.length).1, (S l.length).2.2, true) := ⟨_, rfl⟩
  have hSl : S l.length = fedS (hrow seed 0) hs b l := by rw [hSd]; simp only [List.take_length]
  refine ⟨res.1, res.2.1, res.2.2.1, res.2.2.2, run21 (by simp) ?_, ?_⟩
  rotate_left
  · by_cases hj : j0 < l.length
    · rw [if_pos hj] at hres
      subst hres
      refine .inl ⟨fun h => ?_, rfl, rfl, rfl⟩
      have h1 := hbad hj
      rw [h.2.2 _ (List.getElem_mem hj)] at h1
      cases h1
    · rw [if_neg hj] at hres
      subst hres
      refine .inr ⟨⟨by omega, h60, fun p hp => ?_⟩, ?_, ?_, ?_, rfl⟩
      · obtain ⟨q, hq, rfl⟩ := List.getElem_of_mem hp
        exact hgood q hq (by omega)
      · rw [← hSl]
      · rw [← hSl]
      · rw [← hSl]
  obtain ⟨R, hR⟩ : ∃ R, encRad seed hs b r c [] [] = R := ⟨_, rfl⟩
  rw [hR] at hN
  have hR : encRad seed hs b r c (S 0).1 (l.take 0) = R := by rw [hS0]; exact hR
  simp only [cRad, cRws, cRw] at hN
  simp -implicitDefEqProofs [Try.f21, cSz, cPks, hN, h60', h40', vmove, isNil, vstore, cellsOf?, Ent.wrO, wr]
  obtain ⟨I, hI⟩ : ∃ I : Nat → St → Prop, ∀ n s', I n s' ↔ (∃ e R i B0 E2 E3 E4 L, s' = ⟨e, B0 :: .opn [[.c (.v (.int .u64 0)), .c (.v (.int .u64 0)), .c (.v (.int .i64 0)), .sl 2 0 0 0, .sl 3 0 0 0]] false :: E2 :: E3 :: E4 :: .opn [(cRad R).map .c] false :: L⟩ ∧ e 1 = .one (.c (.arr (l.map cPk))) ∧ e 4 = .one (.ptr ⟨1, 0, 0, 1⟩) ∧ e 8 = .one (.ptr ⟨5, 0, 0, 1⟩) ∧ e 11 = vB (S i).2.2 ∧ e 41 = .one (.c (.arr (l.map cPk))) ∧ e 42 = vI .i64 l.length ∧ e 43 = vI .i64 (i : Nat) ∧ (e 10 = .one (.c (cSs (ssort (S i).1))) ∨ e 10 = .one (.sl 8 0 0 0) ∧ i = 0 ∧ ∃ E6 E7 b' L', L = E6 :: E7 :: .clo [] b' :: L') ∧ (i + n = l.length) ∧ (i ≤ j0) ∧ (encRad seed hs b r c (S i).1 (l.take i) = R)) := ⟨_, fun _ _ => Iff.rfl⟩
  refine wpL_ind I ?_ l.length _ ((hI _ _).2 ⟨_, R, 0, _, _, _, _, _, (by first | rfl | (simp [cRad, cRws, cRw, hS0]; done) | (simp [cRad, cRws, cRw, hS0]; rfl) | (simp [cRad, cRws, cRw, hS0]; and_intros <;> rfl)), by simp, by simp, by simp, by simp [hS0], by simp, by simp, by simp, .inr ⟨by simp, rfl, _, _, _, _, rfl⟩, by omega, by omega, hR⟩)
  clear hN hR
  intro n stI hstI
  obtain ⟨e, R, i, B0, E2, E3, E4, L, rfl, e1, e4, e8, e11, e41, e42, e43, e10, hn, hij, hR⟩ := (hI _ _).1 hstI
  by_cases ci : i < l.length
  rotate_left
  · have ci' : ¬ (i : Int) < l.length := by omega
    have hil : i = l.length := by omega
    subst hil
    rw [List.take_length] at hR
    rw [if_neg (by omega)] at hres
    subst hres hR
    rcases e10 with e10 | ⟨e10, h0, E6, E7, b', L', rfl⟩
    · simp -implicitDefEqProofs [e4, e8, e10, e11, e42, e43, ci', cRad, cRws, cRw, cSs, vmove, isNil, vstore, cellsOf?, Ent.wrO, wr]
      simp [qa, comps, fedA, cSs, cRad, cRws, cRw]
    · rw [h0, hS0, ssort_nil]
      simp -implicitDefEqProofs [e4, e8, e10, e11, e42, e43, ci', cRad, cRws, cRw, vmove, isNil, vstore, cellsOf?, Ent.wrO, wr]
      simp [qa, comps, fedA, cSs, cRad, cRws, cRw, h0, hS0]
  have w_i : IntKind.i64.wrap ((i : Int) + 1) = ((i + 1 : Nat) : Int) := by rw [w64_id (by omega) (by omega)]; omega
  have hrok := hok i hij
  obtain ⟨y, hy⟩ : ∃ y, l[i] = y := ⟨_, rfl⟩
  obtain ⟨k, bb⟩ := y
  have hcl : cPk l[i] = [.v (.string k), .v (.int .i64 bb)] := by rw [hy]; rfl
  by_cases hj : i = j0
  · rw [if_pos (by omega)] at hres
    subst hj
    rw [hR] at hres
    subst hres
    have hb := hbad ci
    rw [hy] at hb
    by_cases g1 : k.size = 37
    rotate_left
    · have g1' : ¬ (k.size : Int) = 37 := by omega
      simp -implicitDefEqProofs [e4, e8, e41, e42, e43, ci, hcl, g1', cRad, cRws, cRw, vmove, isNil, vstore, cellsOf?, Ent.wrO, wr]
      simp [qa, comps, fedA, cSs, cRad, cRws, cRw]
    have g1' : (k.size : Int) = 37 := by omega
    by_cases g2 : bb < 0
    · simp -implicitDefEqProofs [e4, e8, e41, e42, e43, ci, hcl, g1', g2, cRad, cRws, cRw, vmove, isNil, vstore, cellsOf?, Ent.wrO, wr]
      simp [qa, comps, fedA, cSs, cRad, cRws, cRw]
    have g3 : 1073741824 < bb := by
      by_cases g3 : bb ≤ 1073741824
      · rw [goodPk_iff.2 ⟨g1, by omega, g3⟩] at hb; cases hb
      · omega
    simp -implicitDefEqProofs [e4, e8, e41, e42, e43, ci, hcl, g1', g2, g3, cRad, cRws, cRw, vmove, isNil, vstore, cellsOf?, Ent.wrO, wr]
    simp [qa, comps, fedA, cSs, cRad, cRws, cRw]
  have hg := hgood i ci (by omega)
  rw [hy] at hg
  obtain ⟨g1, g2, g3⟩ := goodPk_iff.1 hg
  dsimp only at g1 g2 g3
  have g1' : (k.size : Int) = 37 := by omega
  have g2' : ¬ bb < 0 := by omega
  have g3' : ¬ 1073741824 < bb := by omega
  have hfb : R.fs = hrow seed 0 ∧ R.h = hs ∧ R.bits = bitsOf (hrow seed 0) hs b (l.take i) := by subst hR; exact ⟨rfl, rfl, rfl⟩
  have hsR : Seeds R := hR ▸ hS _ _
  have hH := bloom_Has (seed := R.fs) (h := R.h) (bits := R.bits) (key := k) hsR.2.2.1 hsR.2.2.2 (by omega)
  have hfo : fOk R.h R.bits = true := (rOk_facts (hR ▸ hrok)).1
  have hA1 := rd_Add' (R := encRad seed hs b r c (S i).1 (l.take i)) (key := k) (n := bb) (hS _ _) (hLe _ _) hrok g1 (by unfold fitB; rw [decide_eq_true g2, decide_eq_true (show bb ≤ 1099511627776 by omega)]; rfl)
  have hadd := encRad_add (s := seed) (h := hs) (bits := b) (rows := r) (cols := c) (K := (S i).1) (L := l.take i) (k := k) (b := bb) (by omega)
  have htk : l.take i ++ [(k, bb)] = l.take (i + 1) := by rw [List.take_add_one, List.getElem?_eq_getElem ci, Option.toList_some, hy]
  rw [htk] at hadd
  rw [hfo, Bool.true_and] at hH
  have hhas : hasB R.fs R.h R.bits k = hasB (hrow seed 0) hs (bitsOf (hrow seed 0) hs b (l.take i)) k := by rw [hfb.1, hfb.2.1, hfb.2.2]
  have hSn := hSn i ci
  rw [hy] at hSn
  unfold fedStep at hSn
  rw [hSL i] at hSn
  have hrok1 := hok (i + 1) (by omega)
  have hKl : (S i).1.length ≤ 60 := Nat.le_trans (hSf i).2.2.1 (h60n i)
  have hPut := rr_Put (l := ssort (S i).1) (key := k) (by rw [ssort_len]; omega)
  rw [insS_ssort] at hPut
  have hIn := rr_In (l := ssort (S i).1) (v := k) (by rw [ssort_len]; omega)
  cases hb : hasB (hrow seed 0) hs (bitsOf (hrow seed 0) hs b (l.take i)) k with
  | false =>
    rw [hhas, hb] at hH
    rw [if_neg (by rw [hb]; decide)] at hSn
    rw [freshB_enc, hb, Bool.not_false, if_pos rfl] at hadd
    have hK1 : (S i).1 ++ [k] = (S (i + 1)).1 := by rw [hSn]
    rw [hK1] at hadd
    rw [hadd, hrok1, if_pos rfl, hR] at hA1
    obtain ⟨R', hR'⟩ : ∃ R', encRad seed hs b r c (S (i + 1)).1 (l.take (i + 1)) = R' := ⟨_, rfl⟩
    rw [hR'] at hA1
    simp only [cF] at hH
    simp only [cRad, cRws, cRw, cSs] at hA1 hPut
    rcases e10 with e10 | ⟨e10, rfl, E6, E7, b', L', rfl⟩
    · simp -implicitDefEqProofs [e8, e10, e41, e42, e43, ci, w_i, hcl, g1', g2', g3', hH, hA1, hPut, rcha, rch, frzAll, cRad, cRws, cRw, cSs, vmove, isNil, vstore, cellsOf?, Ent.wrO, wr]
      exact ⟨n - 1, by omega, (hI _ _).2 ⟨_, R', i + 1, _, _, _, _, _, (by first | rfl | (simp [cRad, cRws, cRw, hSn]; done) | (simp [cRad, cRws, cRw, hSn]; rfl) | (simp [cRad, cRws, cRw, hSn]; and_intros <;> rfl)), by simp [e1], by simp [e4], by simp [e8], by simp [e11, hSn], by simp [e41], by simp [e42], by simp, .inl (by simp [hSn, cSs]), by omega, by omega, hR'⟩⟩
    · rw [hS0, ssort_nil] at hPut
      simp only [List.map_nil, List.nil_append] at hPut
      simp -implicitDefEqProofs [e8, e10, e41, e42, e43, ci, hcl, g1', g2', g3', hH, hA1, hPut, rcha, rch, frzAll, Ent.frz, cRad, cRws, cRw, vmove, isNil, vstore, cellsOf?, Ent.wrO, wr]
      exact ⟨n - 1, by omega, (hI _ _).2 ⟨_, R', 0 + 1, _, _, _, _, _, (by first | rfl | (simp [cRad, cRws, cRw, hSn, hS0, show IntKind.i64.wrap 1 = 1 by decide]; done) | (simp [cRad, cRws, cRw, hSn, hS0, show IntKind.i64.wrap 1 = 1 by decide]; rfl) | (simp [cRad, cRws, cRw, hSn, hS0, show IntKind.i64.wrap 1 = 1 by decide]; and_intros <;> rfl)), by simp [e1, show IntKind.i64.wrap 1 = 1 by decide], by simp [e4, show IntKind.i64.wrap 1 = 1 by decide], by simp [e8, show IntKind.i64.wrap 1 = 1 by decide], by simp [e11, hSn, hS0, show IntKind.i64.wrap 1 = 1 by decide], by simp [e41, show IntKind.i64.wrap 1 = 1 by decide], by simp [e42, show IntKind.i64.wrap 1 = 1 by decide], by simp [show IntKind.i64.wrap 1 = 1 by decide], .inl (by simp [hSn, cSs, hS0]), by omega, by omega, hR'⟩⟩
  | true =>
    rw [hhas, hb] at hH
    rw [if_pos hb] at hSn
    rw [freshB_enc, hb, Bool.not_true, if_neg (by decide)] at hadd
    have hK1 : (S i).1 = (S (i + 1)).1 := by rw [hSn]
    rw [hK1] at hadd
    rw [← hK1] at hadd
    have hadd' : addRad (encRad seed hs b r c (S i).1 (l.take i)) k bb = encRad seed hs b r c (S (i + 1)).1 (l.take (i + 1)) := by rw [← hK1]; exact hadd
    rw [hadd', hrok1, if_pos rfl, hR] at hA1
    obtain ⟨R', hR'⟩ : ∃ R', encRad seed hs b r c (S (i + 1)).1 (l.take (i + 1)) = R' := ⟨_, rfl⟩
    rw [hR'] at hA1
    simp only [cF] at hH
    simp only [cRad, cRws, cRw, cSs] at hA1 hIn
    have hany : (ssort (S i).1).any (sEq k) = (S i).1.any (sEq k) := (ssort_perm _).any_eq
    rw [hany] at hIn
    rcases e10 with e10 | ⟨e10, rfl, E6, E7, b', L', rfl⟩
    rotate_left
    · rw [List.take_zero, hasB_nil (by omega) (by omega)] at hb
      cases hb
    cases hall : (S i).2.2 with
    | false =>
      rw [hall] at e11
      rw [hall, Bool.false_and] at hSn
      simp -implicitDefEqProofs [e8, e11, e41, e42, e43, ci, w_i, hcl, g1', g2', g3', hH, hA1, rcha, rch, frzAll, cRad, cRws, cRw, vmove, isNil, vstore, cellsOf?, Ent.wrO, wr]
      exact ⟨n - 1, by omega, (hI _ _).2 ⟨_, R', i + 1, _, _, _, _, _, (by first | rfl | (simp [cRad, cRws, cRw, hSn]; done) | (simp [cRad, cRws, cRw, hSn]; rfl) | (simp [cRad, cRws, cRw, hSn]; and_intros <;> rfl)), by simp [e1], by simp [e4], by simp [e8], by simp [hSn], by simp [e41], by simp [e42], by simp, .inl (by simp [hSn, cSs, e10]), by omega, by omega, hR'⟩⟩
    | true =>
      rw [hall] at e11
      rw [hall, Bool.true_and] at hSn
      simp -implicitDefEqProofs [e8, e10, e11, e41, e42, e43, ci, w_i, hcl, g1', g2', g3', hH, hA1, hIn, rcha, rch, frzAll, cRad, cRws, cRw, cSs, vmove, isNil, vstore, cellsOf?, Ent.wrO, wr]
      exact ⟨n - 1, by omega, (hI _ _).2 ⟨_, R', i + 1, _, _, _, _, _, (by first | rfl | (simp [cRad, cRws, cRw, hSn]; done) | (simp [cRad, cRws, cRw, hSn]; rfl) | (simp [cRad, cRws, cRw, hSn]; and_intros <;> rfl)), by simp [e1], by simp [e4], by simp [e8], by simp [hSn], by simp [e41], by simp [e42], by simp, .inl (by simp [hSn, cSs, e10]), by omega, by omega, hR'⟩⟩
end Go.Proofs.YthhbkihhllflfaaF
end

section
/- The law: what is peeled came. -/
set_option maxRecDepth 8192
set_option maxHeartbeats 1000000
namespace Go.Proofs.YthhbkihhllflfaaF
open Go Go.Proofs.Vm

theorem sbin_geq' {P : Program} {H : Hp} {t : TypeId} {x y : Operand} {u v : ByteArray} : vbin P H .geq t x y (vS u) (vS v) = qa (vB (!ltS u v)) := by
  simp [ltS, vbin, vbin0, neSl, isNils, isPtr, isNilp, AV.sc, Cell.sc, eqGuard, binOp, Op.stringOp, ofPv, one?, Value.oneCell']
theorem srt_lt {l : List ByteArray} (h : Srt l) (hn : l.Nodup) {i j : Nat} (hij : i < j) (hj : j < l.length) : ltS (l[i]'(by omega)) l[j] = true := by
  rw [ltS_iff]
  have h1 : bl (l[i]'(by omega)) ≤ bl l[j] := List.pairwise_iff_getElem.1 h i j (by omega) hj hij
  have h2 : l[i]'(by omega) ≠ l[j] := List.pairwise_iff_getElem.1 hn i j (by omega) hj hij
  rcases List.le_iff_lt_or_eq.1 h1 with h | h
  · exact h
  · exact absurd (bl_inj h) h2
theorem law_finds {seed bits hs rows cols : Int} {l : List Pkt} (s0 : 0 ≤ seed) (s1 : seed < 18446744073709551616) (hl : l.length < 4611686018427387904) :
    TV.pu 4 [.agg (cSz seed bits hs rows cols), .one (cPks l)] = some (cB true) := by
  refine run4 (by simp) ?_
  have hA := law_awake
  obtain ⟨hF1, hF2⟩ := law_fed (bits := bits) (hs := hs) (rows := rows) (cols := cols) s0 s1 hl
  by_cases hg : (1 ≤ bits ∧ bits ≤ 256 ∧ 1 ≤ hs ∧ hs ≤ 7 ∧ 1 ≤ rows ∧ rows ≤ 7 ∧ 1 ≤ cols ∧ cols ≤ 40) ∧ l.length ≤ 60 ∧ ∀ p ∈ l, goodPk p = true
  rotate_left
  · obtain ⟨R, hF⟩ := hF1 hg
    simp only [cSz, cPks, fedA, cRad, cRws, cRw, cSs, List.map_nil] at hF
    simp -implicitDefEqProofs [Try.f4, cSz, cPks, hF, hA, vmove, isNil, vstore, cellsOf?, Ent.wrO, wr]
  have hF := hF2 hg
  obtain ⟨hd, h60, hgood⟩ := hg
  obtain ⟨b, rfl⟩ := Int.eq_ofNat_of_zero_le (show 0 ≤ bits by omega)
  obtain ⟨r, rfl⟩ := Int.eq_ofNat_of_zero_le (show 0 ≤ rows by omega)
  obtain ⟨c, rfl⟩ := Int.eq_ofNat_of_zero_le (show 0 ≤ cols by omega)
  simp only [Int.toNat_natCast] at hF
  have hdim : Dim hs b r c := by unfold Dim; omega
  obtain ⟨f1, f2, f3, f4, f5⟩ := fedS_facts (fs := hrow seed 0) (h := hs) (n := b) (by omega) l
  obtain ⟨S, hS⟩ : ∃ S, fedS (hrow seed 0) hs b l = S := ⟨_, rfl⟩
  rw [hS] at hF f1 f2 f3 f4 f5
  obtain ⟨K, L', all⟩ := S
  dsimp only at hF f1 f2 f3 f4 f5
  have hK37 : ∀ k ∈ K, k.size = 37 := fun k hk => by obtain ⟨bb, hb⟩ := f2 k hk; exact (goodPk_iff.1 (hgood _ hb)).1
  have hse := encRad_seeds (s := seed) (h := hs) (bits := b) (rows := r) (cols := c) (K := K) (L := l) s0 s1
  have hle := encRad_lens (s := seed) (h := hs) (bits := b) (rows := r) (cols := c) (K := K) (L := l) hdim
  have hb2 : ∀ x ∈ l, 0 ≤ x.2 ∧ x.2 ≤ 1073741824 := fun x hx => (goodPk_iff.1 (hgood x hx)).2
  have hok : rOk (encRad seed hs b r c K l) = true := encRad_ok hdim (by omega) (by omega) hb2
  have hPe := rd_Peel hse hle hok
  obtain ⟨T, K', h1, h2, -⟩ := peel_enc (s := seed) (h := hs) (bits := b) (rows := r) (cols := c) (L := l) hK37
  rw [h1] at hPe
  have hE := rd_Empty (R := encRad seed hs b r c K' l) (encRad_seeds s0 s1) (encRad_lens hdim)
  have hTn : T.Nodup := (List.nodup_append.1 (h2.nodup_iff.1 f1)).1
  have hTK : ∀ x ∈ T, x ∈ K := fun x hx => h2.mem_iff.2 (List.mem_append_left _ hx)
  have hmn : (ssort T).Nodup := (ssort_perm T).nodup_iff.2 hTn
  have hms := ssort_srt T
  have hTl : T.length ≤ K.length := by have := h2.length_eq; rw [List.length_append] at this; omega
  have hml : (ssort T).length = T.length := ssort_len T
  have hkl : (ssort K).length = K.length := ssort_len K
  have hIn : ∀ i, ∀ h : i < (ssort T).length, TV.pu 22 [.one (cSs (ssort K)), cS (ssort T)[i]] = some (cB true) := fun i h => by
    rw [rr_In (by rw [ssort_len]; omega)]
    have : (ssort K).any (sEq (ssort T)[i]) = true := List.any_eq_true.2 ⟨(ssort T)[i], ssort_mem.2 (hTK _ (ssort_mem.1 (List.getElem_mem h))), sEq_iff.2 rfl⟩
    rw [this]
  have hSame := rr_Same (l := ssort T) (m := ssort K) (by rw [ssort_len]; omega)
  have hEs : emptyB (encRad seed hs b r c K' l) = true → ssort T = ssort K := fun he => by
    unfold emptyB at he
    rw [Bool.and_eq_true, Bool.not_eq_true'] at he
    have : K' = [] := by
      by_cases h : K' = []
      · exact h
      · rw [enc_full hdim h] at he; exact absurd he.2 (by decide)
    subst this
    rw [List.append_nil] at h2
    exact srt_eq (ssort_srt T) (ssort_srt K) ((ssort_perm T).trans (h2.symm.trans (ssort_perm K).symm))
  obtain ⟨em, hem⟩ : ∃ em, emptyB (encRad seed hs b r c K' l) = em := ⟨_, rfl⟩
  rw [hem] at hE hEs
  obtain ⟨R, hR⟩ : ∃ R, encRad seed hs b r c K l = R := ⟨_, rfl⟩
  obtain ⟨R3, hR3⟩ : ∃ R, encRad seed hs b r c K' l = R := ⟨_, rfl⟩
  obtain ⟨m, hm⟩ : ∃ m, ssort T = m := ⟨_, rfl⟩
  obtain ⟨q, hq⟩ : ∃ q, ssort K = q := ⟨_, rfl⟩
  rw [hR, hq] at hF
  rw [hR, hR3, hm] at hPe
  rw [hR3] at hE
  rw [hm] at hmn hms hml
  rw [hm, hq] at hSame hEs
  simp only [hm, hq] at hIn
  rw [hq] at hkl
  simp only [cSz, cPks, fedA, cRad, cRws, cRw, cSs, peelA] at hF hPe hE hSame hIn
  simp -implicitDefEqProofs [Try.f4, cSz, cPks, hF, hPe, vmove, isNil, vstore, cellsOf?, Ent.wrO, wr]
  obtain ⟨I, hI⟩ : ∃ I : Nat → St → Prop, ∀ n s', I n s' ↔ (∃ e i B0 B1 E2 E3 L, s' = ⟨e, B0 :: B1 :: E2 :: E3 :: .opn [(cRad R3).map .c] false :: L⟩ ∧ e 6 = .one (.c (.arr (q.map cStr))) ∧ e 9 = .one (.c (.arr (m.map cStr))) ∧ e 10 = .one (.ptr ⟨4, 0, 0, 1⟩) ∧ e 29 = .one (.c (.arr (m.map cStr))) ∧ e 30 = vI .i64 m.length ∧ e 31 = vI .i64 (i : Nat) ∧ (i + n = m.length)) := ⟨_, fun _ _ => Iff.rfl⟩
  refine wpL_ind I ?_ m.length _ ((hI _ _).2 ⟨_, 0, _, _, _, _, _, (by first | rfl | (simp [cRad, cRws, cRw]; done) | (simp [cRad, cRws, cRw]; rfl) | (simp [cRad, cRws, cRw]; and_intros <;> rfl)), by simp, by simp, by simp, by simp, by simp, by simp, by omega⟩)
  intro n stI hstI
  obtain ⟨e, i, B0, B1, E2, E3, L, rfl, e6, e9, e10, e29, e30, e31, hn⟩ := (hI _ _).1 hstI
  by_cases ci : i < m.length
  · have w_i : IntKind.i64.wrap ((i : Int) + 1) = ((i + 1 : Nat) : Int) := by rw [w64_id (by omega) (by omega)]; omega
    have hIi := hIn i ci
    have hcs : cStr m[i] = [.v (.string m[i])] := rfl
    by_cases h0 : i = 0
    · subst h0
      simp -implicitDefEqProofs [e6, e29, e30, e31, ci, hcs, hIi, show IntKind.i64.wrap 1 = 1 by decide, cRad, cRws, cRw, vmove, isNil]
      exact ⟨n - 1, by omega, (hI _ _).2 ⟨_, 0 + 1, _, _, _, _, _, (by first | rfl | (simp [cRad, cRws, cRw, show IntKind.i64.wrap 1 = 1 by decide]; done) | (simp [cRad, cRws, cRw, show IntKind.i64.wrap 1 = 1 by decide]; rfl) | (simp [cRad, cRws, cRw, show IntKind.i64.wrap 1 = 1 by decide]; and_intros <;> rfl)), by simp [e6], by simp [e9], by simp [e10], by simp [e29], by simp [e30], by simp, by omega⟩⟩
    have h0' : 0 < (i : Int) := by omega
    have h0n : 0 < i := by omega
    have wm : IntKind.i64.wrap ((i : Int) - 1) = ((i - 1 : Nat) : Int) := by rw [w64_id (by omega) (by omega)]; omega
    have hp1 : i - 1 < m.length := by omega
    have hcs1 : cStr m[i - 1] = [.v (.string m[i - 1])] := rfl
    have hlt := srt_lt hms hmn (i := i - 1) (j := i) (by omega) ci
    have hbl := fun (H : Hp) (t : TypeId) (x y : Operand) => sbin_geq' (P := Try.prog) (H := H) (t := t) (x := x) (y := y) (u := m[i - 1]) (v := m[i])
    rw [hlt] at hbl
    simp -implicitDefEqProofs [e6, e9, e29, e30, e31, ci, hcs, hcs1, hIi, h0n, wm, hp1, w_i, hbl, cRad, cRws, cRw, vmove, isNil]
    exact ⟨n - 1, by omega, (hI _ _).2 ⟨_, i + 1, _, _, _, _, _, (by first | rfl | (simp [cRad, cRws, cRw]; done) | (simp [cRad, cRws, cRw]; rfl) | (simp [cRad, cRws, cRw]; and_intros <;> rfl)), by simp [e6], by simp [e9], by simp [e10], by simp [e29], by simp [e30], by simp, by omega⟩⟩
  have ci' : ¬ (i : Int) < m.length := by omega
  have hle2 : (m.length : Int) ≤ q.length := by omega
  cases em with
  | false =>
    simp -implicitDefEqProofs [e6, e9, e10, e30, e31, ci', hE, hA, hle2, cRad, cRws, cRw, vmove, isNil]
  | true =>
    rw [decide_eq_true (hEs rfl)] at hSame
    simp -implicitDefEqProofs [e6, e9, e10, e30, e31, ci', hE, hSame, hA, hle2, cRad, cRws, cRw, vmove, isNil]
end Go.Proofs.YthhbkihhllflfaaF
end

section
/- The law: the order of packets. -/
set_option maxRecDepth 8192
set_option maxHeartbeats 1000000
namespace Go.Proofs.YthhbkihhllflfaaF
open Go Go.Proofs.Vm

theorem encRad_perm {s h : Int} {bits rows cols : Nat} {K K' : List ByteArray} {L L' : List Pkt} (hK : K.Perm K') (hL : L.Perm L') : encRad s h bits rows cols K L = encRad s h bits rows cols K' L' := by
  unfold encRad
  rw [bitsOf_perm hL, encRows_perm hK hL]
theorem encRad_lens7 {s h : Int} {bits rows cols : Nat} {K : List ByteArray} {L : List Pkt} (hd : Dim h bits rows cols) : Lens7 (encRad s h bits rows cols K L) := by
  obtain ⟨d1, d2, d3, d4, d5, d6, d7, d8⟩ := hd
  refine ⟨?_, fun x hx => ?_⟩
  · show 24 * (encRows s rows cols K L).length ≤ _
    rw [encRows_len]; omega
  · obtain ⟨i, _, rfl⟩ := List.mem_map.1 (show x ∈ encRows s rows cols K L from hx)
    rw [encRow_len]; omega
theorem law_order {seed bits hs rows cols : Int} {l : List Pkt} (s0 : 0 ≤ seed) (s1 : seed < 18446744073709551616) (hl : 24 * l.length ≤ 140737488355328) :
    TV.pu 5 [.agg (cSz seed bits hs rows cols), .one (cPks l)] = some (cB true) := by
  refine run5 (by simp) ?_
  have hA := law_awake
  obtain ⟨hF1, hF2⟩ := law_fed (bits := bits) (hs := hs) (rows := rows) (cols := cols) (l := l) s0 s1 (by omega)
  obtain ⟨hG1, hG2⟩ := law_fed (bits := bits) (hs := hs) (rows := rows) (cols := cols) (l := l.reverse) s0 s1 (by rw [List.length_reverse]; omega)
  obtain ⟨m, hm⟩ : ∃ m, l.reverse = m := ⟨_, rfl⟩
  have hml : m.length = l.length := by rw [← hm, List.length_reverse]
  have hmg : ∀ i (h : i < l.length), m[i]'(by omega) = l[l.length - 1 - i]'(by omega) := fun i h => by subst hm; rw [List.getElem_reverse]
  rw [hm] at hG1 hG2
  simp -implicitDefEqProofs [Try.f5, cSz, cPks, vmove, isNil]
  obtain ⟨I, hI⟩ : ∃ I : Nat → St → Prop, ∀ n s', I n s' ↔ (∃ e i L, s' = ⟨e, .opn [(cSz seed bits hs rows cols).map .c] false :: .clo ((m.take i).map cPk) false :: L⟩ ∧ e 1 = .one (.c (.arr (l.map cPk))) ∧ e 2 = .one (.ptr ⟨0, 0, 0, 1⟩) ∧ e 5 = .one (.sl 1 0 i i) ∧ e 16 = vI .i64 l.length ∧ e 17 = vI .i64 (i : Nat) ∧ (i + n = l.length)) := ⟨_, fun _ _ => Iff.rfl⟩
  refine wpL_ind I ?_ l.length _ ((hI _ _).2 ⟨_, 0, _, (by first | rfl | (simp [cSz]; done) | (simp [cSz]; rfl) | (simp [cSz]; and_intros <;> rfl)), by simp, by simp, by simp, by simp, by simp, by omega⟩)
  intro n stI hstI
  obtain ⟨e, i, L, rfl, e1, e2, e5, e16, e17, hn⟩ := (hI _ _).1 hstI
  by_cases ci : i < l.length
  · have w_i : IntKind.i64.wrap ((i : Int) + 1) = ((i + 1 : Nat) : Int) := by rw [w64_id (by omega) (by omega)]; omega
    have wm : IntKind.i64.wrap ((l.length : Int) - 1) = ((l.length - 1 : Nat) : Int) := by rw [w64_id (by omega) (by omega)]; omega
    have wm2 : IntKind.i64.wrap (((l.length - 1 : Nat) : Int) - (i : Int)) = ((l.length - 1 - i : Nat) : Int) := by rw [w64_id (by omega) (by omega)]; omega
    have hq : l.length - 1 - i < l.length := by omega
    obtain ⟨y, hy⟩ : ∃ y, l[l.length - 1 - i] = y := ⟨_, rfl⟩
    obtain ⟨k, bb⟩ := y
    have hcl : cPk l[l.length - 1 - i] = [.v (.string k), .v (.int .i64 bb)] := by rw [hy]; rfl
    have him : i < m.length := by omega
    have hmi := hmg i ci
    rw [hy] at hmi
    have c1 : 24 * (i + 1) ≤ 140737488355328 := by omega
    have c2 : i + 1 ≤ 4611686018427387904 := by omega
    have hil : min i m.length = i := by omega
    have hal : AllLen ((m.take i).map cPk) 2 := by intro x hx; obtain ⟨y, _, rfl⟩ := List.mem_map.1 hx; rfl
    have htk : (m.take i).map cPk ++ [cPk m[i]] = (m.take (i + 1)).map cPk := by rw [List.take_add_one, List.getElem?_eq_getElem him, Option.toList_some, List.map_append]; rfl
    rw [hmi] at htk
    simp only [cPk] at htk
    simp -implicitDefEqProofs [-List.map_take, e1, e5, e16, e17, ci, w_i, wm, wm2, hq, hcl, cSz, vmove, isNil, cellsOf?, vappend_sp es50 es50 el57, vbuildSlice_eq es50 el57, fzParts, setAll, rchParts, rch, elemsOf, c1, c2, hil, hal, htk]
    exact ⟨n - 1, by omega, (hI _ _).2 ⟨_, i + 1, _, (by first | rfl | (simp [cSz, cPk]; done) | (simp [cSz, cPk]; rfl) | (simp [cSz, cPk]; and_intros <;> rfl)), by simp [e1], by simp [e2], by simp, by simp [e16], by simp, by omega⟩⟩
  have hi : i = m.length := by omega
  subst hi
  have htk : m.take m.length = m := List.take_length ..
  have hci : ¬ (m.length : Int) < l.length := by omega
  have hmtk : (m.map cPk).take m.length = m.map cPk := List.take_of_length_le (by simp)
  by_cases hg : (1 ≤ bits ∧ bits ≤ 256 ∧ 1 ≤ hs ∧ hs ≤ 7 ∧ 1 ≤ rows ∧ rows ≤ 7 ∧ 1 ≤ cols ∧ cols ≤ 40) ∧ l.length ≤ 60 ∧ ∀ p ∈ l, goodPk p = true
  rotate_left
  · obtain ⟨R, hF⟩ := hF1 hg
    obtain ⟨R2, hG⟩ := hG1 (fun h => hg ⟨h.1, by omega, fun p hp => h.2.2 p (by rw [← hm]; exact List.mem_reverse.2 hp)⟩)
    simp only [cSz, cPks, fedA, cRad, cRws, cRw, cSs, List.map_nil] at hF hG
    simp -implicitDefEqProofs [e1, e2, e5, e16, e17, hci, hmtk, hF, hG, hA, cSz, vmove, isNil, vstore, cellsOf?, Ent.wrO, wr]
  have hg2 : (1 ≤ bits ∧ bits ≤ 256 ∧ 1 ≤ hs ∧ hs ≤ 7 ∧ 1 ≤ rows ∧ rows ≤ 7 ∧ 1 ≤ cols ∧ cols ≤ 40) ∧ m.length ≤ 60 ∧ ∀ p ∈ m, goodPk p = true := ⟨hg.1, by omega, fun p hp => hg.2.2 p (by rw [← hm] at hp; exact List.mem_reverse.1 hp)⟩
  have hF := hF2 hg
  have hG := hG2 hg2
  obtain ⟨hd, h60, hgood⟩ := hg
  obtain ⟨b, rfl⟩ := Int.eq_ofNat_of_zero_le (show 0 ≤ bits by omega)
  obtain ⟨r, rfl⟩ := Int.eq_ofNat_of_zero_le (show 0 ≤ rows by omega)
  obtain ⟨c, rfl⟩ := Int.eq_ofNat_of_zero_le (show 0 ≤ cols by omega)
  simp only [Int.toNat_natCast] at hF hG
  have hdim : Dim hs b r c := by unfold Dim; omega
  obtain ⟨f1, f2, f3, f4, f5⟩ := fedS_facts (fs := hrow seed 0) (h := hs) (n := b) (by omega) l
  obtain ⟨g1, g2, g3, g4, g5⟩ := fedS_facts (fs := hrow seed 0) (h := hs) (n := b) (by omega) m
  obtain ⟨S, hS⟩ : ∃ S, fedS (hrow seed 0) hs b l = S := ⟨_, rfl⟩
  obtain ⟨S2, hS2⟩ : ∃ S, fedS (hrow seed 0) hs b m = S := ⟨_, rfl⟩
  rw [hS] at hF f1 f2 f3 f4 f5
  rw [hS2] at hG g1 g2 g3 g4 g5
  obtain ⟨K, L', all⟩ := S
  obtain ⟨K2, L2, all2⟩ := S2
  dsimp only at hF f1 f2 f3 f4 f5 hG g1 g2 g3 g4 g5
  have hperm : l.Perm m := by rw [← hm]; exact (List.reverse_perm l).symm
  by_cases hall : all = true ∧ all2 = true
  · obtain ⟨rfl, rfl⟩ := hall
    have hKK : K.Perm K2 := (List.perm_ext_iff_of_nodup f1 g1).2 fun k => ⟨fun h => by
      obtain ⟨bb, hb⟩ := f2 k h
      exact g4 rfl _ (hperm.mem_iff.1 hb), fun h => by
      obtain ⟨bb, hb⟩ := g2 k h
      exact f4 rfl _ (hperm.mem_iff.2 hb)⟩
    rw [← encRad_perm hKK hperm] at hG
    have hrf := law_ref (R := encRad seed hs b r c K l) (encRad_lens7 hdim)
    have hEq := rr_Equal (A := encRad seed hs b r c K l) (B := encRad seed hs b r c K l) (encRad_lens hdim)
    rw [eqRad_iff.2 rfl] at hEq
    obtain ⟨R, hR⟩ : ∃ R, encRad seed hs b r c K l = R := ⟨_, rfl⟩
    rw [hR] at hF hG hrf hEq
    simp only [cSz, cPks, fedA, cRad, cRws, cRw, cSs] at hF hG hrf hEq
    simp -implicitDefEqProofs [e1, e2, e5, e16, e17, hci, hmtk, hF, hG, hrf, hEq, hA, rcha, rch, frzAll, Ent.frz, cSz, vmove, isNil, vstore, cellsOf?, Ent.wrO, wr]
  simp only [cSz, cPks, fedA, cRad, cRws, cRw, cSs] at hF hG
  cases all with
  | false =>
    simp -implicitDefEqProofs [e1, e2, e5, e16, e17, hci, hmtk, hF, hG, hA, cSz, vmove, isNil, vstore, cellsOf?, Ent.wrO, wr]
  | true =>
    cases all2 with
    | false =>
      simp -implicitDefEqProofs [e1, e2, e5, e16, e17, hci, hmtk, hF, hG, hA, cSz, vmove, isNil, vstore, cellsOf?, Ent.wrO, wr]
    | true => exact absurd ⟨rfl, rfl⟩ hall
end Go.Proofs.YthhbkihhllflfaaF
end

section
/- The law: packets, bytes and flows of each row. -/
set_option maxRecDepth 8192
set_option maxHeartbeats 1000000
namespace Go.Proofs.YthhbkihhllflfaaF
open Go Go.Proofs.Vm

theorem sum_map_add {α : Type} (f g : α → Int) : ∀ l : List α, (l.map fun x => f x + g x).sum = (l.map f).sum + (l.map g).sum
  | [] => rfl
  | x :: l => by simp only [List.map_cons, List.sum_cons, sum_map_add f g l]; omega
theorem sum_zero {α : Type} : ∀ l : List α, (l.map fun _ => (0 : Int)).sum = 0
  | [] => rfl
  | x :: l => by simp only [List.map_cons, List.sum_cons, sum_zero l]; omega
theorem sum_single (k : Nat) (a : Int) : ∀ n, k < n → ((List.range n).map fun p => if k = p then a else 0).sum = a
  | 0, h => by omega
  | n + 1, h => by
    rw [List.range_succ, List.map_append, List.sum_append]
    simp only [List.map_cons, List.map_nil, List.sum_cons, List.sum_nil]
    by_cases hk : k = n
    · subst hk
      have : ((List.range k).map fun p => if k = p then a else 0) = (List.range k).map fun _ => (0 : Int) := List.map_congr_left fun p hp => by rw [if_neg (by have := List.mem_range.1 hp; omega)]
      rw [this, sum_zero, if_pos rfl]; omega
    · rw [sum_single k a n (by omega), if_neg hk]; omega
theorem part_sum {α : Type} (g : α → Int) (pl : α → Nat) (n : Nat) : ∀ l : List α, (∀ x ∈ l, pl x < n) → ((List.range n).map fun p => ((l.filter fun x => pl x == p).map g).sum).sum = (l.map g).sum
  | [], _ => by simp only [List.filter_nil, List.map_nil, List.sum_nil]; exact sum_zero _
  | x :: l, h => by
    have h1 := part_sum g pl n l fun y hy => h y (List.mem_cons_of_mem _ hy)
    have h2 : ((List.range n).map fun p => (((x :: l).filter fun x => pl x == p).map g).sum) = (List.range n).map fun p => (if pl x = p then g x else 0) + ((l.filter fun x => pl x == p).map g).sum := List.map_congr_left fun p _ => by
      rw [List.filter_cons]
      by_cases hp : pl x = p
      · rw [if_pos (by simpa using hp), if_pos hp, List.map_cons, List.sum_cons]
      · rw [if_neg (by simpa using hp), if_neg hp]; omega
    rw [h2, sum_map_add, sum_single _ _ _ (h x List.mem_cons_self), h1, List.map_cons, List.sum_cons]
theorem countP_sum {α : Type} (q : α → Bool) : ∀ l : List α, ((l.countP q : Nat) : Int) = ((l.filter q).map fun _ => (1 : Int)).sum
  | [] => rfl
  | x :: l => by
    rw [List.countP_cons, List.filter_cons]
    have := countP_sum q l
    cases q x with
    | true => simp only [if_true, List.map_cons, List.sum_cons]; omega
    | false => simp only [Bool.false_eq_true, if_false]; omega
theorem ones {α : Type} : ∀ l : List α, (l.map fun _ => (1 : Int)).sum = l.length
  | [] => rfl
  | x :: l => by simp only [List.map_cons, List.sum_cons, ones l, List.length_cons]; omega
theorem row_sums {pl : ByteArray → Nat} {K : List ByteArray} {L : List Pkt} {n : Nat} (h : ∀ k, pl k < n) :
    ((encRow pl K L n).map fun c => c.2.2.1).sum = L.length ∧ ((encRow pl K L n).map fun c => c.2.2.2).sum = (L.map (·.2)).sum ∧ ((encRow pl K L n).map fun c => c.2.1).sum = K.length := by
  unfold encRow
  simp only [List.map_map, Function.comp_def, encC]
  refine ⟨?_, ?_, ?_⟩
  · simp only [countP_sum]
    rw [part_sum (fun _ => 1) (fun x : Pkt => pl x.1) n L fun x _ => h _, ones]
  · rw [part_sum (·.2) (fun x : Pkt => pl x.1) n L fun x _ => h _]
  · simp only [countP_sum]
    rw [part_sum (fun _ => 1) pl n K fun x _ => h _, ones]
theorem sum_nonneg : ∀ {l : List Int}, (∀ y ∈ l, 0 ≤ y) → 0 ≤ l.sum
  | [], _ => by simp
  | y :: l, h => by
    have h1 := h y List.mem_cons_self
    have h2 := sum_nonneg fun w hw => h w (List.mem_cons_of_mem _ hw)
    rw [List.sum_cons]; omega
theorem sum_ge {x : Int} : ∀ {l : List Int}, (∀ y ∈ l, 0 ≤ y) → x ∈ l → x ≤ l.sum
  | y :: l, h, hx => by
    have h1 := h y List.mem_cons_self
    have h2 := sum_nonneg fun w hw => h w (List.mem_cons_of_mem _ hw)
    rw [List.sum_cons]
    rcases List.mem_cons.1 hx with rfl | hx
    · omega
    · have := sum_ge (fun w hw => h w (List.mem_cons_of_mem _ hw)) hx; omega
theorem take_sum {α : Type} {f : α → Int} {l : List α} {i : Nat} (h : i < l.length) : ((l.take (i + 1)).map f).sum = ((l.take i).map f).sum + f l[i] := by
  rw [List.take_add_one, List.getElem?_eq_getElem h, Option.toList_some, List.map_append, List.sum_append]
  simp
theorem take_bound {α : Type} {f : α → Int} {l : List α} {b : Int} (hf : ∀ x ∈ l, 0 ≤ f x ∧ f x ≤ b) (i : Nat) : 0 ≤ ((l.take i).map f).sum ∧ ((l.take i).map f).sum ≤ (l.length : Int) * b := by
  have h := sum_bound (b := b) (l := (l.take i).map f) fun y hy => by
    obtain ⟨x, hx, rfl⟩ := List.mem_map.1 hy
    exact hf x (List.mem_of_mem_take hx)
  rw [List.length_map, List.length_take] at h
  refine ⟨h.1, Int.le_trans h.2 ?_⟩
  by_cases hl : l = []
  · subst hl; simp
  · have hb : 0 ≤ b := by
      cases l with
      | nil => exact absurd rfl hl
      | cons x t => have := hf x List.mem_cons_self; omega
    exact Int.mul_le_mul_of_nonneg_right (by omega) hb
theorem law_counts {seed bits hs rows cols : Int} {l : List Pkt} (s0 : 0 ≤ seed) (s1 : seed < 18446744073709551616) (hl : l.length < 4611686018427387904) :
    TV.pu 8 [.agg (cSz seed bits hs rows cols), .one (cPks l)] = some (cB true) := by
  refine run8 (by simp) ?_
  have hA := law_awake
  obtain ⟨hF1, hF2⟩ := law_fed (bits := bits) (hs := hs) (rows := rows) (cols := cols) s0 s1 hl
  by_cases hg : (1 ≤ bits ∧ bits ≤ 256 ∧ 1 ≤ hs ∧ hs ≤ 7 ∧ 1 ≤ rows ∧ rows ≤ 7 ∧ 1 ≤ cols ∧ cols ≤ 40) ∧ l.length ≤ 60 ∧ ∀ p ∈ l, goodPk p = true
  rotate_left
  · obtain ⟨R, hF⟩ := hF1 hg
    simp only [cSz, cPks, fedA, cRad, cRws, cRw, cSs, List.map_nil] at hF
    simp -implicitDefEqProofs [Try.f8, cSz, cPks, hF, hA, vmove, isNil, vstore, cellsOf?, Ent.wrO, wr]
  have hF := hF2 hg
  obtain ⟨hd, h60, hgood⟩ := hg
  obtain ⟨b, rfl⟩ := Int.eq_ofNat_of_zero_le (show 0 ≤ bits by omega)
  obtain ⟨r, rfl⟩ := Int.eq_ofNat_of_zero_le (show 0 ≤ rows by omega)
  obtain ⟨c, rfl⟩ := Int.eq_ofNat_of_zero_le (show 0 ≤ cols by omega)
  simp only [Int.toNat_natCast] at hF
  have hdim : Dim hs b r c := by unfold Dim; omega
  obtain ⟨f1, f2, f3, f4, f5⟩ := fedS_facts (fs := hrow seed 0) (h := hs) (n := b) (by omega) l
  obtain ⟨S, hS⟩ : ∃ S, fedS (hrow seed 0) hs b l = S := ⟨_, rfl⟩
  rw [hS] at hF f1 f2 f3 f4 f5
  obtain ⟨K, L', all⟩ := S
  dsimp only at hF f1 f2 f3 f4 f5
  have hb2 : ∀ x ∈ l, 0 ≤ x.2 ∧ x.2 ≤ 1073741824 := fun x hx => (goodPk_iff.1 (hgood x hx)).2
  have hse := encRad_seeds (s := seed) (h := hs) (bits := b) (rows := r) (cols := c) (K := K) (L := l) s0 s1
  have hle := encRad_lens (s := seed) (h := hs) (bits := b) (rows := r) (cols := c) (K := K) (L := l) hdim
  have hok : rOk (encRad seed hs b r c K l) = true := encRad_ok hdim (by omega) (by omega) hb2
  obtain ⟨R, hR⟩ : ∃ R, encRad seed hs b r c K l = R := ⟨_, rfl⟩
  have hkl : (ssort K).length = K.length := ssort_len K
  obtain ⟨q, hq⟩ : ∃ q, ssort K = q := ⟨_, rfl⟩
  rw [hR, hq] at hF
  rw [hq] at hkl
  rw [hR] at hse hle hok
  have hRl : R.rows.length = r := by subst hR; exact encRows_len ..
  have hRi : ∀ i (h : i < R.rows.length), R.rows[i] = encRow (pln seed i c) K l c := fun i h => by subst hR; exact encRows_get ..
  have hsum : ∀ i (h : i < R.rows.length), R.rows[i].length = c ∧ (R.rows[i].map fun c => c.2.2.1).sum = l.length ∧ (R.rows[i].map fun c => c.2.2.2).sum = (l.map (·.2)).sum ∧ (R.rows[i].map fun c => c.2.1).sum = K.length := fun i h => by
    rw [hRi i h]; exact ⟨encRow_len .., row_sums fun k => pln_lt hdim.2.2.2.2.2.2.1 k⟩
  have hcb : ∀ i (h : i < R.rows.length), ∀ x ∈ R.rows[i], (0 ≤ x.2.2.1 ∧ x.2.2.1 ≤ 1099511627776) ∧ (0 ≤ x.2.2.2 ∧ x.2.2.2 ≤ 1099511627776) ∧ (0 ≤ x.2.1 ∧ x.2.1 ≤ 1099511627776) := fun i h x hx => by
    have hw := (wrongB_iff x).1 ((rOk_facts hok).2.2.2.2 _ (List.getElem_mem h) |>.2.2.2 x hx)
    rw [hRi i h] at hx
    obtain ⟨p, _, rfl⟩ := List.mem_map.1 hx
    refine ⟨⟨hw.2.2.2.1, hw.2.2.2.2.1⟩, ⟨hw.2.2.2.2.2.1, hw.2.2.2.2.2.2⟩, ⟨?_, hw.2.2.1⟩⟩
    simp only [encC]; omega
  simp only [cSz, cPks, fedA, cRad, cRws, cRw, cSs] at hF
  simp -implicitDefEqProofs [Try.f8, cSz, cPks, hF, vmove, isNil, vstore, cellsOf?, Ent.wrO, wr]
  obtain ⟨I, hI⟩ : ∃ I : Nat → St → Prop, ∀ n s', I n s' ↔ (∃ e i B0 L, s' = ⟨e, B0 :: .opn [(cRad R).map .c] false :: L⟩ ∧ e 1 = .one (.c (.arr (l.map cPk))) ∧ e 5 = .one (.ptr ⟨1, 0, 0, 1⟩) ∧ e 6 = .one (.c (.arr (q.map cStr))) ∧ e 9 = vI .i64 (((l.take i).map (·.2)).sum) ∧ e 32 = .one (.c (.arr (l.map cPk))) ∧ e 33 = vI .i64 l.length ∧ e 34 = vI .i64 (i : Nat) ∧ (i + n = l.length)) := ⟨_, fun _ _ => Iff.rfl⟩
  refine wpL_ind I ?_ l.length _ ((hI _ _).2 ⟨_, 0, _, _, (by first | rfl | (simp [cRad, cRws, cRw]; done) | (simp [cRad, cRws, cRw]; rfl) | (simp [cRad, cRws, cRw]; and_intros <;> rfl)), by simp, by simp, by simp, by simp, by simp, by simp, by simp, by omega⟩)
  intro n stI hstI
  obtain ⟨e, i, B0, L, rfl, e1, e5, e6, e9, e32, e33, e34, hn⟩ := (hI _ _).1 hstI
  by_cases ci : i < l.length
  · have w_i : IntKind.i64.wrap ((i : Int) + 1) = ((i + 1 : Nat) : Int) := by rw [w64_id (by omega) (by omega)]; omega
    obtain ⟨y, hy⟩ : ∃ y, l[i] = y := ⟨_, rfl⟩
    obtain ⟨k, bb⟩ := y
    have hcl : cPk l[i] = [.v (.string k), .v (.int .i64 bb)] := by rw [hy]; rfl
    have hts := take_sum (f := fun x : Pkt => x.2) ci
    have htb := take_bound (f := fun x : Pkt => x.2) hb2 (i + 1)
    rw [hts, hy] at htb
    rw [hy] at hts
    dsimp only at hts htb
    have wb : IntKind.i64.wrap (((l.take i).map (·.2)).sum + bb) = ((l.take i).map (·.2)).sum + bb := w64_id (by omega) (by omega)
    simp -implicitDefEqProofs [-List.map_take, e9, e32, e33, e34, ci, hcl, w_i, wb, cRad, cRws, cRw, vmove, isNil, vstore, cellsOf?, Ent.wrO, wr]
    exact ⟨n - 1, by omega, (hI _ _).2 ⟨_, i + 1, _, _, (by first | rfl | (simp [-List.map_take, hts, cRad, cRws, cRw]; done) | (simp [-List.map_take, hts, cRad, cRws, cRw]; rfl) | (simp [-List.map_take, hts, cRad, cRws, cRw]; and_intros <;> rfl)), by simp [e1, -List.map_take], by simp [e5, -List.map_take], by simp [e6, -List.map_take], by simp [-List.map_take, hts], by simp [e32, -List.map_take], by simp [e33, -List.map_take], by simp [-List.map_take], by omega⟩⟩
  have hil : l.take i = l := List.take_of_length_le (by omega)
  rw [hil] at e9
  clear hil
  have hfin : ¬ (i : Int) < l.length := by omega
  simp -implicitDefEqProofs [e5, e33, e34, ci, cRad, cRws, cRw, vmove, isNil]
  obtain ⟨T, hT⟩ : ∃ T, (l.map (·.2)).sum = T := ⟨_, rfl⟩
  rw [hT] at e9
  simp only [hT] at hsum
  have hTb := take_bound (f := fun x : Pkt => x.2) hb2 l.length
  rw [List.take_length] at hTb
  rw [hT] at hTb
  obtain ⟨J, hJ⟩ : ∃ J : Nat → St → Prop, ∀ n s', J n s' ↔ (∃ e i B0 L, s' = ⟨e, B0 :: .opn [(cRad R).map .c] false :: L⟩ ∧ e 1 = .one (.c (.arr (l.map cPk))) ∧ e 5 = .one (.ptr ⟨1, 0, 0, 1⟩) ∧ e 6 = .one (.c (.arr (q.map cStr))) ∧ e 9 = vI .i64 T ∧ e 45 = vI .i64 R.rows.length ∧ e 46 = vI .i64 (i : Nat) ∧ (i + n = R.rows.length)) := ⟨_, fun _ _ => Iff.rfl⟩
  refine wpL_ind J ?_ R.rows.length _ ((hJ _ _).2 ⟨_, 0, _, _, (by first | rfl | (simp [e1, e5, e6, e9, cRad, cRws, cRw]; done) | (simp [e1, e5, e6, e9, cRad, cRws, cRw]; rfl) | (simp [e1, e5, e6, e9, cRad, cRws, cRw]; and_intros <;> rfl)), by simp [e1], by simp [e5], by simp [e6], by simp [e9], by simp, by simp, by omega⟩)
  clear e1 e5 e6 e9 e32 e33 e34
  intro n stJ hstJ
  obtain ⟨e, i, B0, L, rfl, e1, e5, e6, e9, e45, e46, hn⟩ := (hJ _ _).1 hstJ
  by_cases cj : i < R.rows.length
  rotate_left
  · simp -implicitDefEqProofs [e45, e46, cj, hA, cRad, cRws, cRw, vmove, isNil]
  have w_i : IntKind.i64.wrap ((i : Int) + 1) = ((i + 1 : Nat) : Int) := by rw [w64_id (by omega) (by omega)]; omega
  obtain ⟨u1, u2, u3, u4⟩ := hsum i cj
  have hcbi := hcb i cj
  simp -implicitDefEqProofs [e5, e45, e46, cj, cRad, cRws, cRw, vmove, isNil]
  obtain ⟨C, hC⟩ : ∃ C : Nat → St → Prop, ∀ n' s', C n' s' ↔ (∃ e p B0 L, s' = ⟨e, B0 :: .opn [(cRad R).map .c] false :: L⟩ ∧ e 1 = .one (.c (.arr (l.map cPk))) ∧ e 5 = .one (.ptr ⟨1, 0, 0, 1⟩) ∧ e 6 = .one (.c (.arr (q.map cStr))) ∧ e 9 = vI .i64 T ∧ e 45 = vI .i64 R.rows.length ∧ e 46 = vI .i64 (i : Nat) ∧ e 12 = vI .i64 (i : Nat) ∧ e 13 = vI .i64 (((R.rows[i].take p).map fun c => c.2.2.1).sum) ∧ e 14 = vI .i64 (((R.rows[i].take p).map fun c => c.2.2.2).sum) ∧ e 15 = vI .i64 (((R.rows[i].take p).map fun c => c.2.1).sum) ∧ e 53 = .one (.c (.arr (R.rows[i].map cCl))) ∧ e 54 = vI .i64 R.rows[i].length ∧ e 55 = vI .i64 (p : Nat) ∧ (p + n' = R.rows[i].length)) := ⟨_, fun _ _ => Iff.rfl⟩
  refine wpL_ind C ?_ R.rows[i].length _ ((hC _ _).2 ⟨_, 0, _, _, (by first | rfl | (simp [e1, e5, e6, e9, e45, e46, cRad, cRws, cRw]; done) | (simp [e1, e5, e6, e9, e45, e46, cRad, cRws, cRw]; rfl) | (simp [e1, e5, e6, e9, e45, e46, cRad, cRws, cRw]; and_intros <;> rfl)), by simp [e1], by simp [e5], by simp [e6], by simp [e9], by simp [e45], by simp [e46], by simp, by simp, by simp, by simp, by simp, by simp, by simp, by omega⟩)
  clear e1 e5 e6 e9 e45 e46
  intro n' stC hstC
  obtain ⟨e, p, B0, L, rfl, e1, e5, e6, e9, e45, e46, e12, e13, e14, e15, e53, e54, e55, hp⟩ := (hC _ _).1 hstC
  by_cases cp : p < R.rows[i].length
  · have w_p : IntKind.i64.wrap ((p : Int) + 1) = ((p + 1 : Nat) : Int) := by rw [w64_id (by omega) (by omega)]; omega
    obtain ⟨y, hy⟩ : ∃ y, R.rows[i][p] = y := ⟨_, rfl⟩
    obtain ⟨x, fl, pk, bb⟩ := y
    have hcl : cCl R.rows[i][p] = [.v (.string x), .v (.int .i64 fl), .v (.int .i64 pk), .v (.int .i64 bb)] := by rw [hy]; rfl
    have t1 := take_sum (f := fun c : RCl => c.2.2.1) cp
    have t2 := take_sum (f := fun c : RCl => c.2.2.2) cp
    have t3 := take_sum (f := fun c : RCl => c.2.1) cp
    have b1 := take_bound (f := fun c : RCl => c.2.2.1) (fun x hx => (hcbi x hx).1) (p + 1)
    have b2 := take_bound (f := fun c : RCl => c.2.2.2) (fun x hx => (hcbi x hx).2.1) (p + 1)
    have b3 := take_bound (f := fun c : RCl => c.2.1) (fun x hx => (hcbi x hx).2.2) (p + 1)
    rw [hy] at t1 t2 t3
    rw [t1] at b1
    rw [t2] at b2
    rw [t3] at b3
    dsimp only at t1 t2 t3 b1 b2 b3
    have w1 : IntKind.i64.wrap (((R.rows[i].take p).map fun c => c.2.2.1).sum + pk) = ((R.rows[i].take p).map fun c => c.2.2.1).sum + pk := w64_id (by omega) (by omega)
    have w2 : IntKind.i64.wrap (((R.rows[i].take p).map fun c => c.2.2.2).sum + bb) = ((R.rows[i].take p).map fun c => c.2.2.2).sum + bb := w64_id (by omega) (by omega)
    have w3 : IntKind.i64.wrap (((R.rows[i].take p).map fun c => c.2.1).sum + fl) = ((R.rows[i].take p).map fun c => c.2.1).sum + fl := w64_id (by omega) (by omega)
    simp -implicitDefEqProofs [-List.map_take, e13, e14, e15, e53, e54, e55, cp, hcl, w_p, w1, w2, w3, cRad, cRws, cRw, vmove, isNil, vstore, cellsOf?, Ent.wrO, wr]
    exact ⟨n' - 1, by omega, (hC _ _).2 ⟨_, p + 1, _, _, (by first | rfl | (simp [-List.map_take, t1, t2, t3, cRad, cRws, cRw]; done) | (simp [-List.map_take, t1, t2, t3, cRad, cRws, cRw]; rfl) | (simp [-List.map_take, t1, t2, t3, cRad, cRws, cRw]; and_intros <;> rfl)), by simp [e1, -List.map_take], by simp [e5, -List.map_take], by simp [e6, -List.map_take], by simp [e9, -List.map_take], by simp [e45, -List.map_take], by simp [e46, -List.map_take], by simp [e12, -List.map_take], by simp [-List.map_take, t1], by simp [-List.map_take, t2], by simp [-List.map_take, t3], by simp [e53, -List.map_take], by simp [e54, -List.map_take], by simp [-List.map_take], by omega⟩⟩
  have hil : R.rows[i].take p = R.rows[i] := List.take_of_length_le (by omega)
  rw [hil, u2] at e13
  rw [hil, u3] at e14
  rw [hil, u4] at e15
  clear hil
  have hkq : (K.length : Int) = q.length := by omega
  rw [hkq] at e15
  simp -implicitDefEqProofs [e1, e6, e9, e13, e14, e15, e54, e55, cp, cRad, cRws, cRw, vmove, isNil]
  obtain ⟨D, hD⟩ : ∃ D : Nat → St → Prop, ∀ n' s', D n' s' ↔ (∃ e j B0 L, s' = ⟨e, B0 :: .opn [(cRad R).map .c] false :: L⟩ ∧ e 1 = .one (.c (.arr (l.map cPk))) ∧ e 5 = .one (.ptr ⟨1, 0, 0, 1⟩) ∧ e 6 = .one (.c (.arr (q.map cStr))) ∧ e 9 = vI .i64 T ∧ e 45 = vI .i64 R.rows.length ∧ e 46 = vI .i64 (i : Nat) ∧ e 12 = vI .i64 (i : Nat) ∧ e 87 = .one (.c (.arr (l.map cPk))) ∧ e 88 = vI .i64 l.length ∧ e 89 = vI .i64 (j : Nat) ∧ (j + n' = l.length)) := ⟨_, fun _ _ => Iff.rfl⟩
  refine wpL_ind D ?_ l.length _ ((hD _ _).2 ⟨_, 0, _, _, (by first | rfl | (simp [e1, e5, e6, e9, e45, e46, e12, cRad, cRws, cRw]; done) | (simp [e1, e5, e6, e9, e45, e46, e12, cRad, cRws, cRw]; rfl) | (simp [e1, e5, e6, e9, e45, e46, e12, cRad, cRws, cRw]; and_intros <;> rfl)), by simp [e1], by simp [e5], by simp [e6], by simp [e9], by simp [e45], by simp [e46], by simp [e12], by simp, by simp, by simp, by omega⟩)
  clear e1 e5 e6 e9 e45 e46 e12 e13 e14 e15 e53 e54 e55 hp cp p
  intro n' stD hstD
  obtain ⟨e, j, B0, L, rfl, e1, e5, e6, e9, e45, e46, e12, e87, e88, e89, hj⟩ := (hD _ _).1 hstD
  by_cases cl : j < l.length
  rotate_left
  · simp -implicitDefEqProofs [e46, e88, e89, cl, w_i, cRad, cRws, cRw, vmove, isNil]
    exact ⟨n - 1, by omega, (hJ _ _).2 ⟨_, i + 1, _, _, (by first | rfl | (simp [cRad, cRws, cRw]; done) | (simp [cRad, cRws, cRw]; rfl) | (simp [cRad, cRws, cRw]; and_intros <;> rfl)), by simp [e1], by simp [e5], by simp [e6], by simp [e9], by simp [e45], by simp, by omega⟩⟩
  have w_j : IntKind.i64.wrap ((j : Int) + 1) = ((j + 1 : Nat) : Int) := by rw [w64_id (by omega) (by omega)]; omega
  have hpm := List.getElem_mem cl
  have hg2 := goodPk_iff.1 (hgood _ hpm)
  have hPl := rd_Place (R := R) (key := l[j].1) (i := i) hse hle hok cj hg2.1
  have hrp : rplc R l[j].1 i R.rows[i].length = ((pln seed i c l[j].1 : Nat) : Int) := by
    rw [u1]
    have := hcell_range (hrow seed ((i : Int) + 1)) l[j].1 (c : Int) (by omega)
    have hs : R.s = seed := by subst hR; rfl
    unfold rplc pln
    rw [hs]; omega
  rw [hrp] at hPl
  have hpc : pln seed i c l[j].1 < R.rows[i].length := by rw [u1]; exact pln_lt hdim.2.2.2.2.2.2.1 _
  have hce : R.rows[i][pln seed i c l[j].1] = encC (pln seed i c) K l (pln seed i c l[j].1) := by simp only [hRi i cj]; exact encRow_get _
  have hpk : 1 ≤ (encC (pln seed i c) K l (pln seed i c l[j].1)).2.2.1 := by
    have : 0 < l.countP fun x => pln seed i c x.1 == pln seed i c l[j].1 := List.countP_pos_iff.2 ⟨_, hpm, by simp⟩
    simp only [encC]; omega
  have hbb : l[j].2 ≤ (encC (pln seed i c) K l (pln seed i c l[j].1)).2.2.2 := by
    simp only [encC]
    refine sum_ge (fun y hy => ?_) (List.mem_map.2 ⟨l[j], List.mem_filter.2 ⟨hpm, by simp⟩, rfl⟩)
    obtain ⟨x, hx, rfl⟩ := List.mem_map.1 hy
    exact (hb2 x (List.mem_filter.1 hx).1).1
  rw [← hce] at hpk hbb
  obtain ⟨P, hP⟩ : ∃ P, pln seed i c l[j].1 = P := ⟨_, rfl⟩
  simp only [hP] at hpk hbb hPl hpc
  obtain ⟨y, hy⟩ : ∃ y, R.rows[i][P] = y := ⟨_, rfl⟩
  rw [hy] at hpk hbb
  obtain ⟨x, fl, pk, bb⟩ := y
  have hcl : cCl R.rows[i][P] = [.v (.string x), .v (.int .i64 fl), .v (.int .i64 pk), .v (.int .i64 bb)] := by rw [hy]; rfl
  obtain ⟨z, hz⟩ : ∃ z, l[j] = z := ⟨_, rfl⟩
  rw [hz] at hbb hPl
  obtain ⟨k, b3⟩ := z
  have hcl2 : cPk l[j] = [.v (.string k), .v (.int .i64 b3)] := by rw [hz]; rfl
  dsimp only at hpk hbb hPl
  have v1 : ¬ pk < 1 := by omega
  have v2 : ¬ bb < b3 := by omega
  simp only [cRad, cRws, cRw] at hPl
  simp -implicitDefEqProofs [e5, e12, e87, e88, e89, cl, cj, hpc, hcl, hcl2, hPl, v1, v2, w_j, cRad, cRws, cRw, vmove, isNil, vstore, cellsOf?, Ent.wrO, wr]
  exact ⟨n' - 1, by omega, (hD _ _).2 ⟨_, j + 1, _, _, (by first | rfl | (simp [cRad, cRws, cRw]; done) | (simp [cRad, cRws, cRw]; rfl) | (simp [cRad, cRws, cRw]; and_intros <;> rfl)), by simp [e1], by simp [e5], by simp [e6], by simp [e9], by simp [e45], by simp [e46], by simp [e12], by simp [e87], by simp [e88], by simp, by omega⟩⟩
end Go.Proofs.YthhbkihhllflfaaF
end

section
/- The laws of all data. -/
namespace Go.Proofs.YthhbkihhllflfaaF
open Go Go.Proofs.Vm

theorem isI_one {k : IntKind} {l : List CV} (h : isI k l) : ∃ n, l = [.v (.int k n)] ∧ k.min ≤ n ∧ n ≤ k.max := by
  obtain ⟨n, hx, hw⟩ := h
  simp only [Lit.wf, Bool.and_eq_true, decide_eq_true_eq] at hw
  exact ⟨n, hx, hw⟩
theorem u64_good {l : List CV} (h : isI .u64 l) : ∃ n, l = [.v (.int .u64 n)] ∧ 0 ≤ n ∧ n < 18446744073709551616 := by
  obtain ⟨n, rfl, h1, h2⟩ := isI_one h
  have e1 : IntKind.u64.min = 0 := rfl
  have e2 : IntKind.u64.max = 18446744073709551615 := rfl
  exact ⟨n, rfl, by omega, by omega⟩
theorem i64_good {l : List CV} (h : isI .i64 l) : ∃ n, l = [.v (.int .i64 n)] ∧ -9223372036854775808 ≤ n ∧ n < 9223372036854775808 := by
  obtain ⟨n, rfl, h1, h2⟩ := isI_one h
  have e1 : IntKind.i64.min = -9223372036854775808 := rfl
  have e2 : IntKind.i64.max = 9223372036854775807 := rfl
  exact ⟨n, rfl, by omega, by omega⟩
theorem bools_good {l : List CV} (h : good23 l) : ∃ b : List Bool, l = [.arr (b.map cB1)] ∧ b.length ≤ 140737488351232 := by
  obtain ⟨L, rfl, hg, hw⟩ := h
  obtain ⟨b, rfl, _⟩ := map_of (f := cB1) (g := fun _ => True) fun e he => by obtain ⟨x, hx⟩ := (hg e he).2; exact ⟨x, hx, trivial⟩
  rw [List.length_map] at hw
  exact ⟨b, rfl, by omega⟩
theorem strs_good {l : List CV} (h : good29 l) : ∃ b : List ByteArray, l = [cSs b] ∧ b.length < 4611686018427387904 := by
  obtain ⟨L, rfl, hg, hw⟩ := h
  obtain ⟨b, rfl, _⟩ := map_of (f := cStr) (g := fun _ => True) fun e he => by obtain ⟨x, hx, _⟩ := (hg e he).2; exact ⟨x, hx, trivial⟩
  rw [List.length_map] at hw
  exact ⟨b, rfl, by omega⟩
theorem cell_good {l : List CV} (h : good74 l) : ∃ c : RCl, l = cCl c := by
  obtain ⟨_, _, rfl, ⟨s, rfl, _⟩, _, _, rfl, h1, _, _, rfl, h2, h3⟩ := h
  obtain ⟨a, rfl, _⟩ := i64_good h1
  obtain ⟨b, rfl, _⟩ := i64_good h2
  obtain ⟨c, rfl, _⟩ := i64_good h3
  exact ⟨(s, a, b, c), rfl⟩
theorem row_good {l : List CV} (h : good72 l) : ∃ r : List RCl, l = [cRw r] ∧ r.length * 40 ≤ 140737488351232 := by
  obtain ⟨L, rfl, hg, hw⟩ := h
  obtain ⟨b, rfl, _⟩ := map_of (f := cCl) (g := fun _ => True) fun e he => by obtain ⟨x, hx⟩ := cell_good (hg e he).2; exact ⟨x, hx, trivial⟩
  rw [List.length_map] at hw
  exact ⟨b, rfl, hw⟩
theorem rad_good {l : List CV} (h : good28 l) : ∃ R : Rad, l = cRad R ∧ Seeds R ∧ Lens R ∧ Lens7 R := by
  obtain ⟨_, _, rfl, h1, _, _, rfl, ⟨_, _, rfl, h2, _, _, rfl, h3, h4⟩, L, rfl, hg, hw⟩ := h
  obtain ⟨s, rfl, s0, s1⟩ := u64_good h1
  obtain ⟨fs, rfl, s2, s3⟩ := u64_good h2
  obtain ⟨hh, rfl, _⟩ := i64_good h3
  obtain ⟨b, rfl, hb⟩ := bools_good h4
  obtain ⟨rows, rfl, hr⟩ := map_of (f := fun r : List RCl => [cRw r]) (g := fun r => r.length * 40 ≤ 140737488351232) fun e he => by
    obtain ⟨x, hx, h⟩ := row_good (hg e he).2
    exact ⟨x, hx, h⟩
  rw [List.length_map] at hw
  refine ⟨⟨s, fs, hh, b, rows⟩, rfl, ⟨s0, s1, s2, s3⟩, ⟨?_, fun x hx => ?_, ?_⟩, ?_, fun x hx => ?_⟩
  · show rows.length < _; omega
  · have := hr x hx; omega
  · show b.length < _; omega
  · show 24 * rows.length ≤ _; omega
  · have := hr x hx; omega
theorem pks_good {l : List CV} (h : good50 l) : ∃ p : List Pkt, l = [cPks p] ∧ 24 * p.length ≤ 140737488355328 := by
  obtain ⟨L, rfl, hg, hw⟩ := h
  obtain ⟨b, rfl, _⟩ := map_of (f := cPk) (g := fun _ => True) fun e he => by
    obtain ⟨_, _, _, rfl, ⟨s, rfl, _⟩, h1⟩ := hg e he
    obtain ⟨a, rfl, _⟩ := i64_good h1
    exact ⟨(s, a), rfl, trivial⟩
  rw [List.length_map] at hw
  exact ⟨b, rfl, by omega⟩
theorem size_good {l : List CV} (h : good49 l) : ∃ s a b c d, l = cSz s a b c d ∧ 0 ≤ s ∧ s < 18446744073709551616 := by
  obtain ⟨_, _, rfl, h1, _, _, rfl, h2, _, _, rfl, h3, _, _, rfl, h4, h5⟩ := h
  obtain ⟨s, rfl, s0, s1⟩ := u64_good h1
  obtain ⟨a, rfl, _⟩ := i64_good h2
  obtain ⟨b, rfl, _⟩ := i64_good h3
  obtain ⟨c, rfl, _⟩ := i64_good h4
  obtain ⟨d, rfl, _⟩ := i64_good h5
  exact ⟨s, a, b, c, d, rfl, s0, s1⟩
theorem cv_one {x y : CV} (h : [x] = [y]) : x = y := by cases h; rfl
theorem lawRadarNews_all : ∀ l, goodsRadarNews l → TV.pu 9 l = some (cB true) := by
  rintro l ⟨a, r, rfl, ⟨x, rfl, h1⟩, b, r2, rfl, ⟨y, rfl, h2⟩, c, r3, rfl, ⟨z, rfl, h3⟩, d, r4, rfl, ⟨u, rfl, h4⟩, e, r5, rfl, ⟨v, rfl, h5⟩, rfl⟩
  obtain ⟨s, hx, s0, s1⟩ := u64_good h1
  obtain ⟨n2, hy, _⟩ := i64_good h2
  obtain ⟨n3, hz, _⟩ := i64_good h3
  obtain ⟨n4, hu, _⟩ := i64_good h4
  obtain ⟨n5, hv, _⟩ := i64_good h5
  rw [cv_one hx, cv_one hy, cv_one hz, cv_one hu, cv_one hv]
  exact law_news s0 s1
theorem lawRadarTurns_all : ∀ l, goodsRadarTurns l → TV.pu 7 l = some (cB true) := by
  rintro l ⟨a, r, rfl, ⟨x, rfl, _, h1⟩, b, r2, rfl, ⟨y, rfl, h2⟩, c, r3, rfl, ⟨z, rfl, h3⟩, d, r4, rfl, ⟨u, rfl, h4⟩, rfl⟩
  obtain ⟨R, rfl, hs, hl, h7⟩ := rad_good h1
  obtain ⟨k, hy, _⟩ := h2
  obtain ⟨n3, hz, _⟩ := i64_good h3
  obtain ⟨n4, hu, i0, i1⟩ := i64_good h4
  rw [cv_one hy, cv_one hz, cv_one hu]
  exact law_turns hs hl h7 i0 i1
theorem lawRadarPeels_all : ∀ l, goodsRadarPeels l → TV.pu 3 l = some (cB true) := by
  rintro l ⟨a, r, rfl, ⟨x, rfl, _, h1⟩, b, r2, rfl, ⟨y, rfl, h2⟩, rfl⟩
  obtain ⟨R, rfl, hs, hl, h7⟩ := rad_good h1
  obtain ⟨t, hy, ht⟩ := strs_good h2
  rw [cv_one hy]
  exact law_peels hs hl h7 (by omega)
theorem lawRadarFinds_all : ∀ l, goodsRadarFinds l → TV.pu 4 l = some (cB true) := by
  rintro l ⟨a, r, rfl, ⟨x, rfl, _, h1⟩, b, r2, rfl, ⟨y, rfl, h2⟩, rfl⟩
  obtain ⟨s, n1, n2, n3, n4, rfl, s0, s1⟩ := size_good h1
  obtain ⟨p, hy, hp⟩ := pks_good h2
  rw [cv_one hy]
  exact law_finds s0 s1 (by omega)
theorem lawRadarCounts_all : ∀ l, goodsRadarCounts l → TV.pu 8 l = some (cB true) := by
  rintro l ⟨a, r, rfl, ⟨x, rfl, _, h1⟩, b, r2, rfl, ⟨y, rfl, h2⟩, rfl⟩
  obtain ⟨s, n1, n2, n3, n4, rfl, s0, s1⟩ := size_good h1
  obtain ⟨p, hy, hp⟩ := pks_good h2
  rw [cv_one hy]
  exact law_counts s0 s1 (by omega)
theorem lawRadarOrder_all : ∀ l, goodsRadarOrder l → TV.pu 5 l = some (cB true) := by
  rintro l ⟨a, r, rfl, ⟨x, rfl, _, h1⟩, b, r2, rfl, ⟨y, rfl, h2⟩, rfl⟩
  obtain ⟨s, n1, n2, n3, n4, rfl, s0, s1⟩ := size_good h1
  obtain ⟨p, hy, hp⟩ := pks_good h2
  rw [cv_one hy]
  exact law_order s0 s1 hp
theorem lawRadarAlone_all : ∀ l, goodsRadarAlone l → TV.pu 6 l = some (cB true) := by
  rintro l ⟨a, r, rfl, ⟨x, rfl, _, h1⟩, b, r2, rfl, ⟨y, rfl, h2⟩, c, r3, rfl, ⟨z, rfl, L, hL, hg, hw⟩, rfl⟩
  obtain ⟨s, n1, n2, n3, n4, rfl, s0, s1⟩ := size_good h1
  obtain ⟨k, hy, hk⟩ := h2
  obtain ⟨ns, rfl, hns⟩ := map_of (f := cU16) (g := fun n => 0 ≤ n ∧ n < 65536) fun e he => by
    obtain ⟨n, rfl, h1, h2⟩ := isI_one (hg e he).2
    have e1 : IntKind.u16.min = 0 := rfl
    have e2 : IntKind.u16.max = 65535 := rfl
    exact ⟨n, rfl, by omega, by omega⟩
  rw [List.length_map] at hw
  rw [cv_one hy, cv_one hL]
  exact law_alone s0 s1 hk hns (by omega)
end Go.Proofs.YthhbkihhllflfaaF
end
