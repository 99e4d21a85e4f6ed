/- Steps shared by the proofs of this seat's statements (part 3). -/
import Derived.Test.YtmgnmnogiajlgaaGreatC2
import Derived.Test.YtmgnmnogiajlgaaGreatC1
import Derived.Sort.Walk0
section
/- Filters of keys: the program's and the document's. -/
namespace Go.Proofs.YtmgnmnogiajlgaaGreatF
open Go Go.Proofs.Vm

def cB1 (b : Bool) : List CV := [.v (.bool b)]
def cF (seed h : Int) (bits : List Bool) : List CV := [.v (.int .u64 seed), .v (.int .i64 h), .arr (bits.map cB1)]
def fOk (h : Int) (bits : List Bool) : Bool := decide (1 ≤ h) && decide (h ≤ 7) && decide (1 ≤ bits.length) && decide (bits.length ≤ 256)
/-- A key's places. -/
def plc (seed h : Int) (key : ByteArray) (n : Nat) : List Int := (List.range h.toNat).map fun (i : Nat) => hcell (hrow seed (i : Int)) key (n : Int)
theorem plc_len (seed h : Int) (key : ByteArray) (n : Nat) : (plc seed h key n).length = h.toNat := by simp [plc]
theorem plc_mem {seed h : Int} {key : ByteArray} {n : Nat} (hn : 1 ≤ n) {p : Int} (hp : p ∈ plc seed h key n) : 0 ≤ p ∧ p < n := by
  obtain ⟨i, _, rfl⟩ := List.mem_map.1 hp
  exact hcell_range _ _ _ (by omega)
def addB (bits : List Bool) (ps : List Int) : List Bool := ps.foldl (fun b p => b.set p.toNat true) bits
theorem addB_len (ps : List Int) : ∀ bits, (addB bits ps).length = bits.length := by
  induction ps with
  | nil => intro b; rfl
  | cons p r ih => intro b; show (addB (b.set p.toNat true) r).length = _; rw [ih]; simp
theorem addB_snoc (bits : List Bool) (ps : List Int) (p : Int) : addB bits (ps ++ [p]) = (addB bits ps).set p.toNat true := by simp [addB]
theorem addB_get (ps : List Int) (hp : ∀ p ∈ ps, 0 ≤ p) : ∀ (bits : List Bool) (j : Nat) (h : j < bits.length), (addB bits ps)[j]? = some (bits[j] || ps.any fun p => decide (p = (j : Int))) := by
  induction ps with
  | nil => intro b j h; simp [addB, h]
  | cons p r ih =>
    intro b j h
    have h0 := hp p (by simp)
    show (addB (b.set p.toNat true) r)[j]? = _
    rw [ih (fun q hq => hp q (by simp [hq])) _ j (by simpa using h), List.getElem_set]
    congr 1
    by_cases c : p.toNat = j
    · have : p = (j : Int) := by omega
      simp [this]
    · have : ¬ p = (j : Int) := by omega
      simp [c, this]
def hasB (seed h : Int) (bits : List Bool) (key : ByteArray) : Bool := (plc seed h key bits.length).all fun p => bits.getD p.toNat false

theorem cB1_all (l : List Bool) : AllLen (l.map cB1) 1 := by intro x hx; obtain ⟨y, _, rfl⟩ := List.mem_map.1 hx; rfl
theorem take_b (l : List Bool) : (l.map cB1).take l.length = l.map cB1 := List.take_of_length_le (by simp)
theorem wr_bit (l : List Bool) (i : Nat) (b : Bool) : Ent.wrC (l.map cB1) i 0 [.v (.bool b)] = (l.set i b).map cB1 := by
  unfold Ent.wrC
  apply List.ext_getElem?
  intro j
  rw [List.getElem?_modify, List.getElem?_map, List.getElem?_map, List.getElem?_set]
  by_cases h : i = j
  · subst h
    cases hl : l[i]? with
    | none =>
      have := List.getElem?_eq_none_iff.1 hl
      simp; omega
    | some x =>
      have := (List.getElem?_eq_some_iff.1 hl).1
      simp [cB1, wr, this]
  · simp [h]

theorem bloom_Right (seed h : Int) (bits : List Bool) : TV.pu 79 [.agg (cF seed h bits)] = some (cB (fOk h bits)) := by
  refine run79 (by simp) ?_
  unfold fOk
  by_cases h1 : 1 ≤ h
  · by_cases h2 : h ≤ 7
    · by_cases h3 : 1 ≤ bits.length
      · have h3' : 1 ≤ (bits.length : Int) := by omega
        by_cases h4 : bits.length ≤ 256
        · have h4' : (bits.length : Int) ≤ 256 := by omega
          simp -implicitDefEqProofs [Tryz.f79, cF, h1, h2, h3, h3', h4, h4']
        · have h4' : ¬ (bits.length : Int) ≤ 256 := by omega
          simp -implicitDefEqProofs [Tryz.f79, cF, h1, h2, h3, h3', h4, h4']
      · have h3' : ¬ 1 ≤ (bits.length : Int) := by omega
        simp -implicitDefEqProofs [Tryz.f79, cF, h1, h2, h3, h3']
    · simp -implicitDefEqProofs [Tryz.f79, cF, h1, h2]
  · simp -implicitDefEqProofs [Tryz.f79, cF, h1]
theorem ref10_Right (seed h : Int) (bits : List Bool) : TV.pu 38 [.agg (cF seed h bits)] = some (cB (fOk h bits)) := by
  refine run38 (by simp) ?_
  unfold fOk
  by_cases h1 : 1 ≤ h
  · have g1 : 0 < h := by omega
    by_cases h2 : h ≤ 7
    · have g2 : h < 8 := by omega
      by_cases h3 : 1 ≤ bits.length
      · have h3' : 0 < bits.length := by omega
        have hne : bits ≠ [] := by rintro rfl; simp at h3
        by_cases h4 : bits.length ≤ 256
        · have h4' : (bits.length : Int) < 257 := by omega
          simp -implicitDefEqProofs [Tryz.f38, cF, h1, g1, h2, g2, h3, h3', h4, h4']
        · have h4' : ¬ (bits.length : Int) < 257 := by omega
          simp -implicitDefEqProofs [Tryz.f38, cF, h1, g1, h2, g2, h3, h3', h4, h4']
      · have hne : bits = [] := List.length_eq_zero_iff.1 (by omega)
        have h3' : ¬ 0 < bits.length := by omega
        simp -implicitDefEqProofs [Tryz.f38, cF, h1, g1, h2, g2, hne]
    · have g2 : ¬ h < 8 := by omega
      simp -implicitDefEqProofs [Tryz.f38, cF, h1, g1, h2, g2]
  · have g1 : ¬ 0 < h := by omega
    simp -implicitDefEqProofs [Tryz.f38, cF, h1, g1]

theorem fOk_iff {h : Int} {bits : List Bool} : fOk h bits = true ↔ 1 ≤ h ∧ h ≤ 7 ∧ 1 ≤ bits.length ∧ bits.length ≤ 256 := by
  unfold fOk; simp [and_assoc]

/-! A heap with more behind it. -/
theorem ap_get (H L : Hp) (j : Nat) : (H ++ L)[H.length + j]? = L[j]? := by rw [List.getElem?_append_right (by omega), Nat.add_sub_cancel_left]
theorem ap_get0 (H L : Hp) : (H ++ L)[H.length]? = L[0]? := ap_get H L 0
theorem ap_gete (H L : Hp) (j : Nat) (h : H.length + j < (H ++ L).length) : (H ++ L)[H.length + j]'h = L[j]'(by rw [List.length_append] at h; omega) := by
  rw [List.getElem_append_right (by omega)]; congr 1; omega
theorem ap_gete0 (H L : Hp) (h : H.length < (H ++ L).length) : (H ++ L)[H.length]'h = L[0]'(by rw [List.length_append] at h; omega) := ap_gete H L 0 h
theorem ap_set (H L : Hp) (j : Nat) (u : Ent) : (H ++ L).set (H.length + j) u = H ++ L.set j u := by rw [List.set_append_right _ _ (by omega), Nat.add_sub_cancel_left]
theorem ap_set0 (H L : Hp) (u : Ent) : (H ++ L).set H.length u = H ++ L.set 0 u := ap_set H L 0 u

set_option maxRecDepth 10000 in
theorem bloom_Places {seed h : Int} {bits : List Bool} {key : ByteArray} {H : Hp} {bc : Cell} (h0 : 0 ≤ seed) (h1 : seed < 18446744073709551616) (hs : key.size ≤ 140737488351232) (hf : fOk h bits = true)
    (hlen : ∀ L ty, vlen Tryz.prog (H ++ L) #[38] ty (.one bc) = qa (vI .i64 bits.length)) (hfz : ∀ L, fzc 5 (H ++ L) bc = some (.arr (bits.map cB1))) :
    ∃ a K, TV.S 85 [.agg [.c (.v (.int .u64 seed)), .c (.v (.int .i64 h)), bc], vS key] H = some (a, K) ∧ ∃ B E L, a = .one (.sl (H.length + 2) 0 h.toNat h.toNat) ∧ K = H ++ B :: E :: .clo ((plc seed h key bits.length).map cInt) false :: L := by
  refine runX85 (by simp) (by rintro a K ⟨B, E, L, -, rfl⟩; simp) ?_
  have hr := bloom_Right seed h bits
  simp only [cF] at hr
  obtain ⟨a1, a2, a3, a4⟩ := fOk_iff.1 hf
  rw [hf] at hr
  obtain ⟨m, rfl⟩ := Int.eq_ofNat_of_zero_le (show 0 ≤ h by omega)
  simp -implicitDefEqProofs [-fzc, fz_v, Tryz.f85, hr, vmove, isNil, hfz]
  obtain ⟨I, hI⟩ : ∃ I : Nat → St → Prop, ∀ k s', I k s' ↔ (∃ e i E L, s' = ⟨e, H ++ .opn [[.c (.v (.int .u64 seed)), .c (.v (.int .i64 m)), bc]] false :: E :: .clo (tk cInt (plc seed m key bits.length) i) false :: L⟩ ∧ e 1 = vS key ∧ e 2 = .one (.ptr ⟨H.length, 0, 0, 1⟩) ∧ e 5 = .one (.sl (H.length + 2) 0 i i) ∧ e 11 = vI .i64 (m : Nat) ∧ e 12 = vI .i64 (i : Nat) ∧ i + k = m) := ⟨_, fun _ _ => Iff.rfl⟩
  refine wpL_ind I ?_ m _ ((hI _ _).2 ⟨_, 0, _, _, by rw [tk_zero], by simp, by simp, by simp, by simp, by simp, by omega⟩)
  intro k st hst
  obtain ⟨e, i, E, L, rfl, e1, e2, e5, e11, e12, hk⟩ := (hI _ _).1 hst
  have hpl : (plc seed m key bits.length).length = m := by rw [plc_len]; rfl
  by_cases c : i < m
  · have w1 : IntKind.i64.wrap ((i : Int) + 1) = ((i + 1 : Nat) : Int) := by rw [w64_id (by omega) (by omega)]; omega
    have hrw := hash_Row (s := seed) (i := (i : Int)) h0 h1 (by omega) (by omega)
    have hrr := hrow_range seed (i : Int)
    have hcl := hash_Cell (seed := hrow seed (i : Int)) (s := key) (n := (bits.length : Int)) hrr.1 (by omega) hs (by omega)
    have il : i < (plc seed m key bits.length).length := by rw [hpl]; exact c
    have hat : (plc seed m key bits.length)[i] = hcell (hrow seed (i : Int)) key bits.length := by simp [plc]
    have htl : (tk cInt (plc seed m key bits.length) i).length = i := tk_len (by omega)
    have htm : AllLen (tk cInt (plc seed m key bits.length) i) 1 := tk_allLen fun _ => rfl
    have htk : tk cInt (plc seed m key bits.length) i ++ [[.v (.int .i64 (hcell (hrow seed (i : Int)) key bits.length))]] = tk cInt (plc seed m key bits.length) (i + 1) := by
      rw [← tk_succ il, hat]; rfl
    have b1 : 8 * (i + 1) ≤ 140737488355328 := by omega
    have b2 : i + 1 ≤ 4611686018427387904 := by omega
    simp -implicitDefEqProofs [-fzc, fz_v, e1, e2, e5, e11, e12, c, hrw, hcl, w1, hlen, vmove, isNil, vappend_sp es121 es121 el3, vbuildSlice_eq es121 el3, cellsOf?, fzParts, setAll, rchParts, rch, elemsOf, htl, htm, htk, b1, b2]
    exact ⟨k - 1, by omega, (hI _ _).2 ⟨_, i + 1, _, _, rfl, by simp [e1], by simp [e2], by simp, by simp [e11], by simp, by omega⟩⟩
  · have hi : i = m := by omega
    subst hi
    have hta := tk_all (f := cInt) (l := plc seed i key bits.length) (i := i) (by omega)
    rw [hta]
    simp -implicitDefEqProofs [e5, e11, e12, vmove, isNil]
/-- Of a filter that is not right there are none. -/
theorem bloom_Places_no {seed h : Int} {bits : List Bool} {key : ByteArray} {H : Hp} (hf : fOk h bits = false) : ∃ id L, TV.S 85 [.agg ((cF seed h bits).map .c), vS key] H = some (.one (.sl id 0 0 0), H ++ L) ∧ (H ++ L)[id]? = some (.clo [] false) := by
  have hr := bloom_Right seed h bits
  rw [hf] at hr
  simp only [cF] at hr
  refine ⟨H.length + 2, [.opn [(cF seed h bits).map .c] false, .clo [] false, .clo [] false], run85 (by simp) (by simp) ?_, by rw [ap_get]; rfl⟩
  simp -implicitDefEqProofs [Tryz.f85, cF, hr, vmove, isNil]

theorem index_ints {g : CV} {caps : List CV} {f : FuncId} (hg : g = .fn f caps) {p : Int → Bool} {r : List Int} (hp : ∀ n ∈ r, TV.pu f (cI .i64 n :: caps.map .one) = some (cB (p n))) (hl : r.length < 9223372036854775807) :
    TV.pu 115 [.one (.arr (r.map cInt)), .one g] = some (cI .i64 (idxF p r)) := by
  subst hg
  refine run115 (by simp) ?_
  simp [Tryz.f115]
  obtain ⟨I, hI⟩ : ∃ I : Nat → St → Prop, ∀ k s', I k s' ↔ (∃ e j, s' = ⟨e, []⟩ ∧ e 0 = .one (.c (.arr (r.map cInt))) ∧ e 1 = .one (.c (.fn f caps)) ∧ e 7 = vI .i64 r.length ∧ e 8 = vI .i64 (j : Nat) ∧ j + k = r.length ∧ ∀ q, q < j → ∀ x, r[q]? = some x → p x = false) := ⟨_, fun _ _ => Iff.rfl⟩
  refine wpL_ind I ?_ r.length _ ((hI _ _).2 ⟨_, 0, rfl, by simp, by simp, by simp, by simp, by omega, by simp⟩)
  intro k st hst
  obtain ⟨e, j, rfl, e0, e1, e7, e8, hk, hno⟩ := (hI _ _).1 hst
  by_cases c : j < r.length
  · have hx : r[j]? = some r[j] := List.getElem?_eq_getElem c
    have hpj := hp r[j] (List.getElem_mem c)
    have w1 : IntKind.i64.wrap ((j : Int) + 1) = ((j + 1 : Nat) : Int) := by rw [w64_id (by omega) (by omega)]; omega
    simp [e0, e1, e7, e8, c, hpj, w1, cInt]
    by_cases hj : p r[j] = true
    · simp [hj, idxF_at p r j c hj hno]
    · simp [hj]
      refine ⟨k - 1, by omega, (hI _ _).2 ⟨_, j + 1, rfl, by simp [e0], by simp [e1], by simp [e7], by simp, by omega, ?_⟩⟩
      intro q hq x hx2
      by_cases hqj : q = j
      · subst hqj
        rw [hx] at hx2
        cases hx2
        simpa using hj
      · exact hno q (by omega) x hx2
  · have c' : ¬ (j : Int) < (r.length : Int) := by omega
    simp [e0, e1, e7, e8, c']
    rw [idxF_none p r fun q hq => hno q (by omega)]
theorem contains_ints {g : CV} {caps : List CV} {f : FuncId} (hg : g = .fn f caps) {p : Int → Bool} {r : List Int} (hp : ∀ n ∈ r, TV.pu f (cI .i64 n :: caps.map .one) = some (cB (p n))) (hl : r.length < 9223372036854775807) :
    TV.pu 84 [.one (.arr (r.map cInt)), .one g] = some (cB (r.any p)) := by
  refine run84 (by simp) ?_
  have h := index_ints hg hp hl
  subst hg
  simp [Tryz.f84, h, idxF_ge] at h ⊢

theorem bloom_lam {seed h : Int} {bits : List Bool} {p : Int} (h0 : 0 ≤ p) (h1 : p < bits.length) : TV.pu 86 [cI .i64 p, .one (.cptr (cF seed h bits))] = some (cB (!bits.getD p.toNat false)) := by
  refine run86 (by simp) ?_
  have hlt : p.toNat < bits.length := by omega
  simp -implicitDefEqProofs [Tryz.f86, cF, cB1, h0, hlt, List.getD]
set_option maxRecDepth 10000 in
theorem bloom_Has {seed h : Int} {bits : List Bool} {key : ByteArray} (h0 : 0 ≤ seed) (h1 : seed < 18446744073709551616) (hs : key.size ≤ 140737488351232) : TV.pu 52 [.agg (cF seed h bits), cS key] = some (cB (fOk h bits && hasB seed h bits key)) := by
  refine run52 (by simp) ?_
  have hr := bloom_Right seed h bits
  simp only [cF] at hr
  cases hf : fOk h bits with
  | false =>
    rw [hf] at hr
    simp -implicitDefEqProofs [Tryz.f52, cF, hr]
  | true =>
    obtain ⟨a1, a2, a3, a4⟩ := fOk_iff.1 hf
    rw [hf] at hr
    obtain ⟨a, K, hp, B, E, L, rfl, rfl⟩ := bloom_Places (seed := seed) (h := h) (bits := bits) (key := key) (H := [.opn [(cF seed h bits).map .c] false]) (bc := .c (.arr (bits.map cB1))) h0 h1 hs hf (fun L ty => by simp) (fun L => rfl)
    have hc := contains_ints (g := .fn 86 [.cptr (cF seed h bits)]) rfl (p := fun p => !bits.getD p.toNat false) (r := plc seed h key bits.length) (fun p hpm => by
      have := plc_mem a3 hpm
      exact bloom_lam this.1 this.2) (by rw [plc_len]; omega)
    have he : ((plc seed h key bits.length).any fun p => !bits.getD p.toNat false) = !hasB seed h bits key := by
      unfold hasB; rw [List.all_eq_not_any_not]; simp
    have htt : ((plc seed h key bits.length).map cInt).take h.toNat = (plc seed h key bits.length).map cInt := List.take_of_length_le (by simp [plc_len])
    rw [he] at hc
    simp only [cF, List.map_cons, List.map_nil, List.cons_append, List.nil_append] at hc hp
    have hpl := plc_len seed h key bits.length
    simp -implicitDefEqProofs [Tryz.f52, cF, hr, hp, hc, hpl, htt]

theorem bool_Clone {r : List Bool} {H : Hp} (h0 : r ≠ []) (hl : r.length ≤ 100000) : TV.S 88 [.one (.c (.arr (r.map cB1)))] H = some (.one (.sl (H.length + 1) 0 r.length r.length), H ++ [.clo [] false, .clo (r.map cB1) false]) := by
  refine run88 (by simp) (by simp) ?_
  have ha := vappend_eq (P := Tryz.prog) (H := H ++ [.clo [] false, .clo [] false]) (t := 38) (tx := 38) (id := H.length + 1) (n := 0) (l := []) (xs := r.map cB1) (x := .one (.c (.arr (r.map cB1)))) es38 es38 el4
    (by simp) rfl rfl (by simp) (cB1_all r) (by simp; omega) (by simp; omega)
  obtain ⟨x, t, rfl⟩ : ∃ h t, r = h :: t := by cases r with | nil => exact absurd rfl h0 | cons h t => exact ⟨h, t, rfl⟩
  simp at ha
  simp [Tryz.f88, vmove, isNil, bin_sln es38, bs_zero es38 el4, ha]

set_option maxRecDepth 10000 in
theorem bloom_Add {seed h : Int} {bits : List Bool} {key : ByteArray} (h0 : 0 ≤ seed) (h1 : seed < 18446744073709551616) (hs : key.size ≤ 140737488351232) (hf : fOk h bits = true) : TV.pu 54 [.agg (cF seed h bits), cS key] = some (.agg (cF seed h (addB bits (plc seed h key bits.length)))) := by
  refine run54 (by simp) ?_
  obtain ⟨a1, a2, a3, a4⟩ := fOk_iff.1 hf
  obtain ⟨m, rfl⟩ := Int.eq_ofNat_of_zero_le (show 0 ≤ h by omega)
  have hne : bits ≠ [] := by rintro rfl; simp at a3
  have hcl := fun H => bool_Clone (r := bits) (H := H) hne (by omega)
  have htb := take_b bits
  have hlb : bits.length = (bits.map cB1).length := by simp
  obtain ⟨H0, hH0⟩ : ∃ H0 : Hp, H0 = [.opn [[.c (.v (.int .u64 seed)), .c (.v (.int .i64 m)), .sl 4 0 bits.length bits.length]] false, .opn [[.c (.v (.int .u64 0)), .c (.v (.int .i64 0)), .sl 2 0 0 0]] false, .clo [] false, .clo [] false, .clo (bits.map cB1) false] := ⟨_, rfl⟩
  obtain ⟨a, K, hp, B, E, L, rfl, rfl⟩ := bloom_Places (seed := seed) (h := (m : Int)) (bits := bits) (key := key) (H := H0) (bc := .sl 4 0 bits.length bits.length) h0 h1 hs hf (fun L ty => by subst hH0; simp) (fun L => by subst hH0; simp [take_b])
  have hpl : (plc seed m key bits.length).length = m := plc_len ..
  subst hH0
  simp only [List.cons_append, List.nil_append, List.length_cons, List.length_nil, Nat.zero_add, Nat.reduceAdd, Int.toNat_natCast] at hp
  simp -implicitDefEqProofs [Tryz.f54, cF, hcl, hp, hpl, vstore, cellsOf?, Ent.wrO, wr]
  obtain ⟨ps, hps⟩ : ∃ ps, ps = plc seed m key bits.length := ⟨_, rfl⟩
  have hmem : ∀ p ∈ ps, 0 ≤ p ∧ p < bits.length := fun p hp => plc_mem a3 (hps ▸ hp)
  rw [← hps] at hpl ⊢
  obtain ⟨I, hI⟩ : ∃ I : Nat → St → Prop, ∀ k s', I k s' ↔ (∃ e i X C D B E L, s' = ⟨e, .opn [[.c (.v (.int .u64 seed)), .c (.v (.int .i64 m)), .sl 4 0 bits.length bits.length]] false :: .opn [[.c (.v (.int .u64 0)), .c (.v (.int .i64 0)), X]] false :: C :: D :: .clo ((addB bits (ps.take i)).map cB1) false :: B :: E :: .clo (ps.map cInt) false :: L⟩ ∧
    e 2 = .one (.ptr ⟨0, 0, 0, 1⟩) ∧ e 4 = .one (.ptr ⟨1, 0, 0, 1⟩) ∧ e 13 = .one (.sl 7 0 m m) ∧ e 14 = vI .i64 (m : Nat) ∧ e 15 = vI .i64 (i : Nat) ∧ i + k = m) := ⟨_, fun _ _ => Iff.rfl⟩
  refine wpL_ind I ?_ m _ ((hI _ _).2 ⟨_, 0, _, _, _, _, _, _, rfl, by simp, by simp, by simp, by simp, by simp, by omega⟩)
  intro k st hst
  obtain ⟨e, i, X, C, D, B, E, L, rfl, e2, e4, e13, e14, e15, hk⟩ := (hI _ _).1 hst
  have hal : (addB bits (ps.take i)).length = bits.length := addB_len _ _
  by_cases c : i < m
  · have w1 : IntKind.i64.wrap ((i : Int) + 1) = ((i + 1 : Nat) : Int) := by rw [w64_id (by omega) (by omega)]; omega
    have il : i < ps.length := by rw [hpl]; exact c
    obtain ⟨q0, q1⟩ := hmem ps[i] (List.getElem_mem il)
    have q2 : ps[i].toNat < bits.length := by omega
    have hsn : (addB bits (ps.take i)).set ps[i].toNat true = addB bits (ps.take (i + 1)) := by
      rw [List.take_add_one, List.getElem?_eq_getElem il]
      exact (addB_snoc _ _ _).symm
    have hwb := wr_bit (addB bits (ps.take i)) ps[i].toNat true
    rw [hsn] at hwb
    simp -implicitDefEqProofs [-List.map_set, e2, e13, e14, e15, c, hpl, cInt, cB1, q0, q2, hal, hwb, w1, vstore, cellsOf?]
    exact ⟨k - 1, by omega, (hI _ _).2 ⟨_, i + 1, _, _, _, _, _, _, rfl, by simp [e2], by simp [e4], by simp [e13], by simp [e14], by simp, by omega⟩⟩
  · have hti : ps.take i = ps := List.take_of_length_le (by omega)
    have htb2 := take_b (addB bits ps)
    have hal2 := addB_len ps bits
    rw [hal2] at htb2
    rw [hti]
    simp -implicitDefEqProofs [e2, e4, e14, e15, c, vstore, cellsOf?, Ent.wrO, wr]
    simp -implicitDefEqProofs [qa, hal2, htb2]

/-! The document's. -/
theorem onB_get {seed h : Int} {key : ByteArray} {n : Nat} (hn : 1 ≤ n) (bits : List Bool) (hb : bits.length = n) (p : Nat) (hp : p < n) (hp2 : p < (addB (List.replicate n false) (plc seed h key n)).length) :
    (bits[p]'(by omega) || (addB (List.replicate n false) (plc seed h key n))[p]) = (addB bits (plc seed h key n))[p]'(by rw [addB_len]; omega) := by
  have h1 := addB_get (plc seed h key n) (fun q hq => (plc_mem hn hq).1) (List.replicate n false) p (by simp; exact hp)
  have h2 := addB_get (plc seed h key n) (fun q hq => (plc_mem hn hq).1) bits p (by omega)
  rw [List.getElem?_eq_getElem hp2] at h1
  rw [List.getElem?_eq_getElem (by rw [addB_len]; omega)] at h2
  rw [Option.some.inj h1, Option.some.inj h2]
  simp
set_option maxRecDepth 10000 in
theorem ref10_at {seed h : Int} {bits : List Bool} {key : ByteArray} (h0 : 0 ≤ seed) (h1 : seed < 18446744073709551616) (hs : key.size ≤ 1000) (hf : fOk h bits = true) : TV.pu 64 [.agg (cF seed h bits), cS key] = some (.one (.arr ((addB (List.replicate bits.length false) (plc seed h key bits.length)).map cB1))) := by
  refine run64 (by simp) ?_
  obtain ⟨a1, a2, a3, a4⟩ := fOk_iff.1 hf
  obtain ⟨m, rfl⟩ := Int.eq_ofNat_of_zero_le (show 0 ≤ h by omega)
  have hrep : List.replicate bits.length [CV.v (.bool false)] = (List.replicate bits.length false).map cB1 := by simp [cB1]
  have b1 : 1 * bits.length ≤ 140737488355328 := by omega
  have b1' : bits.length ≤ 140737488355328 := by omega
  have b2 : (bits.length : Int) ≤ 4611686018427387904 := by omega
  simp -implicitDefEqProofs [-List.map_replicate, Tryz.f64, cF, vmakeSlice_eq es38 el4, small, hrep, b1', b2]
  obtain ⟨ps, hps⟩ : ∃ ps, ps = plc seed m key bits.length := ⟨_, rfl⟩
  have hpl : ps.length = m := by rw [hps, plc_len]; rfl
  have hmem : ∀ p ∈ ps, 0 ≤ p ∧ p < bits.length := fun p hp => plc_mem a3 (hps ▸ hp)
  obtain ⟨z, hz⟩ : ∃ z, z = List.replicate bits.length false := ⟨_, rfl⟩
  have hzl : z.length = bits.length := by rw [hz]; simp
  rw [← hps, ← hz]
  obtain ⟨I, hI⟩ : ∃ I : Nat → St → Prop, ∀ k s', I k s' ↔ (∃ e i E L, s' = ⟨e, .opn [[.c (.v (.int .u64 seed)), .c (.v (.int .i64 m)), .c (.arr (bits.map cB1))]] false :: E :: .clo ((addB z (ps.take i)).map cB1) false :: L⟩ ∧ e 1 = vS key ∧ e 2 = .one (.ptr ⟨0, 0, 0, 1⟩) ∧ e 5 = .one (.sl 2 0 bits.length bits.length) ∧ e 6 = vI .i64 (i : Nat) ∧ i + k = m) := ⟨_, fun _ _ => Iff.rfl⟩
  refine wpL_ind I ?_ m _ ((hI _ _).2 ⟨_, 0, _, _, rfl, by simp, by simp, by simp, by simp, by omega⟩)
  intro k st hst
  obtain ⟨e, i, E, L, rfl, e1, e2, e5, e6, hk⟩ := (hI _ _).1 hst
  have hal : (addB z (ps.take i)).length = bits.length := by rw [addB_len, hzl]
  by_cases c : i < m
  · have w1 : IntKind.i64.wrap ((i : Int) + 1) = ((i + 1 : Nat) : Int) := by rw [w64_id (by omega) (by omega)]; omega
    have il : i < ps.length := by rw [hpl]; exact c
    obtain ⟨q0, q1⟩ := hmem ps[i] (List.getElem_mem il)
    have q2 : ps[i].toNat < bits.length := by omega
    have hrw := r2_Row (s := seed) (i := (i : Int)) h0 h1 (by omega) (by omega)
    have hrr := hrow_range seed (i : Int)
    have hcl := r2_Cell (seed := hrow seed (i : Int)) (s := key) (n := (bits.length : Int)) hrr.1 (by omega) hs (by omega)
    have hat : hcell (hrow seed (i : Int)) key bits.length = ps[i] := by simp [hps, plc]
    rw [hat] at hcl
    have hsn : (addB z (ps.take i)).set ps[i].toNat true = addB z (ps.take (i + 1)) := by
      rw [List.take_add_one, List.getElem?_eq_getElem il]
      exact (addB_snoc _ _ _).symm
    have hwb := wr_bit (addB z (ps.take i)) ps[i].toNat true
    rw [hsn] at hwb
    simp -implicitDefEqProofs [-List.map_set, e1, e2, e5, e6, c, hrw, hcl, cB1, q0, q2, hal, hwb, w1, vstore, cellsOf?]
    exact ⟨k - 1, by omega, (hI _ _).2 ⟨_, i + 1, _, _, rfl, by simp [e1], by simp [e2], by simp [e5], by simp, by omega⟩⟩
  · have hti : ps.take i = ps := List.take_of_length_le (by omega)
    have htb2 := take_b (addB z ps)
    have hal2 : (addB z ps).length = bits.length := by rw [addB_len, hzl]
    rw [hal2] at htb2
    rw [hti]
    simp -implicitDefEqProofs [e2, e5, e6, c, hal2, htb2]

theorem has_iff {seed hh : Int} {bits : List Bool} {key : ByteArray} (hn : 1 ≤ bits.length) : hasB seed hh bits key = true ↔ ∀ p, ∀ hp : p < bits.length, ∀ hp2 : p < (addB (List.replicate bits.length false) (plc seed hh key bits.length)).length, (addB (List.replicate bits.length false) (plc seed hh key bits.length))[p] = true → bits[p] = true := by
  have key0 := fun (p : Nat) (hp : p < bits.length) => addB_get (plc seed hh key bits.length) (fun q hq => (plc_mem hn hq).1) (List.replicate bits.length false) p (by simp; exact hp)
  unfold hasB
  rw [List.all_eq_true]
  constructor
  · intro h p hp hp2 hon
    have h1 := key0 p hp
    rw [List.getElem?_eq_getElem hp2, hon] at h1
    have h2 := Option.some.inj h1
    simp only [List.getElem_replicate, Bool.false_or] at h2
    obtain ⟨q, hq, hqp⟩ := List.any_eq_true.1 h2.symm
    have hqp : q = (p : Int) := of_decide_eq_true hqp
    have := h q hq
    rw [hqp, Int.toNat_natCast, List.getD_eq_getElem?_getD, List.getElem?_eq_getElem hp] at this
    exact this
  · intro h q hq
    obtain ⟨q0, q1⟩ := plc_mem hn hq
    have hp : q.toNat < bits.length := by omega
    have hp2 : q.toNat < (addB (List.replicate bits.length false) (plc seed hh key bits.length)).length := by rw [addB_len]; simp; exact hp
    have h1 := key0 q.toNat hp
    rw [List.getElem?_eq_getElem hp2] at h1
    have h2 := Option.some.inj h1
    rw [List.getD_eq_getElem?_getD, List.getElem?_eq_getElem hp]
    refine h _ hp hp2 ?_
    rw [h2]
    simp only [List.getElem_replicate, Bool.false_or]
    exact List.any_eq_true.2 ⟨q, hq, decide_eq_true (by omega)⟩
set_option maxRecDepth 10000 in
theorem ref10_Has {seed h : Int} {bits : List Bool} {key : ByteArray} (h0 : 0 ≤ seed) (h1 : seed < 18446744073709551616) (hs : key.size ≤ 1000) (hf : fOk h bits = true) : TV.pu 32 [.agg (cF seed h bits), cS key] = some (cB (hasB seed h bits key)) := by
  refine run32 (by simp) ?_
  obtain ⟨a1, a2, a3, a4⟩ := fOk_iff.1 hf
  have hat := ref10_at (seed := seed) (h := h) (bits := bits) (key := key) h0 h1 hs hf
  have hh := has_iff (seed := seed) (hh := h) (key := key) a3
  obtain ⟨on, hone⟩ : ∃ on, on = addB (List.replicate bits.length false) (plc seed h key bits.length) := ⟨_, rfl⟩
  have hol : on.length = bits.length := by rw [hone, addB_len]; simp
  rw [← hone] at hat
  simp only [← hone] at hh
  simp only [cF] at hat
  simp -implicitDefEqProofs [Tryz.f32, cF, hat]
  obtain ⟨I, hI⟩ : ∃ I : Nat → St → Prop, ∀ k s', I k s' ↔ (∃ e i L, s' = ⟨e, .opn [[.c (.v (.int .u64 seed)), .c (.v (.int .i64 h)), .c (.arr (bits.map cB1))]] false :: L⟩ ∧ e 2 = .one (.ptr ⟨0, 0, 0, 1⟩) ∧ e 5 = .one (.c (.arr (on.map cB1))) ∧ e 6 = vI .i64 (i : Nat) ∧ i + k = bits.length ∧ ∀ p, p < i → ∀ hp : p < bits.length, ∀ hp2 : p < on.length, on[p] = true → bits[p] = true) := ⟨_, fun _ _ => Iff.rfl⟩
  refine wpL_ind I ?_ bits.length _ ((hI _ _).2 ⟨_, 0, _, rfl, by simp, by simp, by simp, by omega, fun p h => absurd h (Nat.not_lt_zero _)⟩)
  intro k st hst
  obtain ⟨e, i, L, rfl, e2, e5, e6, hk, hall⟩ := (hI _ _).1 hst
  by_cases c : i < bits.length
  · have w1 : IntKind.i64.wrap ((i : Int) + 1) = ((i + 1 : Nat) : Int) := by rw [w64_id (by omega) (by omega)]; omega
    have co : i < on.length := by omega
    cases hb : bits[i] with
    | true =>
      simp -implicitDefEqProofs [e2, e6, c, cB1, hb, w1]
      refine ⟨k - 1, by omega, (hI _ _).2 ⟨_, i + 1, _, rfl, by simp [e2], by simp [e5], by simp, by omega, fun p hp q1 q2 q3 => ?_⟩⟩
      by_cases hpi : p = i
      · subst hpi; exact hb
      · exact hall p (by omega) q1 q2 q3
    | false =>
      cases ho : on[i] with
      | true =>
        have : hasB seed h bits key = false := by
          cases hB : hasB seed h bits key with
          | false => rfl
          | true => have := hh.1 hB i c co ho; rw [hb] at this; cases this
        rw [this]
        simp -implicitDefEqProofs [e2, e5, e6, c, co, cB1, hb, ho]
      | false =>
        simp -implicitDefEqProofs [e2, e5, e6, c, co, cB1, hb, ho, w1]
        refine ⟨k - 1, by omega, (hI _ _).2 ⟨_, i + 1, _, rfl, by simp [e2], by simp [e5], by simp, by omega, fun p hp q1 q2 q3 => ?_⟩⟩
        by_cases hpi : p = i
        · subst hpi; rw [ho] at q3; cases q3
        · exact hall p (by omega) q1 q2 q3
  · have : hasB seed h bits key = true := hh.2 fun p hp hp2 => hall p (by omega) hp hp2
    rw [this]
    simp -implicitDefEqProofs [e2, e6, c]

def eqF (s h : Int) (b : List Bool) (s' h' : Int) (b' : List Bool) : Bool := decide (s = s' ∧ h = h' ∧ b = b')
set_option maxRecDepth 10000 in
theorem ref10_Equal {s h s' h' : Int} {b b' : List Bool} (hl : b.length < 4611686018427387904) : TV.pu 35 [.agg (cF s h b), .agg (cF s' h' b')] = some (cB (eqF s h b s' h' b')) := by
  refine run35 (by simp) ?_
  by_cases c1 : s = s'
  · subst c1
    by_cases c2 : h = h'
    · subst c2
      by_cases c3 : b.length = b'.length
      · have c3' : (b.length : Int) = (b'.length : Int) := by omega
        simp -implicitDefEqProofs [Tryz.f35, cF, c3']
        obtain ⟨I, hI⟩ : ∃ I : Nat → St → Prop, ∀ k s0, I k s0 ↔ (∃ e i L, s0 = ⟨e, .opn [[.c (.v (.int .u64 s)), .c (.v (.int .i64 h)), .c (.arr (b.map cB1))]] false :: .opn [[.c (.v (.int .u64 s)), .c (.v (.int .i64 h)), .c (.arr (b'.map cB1))]] false :: L⟩ ∧ e 2 = .one (.ptr ⟨0, 0, 0, 1⟩) ∧ e 3 = .one (.ptr ⟨1, 0, 0, 1⟩) ∧ e 5 = vI .i64 (i : Nat) ∧ i + k = b.length ∧ ∀ p, p < i → ∀ hp : p < b.length, ∀ hp2 : p < b'.length, b[p] = b'[p]) := ⟨_, fun _ _ => Iff.rfl⟩
        refine wpL_ind I ?_ b.length _ ((hI _ _).2 ⟨_, 0, _, rfl, by simp, by simp, by simp, by omega, fun p h => absurd h (Nat.not_lt_zero _)⟩)
        intro k st hst
        obtain ⟨e, i, L, rfl, e2, e3, e5, hk, hall⟩ := (hI _ _).1 hst
        by_cases c : i < b.length
        · have w1 : IntKind.i64.wrap ((i : Int) + 1) = ((i + 1 : Nat) : Int) := by rw [w64_id (by omega) (by omega)]; omega
          have co : i < b'.length := by omega
          by_cases hb : b[i] = b'[i]
          · simp -implicitDefEqProofs [e2, e3, e5, c, co, cB1, hb, bin_bne ub4, w1]
            refine ⟨k - 1, by omega, (hI _ _).2 ⟨_, i + 1, _, rfl, by simp [e2], by simp [e3], by simp, by omega, fun p hp q1 q2 => ?_⟩⟩
            by_cases hpi : p = i
            · subst hpi; exact hb
            · exact hall p (by omega) q1 q2
          · have hf : eqF s h b s h b' = false := by
              unfold eqF
              simp only [decide_eq_false_iff_not]
              rintro ⟨-, -, rfl⟩; exact hb rfl
            have hb2 : (b[i] != b'[i]) = true := by simpa using hb
            rw [hf]
            simp -implicitDefEqProofs [e2, e3, e5, c, co, cB1, hb2, bin_bne ub4]
        · have hf : eqF s h b s h b' = true := by
            unfold eqF
            simp only [decide_eq_true_eq]
            exact ⟨trivial, trivial, List.ext_getElem c3 fun q q1 q2 => hall q (by omega) q1 q2⟩
          rw [hf]
          simp -implicitDefEqProofs [e2, e5, c]
      · have c3' : ¬ (b.length : Int) = (b'.length : Int) := by omega
        have hf : eqF s h b s h b' = false := by
          unfold eqF
          simp only [decide_eq_false_iff_not]
          rintro ⟨-, -, rfl⟩; exact c3 rfl
        rw [hf]
        simp -implicitDefEqProofs [Tryz.f35, cF, c3']
    · have hf : eqF s h b s h' b' = false := by
        unfold eqF
        simp only [decide_eq_false_iff_not]
        rintro ⟨-, rfl, -⟩; exact c2 rfl
      rw [hf]
      simp -implicitDefEqProofs [Tryz.f35, cF, c2]
  · have hf : eqF s h b s' h' b' = false := by
      unfold eqF
      simp only [decide_eq_false_iff_not]
      rintro ⟨rfl, -, -⟩; exact c1 rfl
    rw [hf]
    simp -implicitDefEqProofs [Tryz.f35, cF, c1]

set_option maxRecDepth 10000 in
theorem bloom_New {seed bits h : Int} (hb1 : 1 ≤ bits) (hb2 : bits ≤ 256) (hh1 : 1 ≤ h) (hh2 : h ≤ 7) : TV.pu 47 [cI .u64 seed, cI .i64 bits, cI .i64 h] = some (.tup [(true, cF seed h (List.replicate bits.toNat false)), (false, [.v (.int .i64 0)])]) := by
  refine run47 (by simp) ?_
  obtain ⟨n, rfl⟩ := Int.eq_ofNat_of_zero_le (show 0 ≤ bits by omega)
  have g1 : ¬ (n : Int) < 1 := by omega
  have g2 : ¬ 256 < (n : Int) := by omega
  have hrep : List.replicate n [CV.v (.bool false)] = (List.replicate n false).map cB1 := by simp [cB1]
  have hr := bloom_Right seed h (List.replicate n false)
  rw [show fOk h (List.replicate n false) = true from fOk_iff.2 ⟨hh1, hh2, by simp; omega, by simp; omega⟩] at hr
  have htb := take_b (List.replicate n false)
  rw [List.length_replicate] at htb
  have b1' : n ≤ 140737488355328 := by omega
  have b2 : (n : Int) ≤ 4611686018427387904 := by omega
  simp only [cF] at hr
  simp -implicitDefEqProofs [-List.map_replicate, Tryz.f47, cF, g1, g2, vmakeSlice_eq es38 el4, small, hrep, hr, htb, b1', b2, vstore, cellsOf?, Ent.wrO, wr, vmove, isNil]
  simp -implicitDefEqProofs [-List.map_replicate, qa, htb]
theorem bloom_New_arg {seed bits h : Int} (hb : ¬ (1 ≤ bits ∧ bits ≤ 256 ∧ 1 ≤ h ∧ h ≤ 7)) : TV.pu 47 [cI .u64 seed, cI .i64 bits, cI .i64 h] = some (.tup [(true, cF 0 0 []), (false, [.v (.int .i64 1)])]) := by
  refine run47 (by simp) ?_
  by_cases g1 : bits < 1
  · simp -implicitDefEqProofs [Tryz.f47, cF, g1, vstore, cellsOf?, Ent.wrO, wr, vmove, isNil]
    simp -implicitDefEqProofs [qa]
  · by_cases g2 : 256 < bits
    · simp -implicitDefEqProofs [Tryz.f47, cF, g1, g2, vstore, cellsOf?, Ent.wrO, wr, vmove, isNil]
      simp -implicitDefEqProofs [qa]
    · obtain ⟨n, rfl⟩ := Int.eq_ofNat_of_zero_le (show 0 ≤ bits by omega)
      have hrep : List.replicate n [CV.v (.bool false)] = (List.replicate n false).map cB1 := by simp [cB1]
      have hr := bloom_Right seed h (List.replicate n false)
      have hff : fOk h (List.replicate n false) = false := by
        cases hx : fOk h (List.replicate n false) with
        | false => rfl
        | true => have := fOk_iff.1 hx; omega
      rw [hff] at hr
      have htb := take_b (List.replicate n false)
      rw [List.length_replicate] at htb
      have b1' : n ≤ 140737488355328 := by omega
      have b2 : (n : Int) ≤ 4611686018427387904 := by omega
      simp only [cF] at hr
      simp -implicitDefEqProofs [-List.map_replicate, Tryz.f47, cF, g1, g2, vmakeSlice_eq es38 el4, small, hrep, hr, htb, b1', b2, vstore, cellsOf?, Ent.wrO, wr, vmove, isNil]
      simp -implicitDefEqProofs [qa]
end Go.Proofs.YtmgnmnogiajlgaaGreatF
end

section
/- Radars: what a right one is; a key's place. -/
namespace Go.Proofs.YtmgnmnogiajlgaaGreatF
open Go Go.Proofs.Vm

/-- A cell: the keys joined, flows, packets, bytes. -/
abbrev RCl := ByteArray × Int × Int × Int
def cCl (c : RCl) : List CV := [.v (.string c.1), .v (.int .i64 c.2.1), .v (.int .i64 c.2.2.1), .v (.int .i64 c.2.2.2)]
def cRw (l : List RCl) : CV := .arr (l.map cCl)
def cRws (rows : List (List RCl)) : CV := .arr (rows.map fun l => [cRw l])
structure Rad where
  s : Int
  fs : Int
  h : Int
  bits : List Bool
  rows : List (List RCl)
def cRad (r : Rad) : List CV := [.v (.int .u64 r.s), .v (.int .u64 r.fs), .v (.int .i64 r.h), .arr (r.bits.map cB1), cRws r.rows]
def fitB (n : Int) : Bool := decide (0 ≤ n) && decide (n ≤ 1099511627776)
def wrongB (c : RCl) : Bool := decide (c.1.size ≠ 37) || decide (c.2.1 < -1099511627776) || decide (1099511627776 < c.2.1) || !fitB c.2.2.1 || !fitB c.2.2.2

theorem rd_fits (n : Int) : TV.pu 51 [cI .i64 n] = some (cB (fitB n)) := by
  refine run51 (by simp) ?_
  unfold fitB
  by_cases h1 : 0 ≤ n <;> simp -implicitDefEqProofs [Tryz.f51, h1]
theorem rd_wrong (c : RCl) : TV.pu 57 [.agg (cCl c)] = some (cB (wrongB c)) := by
  refine run57 (by simp) ?_
  have f1 := rd_fits c.2.2.1
  have f2 := rd_fits c.2.2.2
  unfold wrongB
  by_cases h1 : c.1.size = 37
  · have h1' : (c.1.size : Int) = 37 := by omega
    by_cases h2 : c.2.1 < -1099511627776
    · simp -implicitDefEqProofs [Tryz.f57, cCl, h1, h2]
    · by_cases h3 : 1099511627776 < c.2.1
      · simp -implicitDefEqProofs [Tryz.f57, cCl, h1, h2, h3]
      · cases h4 : fitB c.2.2.1 with
        | false =>
          rw [h4] at f1
          simp -implicitDefEqProofs [Tryz.f57, cCl, h1, h2, h3, f1]
        | true =>
          rw [h4] at f1
          simp -implicitDefEqProofs [Tryz.f57, cCl, h1, h2, h3, f1, f2]
  · have h1' : ¬ (c.1.size : Int) = 37 := by omega
    simp -implicitDefEqProofs [Tryz.f57, cCl, h1, h1']

theorem index_cells {g : CV} {caps : List CV} {f : FuncId} (hg : g = .fn f caps) {p : RCl → Bool} {r : List RCl} (hp : ∀ n ∈ r, TV.pu f (.agg (cCl n) :: caps.map .one) = some (cB (p n))) (hl : r.length < 9223372036854775807) :
    TV.pu 112 [.one (cRw r), .one g] = some (cI .i64 (idxF p r)) := by
  subst hg
  refine run112 (by simp) ?_
  simp [Tryz.f112, cRw]
  obtain ⟨I, hI⟩ : ∃ I : Nat → St → Prop, ∀ k s', I k s' ↔ (∃ e j, s' = ⟨e, []⟩ ∧ e 0 = .one (.c (.arr (r.map cCl))) ∧ e 1 = .one (.c (.fn f caps)) ∧ e 7 = vI .i64 r.length ∧ e 8 = vI .i64 (j : Nat) ∧ j + k = r.length ∧ ∀ q, q < j → ∀ x, r[q]? = some x → p x = false) := ⟨_, fun _ _ => Iff.rfl⟩
  refine wpL_ind I ?_ r.length _ ((hI _ _).2 ⟨_, 0, rfl, by simp, by simp, by simp, by simp, by omega, by simp⟩)
  intro k st hst
  obtain ⟨e, j, rfl, e0, e1, e7, e8, hk, hno⟩ := (hI _ _).1 hst
  by_cases c : j < r.length
  · have hx : r[j]? = some r[j] := List.getElem?_eq_getElem c
    have hpj := hp r[j] (List.getElem_mem c)
    have w1 : IntKind.i64.wrap ((j : Int) + 1) = ((j + 1 : Nat) : Int) := by rw [w64_id (by omega) (by omega)]; omega
    simp only [cCl] at hpj
    simp [e0, e1, e7, e8, c, hpj, w1, cCl]
    by_cases hj : p r[j] = true
    · simp [hj, idxF_at p r j c hj hno]
    · simp [hj]
      refine ⟨k - 1, by omega, (hI _ _).2 ⟨_, j + 1, rfl, by simp [e0], by simp [e1], by simp [e7], by simp, by omega, ?_⟩⟩
      intro q hq x hx2
      by_cases hqj : q = j
      · subst hqj
        rw [hx] at hx2
        cases hx2
        simpa using hj
      · exact hno q (by omega) x hx2
  · have c' : ¬ (j : Int) < (r.length : Int) := by omega
    simp [e0, e1, e7, e8, c']
    rw [idxF_none p r fun q hq => hno q (by omega)]
theorem contains_cells {g : CV} {caps : List CV} {f : FuncId} (hg : g = .fn f caps) {p : RCl → Bool} {r : List RCl} (hp : ∀ n ∈ r, TV.pu f (.agg (cCl n) :: caps.map .one) = some (cB (p n))) (hl : r.length < 9223372036854775807) :
    TV.pu 77 [.one (cRw r), .one g] = some (cB (r.any p)) := by
  refine run77 (by simp) ?_
  have h := index_cells hg hp hl
  subst hg
  simp [Tryz.f77, h, idxF_ge, cRw] at h ⊢
theorem index_crows {g : CV} {caps : List CV} {f : FuncId} (hg : g = .fn f caps) {p : List RCl → Bool} {r : List (List RCl)} (hp : ∀ n ∈ r, TV.pu f (.one (cRw n) :: caps.map .one) = some (cB (p n))) (hl : r.length < 9223372036854775807) :
    TV.pu 111 [.one (cRws r), .one g] = some (cI .i64 (idxF p r)) := by
  subst hg
  refine run111 (by simp) ?_
  simp [Tryz.f111, cRws]
  obtain ⟨I, hI⟩ : ∃ I : Nat → St → Prop, ∀ k s', I k s' ↔ (∃ e j, s' = ⟨e, []⟩ ∧ e 0 = .one (.c (cRws r)) ∧ e 1 = .one (.c (.fn f caps)) ∧ e 7 = vI .i64 r.length ∧ e 8 = vI .i64 (j : Nat) ∧ j + k = r.length ∧ ∀ q, q < j → ∀ x, r[q]? = some x → p x = false) := ⟨_, fun _ _ => Iff.rfl⟩
  refine wpL_ind I ?_ r.length _ ((hI _ _).2 ⟨_, 0, rfl, by simp [cRws], by simp, by simp, by simp, by omega, by simp⟩)
  intro k st hst
  obtain ⟨e, j, rfl, e0, e1, e7, e8, hk, hno⟩ := (hI _ _).1 hst
  by_cases c : j < r.length
  · have hx : r[j]? = some r[j] := List.getElem?_eq_getElem c
    have hpj := hp r[j] (List.getElem_mem c)
    have w1 : IntKind.i64.wrap ((j : Int) + 1) = ((j + 1 : Nat) : Int) := by rw [w64_id (by omega) (by omega)]; omega
    simp only [cRw] at hpj
    simp [e0, e1, e7, e8, cRws, cRw, c, hpj, w1]
    by_cases hj : p r[j] = true
    · simp [hj, idxF_at p r j c hj hno]
    · simp [hj]
      refine ⟨k - 1, by omega, (hI _ _).2 ⟨_, j + 1, rfl, by simp [e0], by simp [e1], by simp [e7], by simp, by omega, ?_⟩⟩
      intro q hq x hx2
      by_cases hqj : q = j
      · subst hqj
        rw [hx] at hx2
        cases hx2
        simpa using hj
      · exact hno q (by omega) x hx2
  · have c' : ¬ (j : Int) < (r.length : Int) := by omega
    simp [e0, e1, e7, e8, c']
    rw [idxF_none p r fun q hq => hno q (by omega)]
theorem contains_crows {g : CV} {caps : List CV} {f : FuncId} (hg : g = .fn f caps) {p : List RCl → Bool} {r : List (List RCl)} (hp : ∀ n ∈ r, TV.pu f (.one (cRw n) :: caps.map .one) = some (cB (p n))) (hl : r.length < 9223372036854775807) :
    TV.pu 75 [.one (cRws r), .one g] = some (cB (r.any p)) := by
  refine run75 (by simp) ?_
  have h := index_crows hg hp hl
  subst hg
  simp [Tryz.f75, h, idxF_ge, cRws] at h ⊢

def rowW (rows : List (List RCl)) (r : List RCl) : Bool := decide (r.length < 1) || decide (256 < r.length) || decide (r.length ≠ (rows.headD []).length) || r.any wrongB
/-- Lengths that any memory has. -/
def Lens (r : Rad) : Prop := r.rows.length < 4611686018427387904 ∧ (∀ x ∈ r.rows, x.length < 4611686018427387904) ∧ r.bits.length < 4611686018427387904
def Seeds (r : Rad) : Prop := 0 ≤ r.s ∧ r.s < 18446744073709551616 ∧ 0 ≤ r.fs ∧ r.fs < 18446744073709551616
theorem rd_row {R : Rad} {r : List RCl} (hr : R.rows ≠ []) (hl : r.length < 9223372036854775807) : TV.pu 83 [.one (cRw r), .one (.cptr (cRad R))] = some (cB (rowW R.rows r)) := by
  refine run83 (by simp) ?_
  obtain ⟨rs, rfs, rh, rb, rows⟩ := R
  obtain ⟨h, t, rfl⟩ : ∃ h t, rows = h :: t := by cases rows with | nil => exact absurd rfl hr | cons h t => exact ⟨h, t, rfl⟩
  have hc := contains_cells (g := .fn 57 []) rfl (p := wrongB) (r := r) (fun n _ => rd_wrong n) hl
  simp only [cRw] at hc
  have hB : rowW (h :: t) r = (decide (r.length < 1) || decide (256 < r.length) || decide (r.length ≠ h.length) || r.any wrongB) := rfl
  rw [hB]
  by_cases h1 : (r.length : Int) < 1
  · have g1 : r.length < 1 := by omega
    rw [decide_eq_true g1, Bool.true_or, Bool.true_or, Bool.true_or]
    simp -implicitDefEqProofs [Tryz.f83, cRad, cRws, cRw, h1]
  · have g1 : ¬ r.length < 1 := by omega
    rw [decide_eq_false g1, Bool.false_or]
    by_cases h2 : 256 < (r.length : Int)
    · have g2 : 256 < r.length := by omega
      rw [decide_eq_true g2, Bool.true_or, Bool.true_or]
      simp -implicitDefEqProofs [Tryz.f83, cRad, cRws, cRw, h1, h2]
    · have g2 : ¬ 256 < r.length := by omega
      rw [decide_eq_false g2, Bool.false_or]
      by_cases h3 : (r.length : Int) = h.length
      · have g3 : ¬ r.length ≠ h.length := by omega
        rw [decide_eq_false g3, Bool.false_or]
        have h3' : ((r.length : Int) != (h.length : Int)) = false := by simp [h3]
        simp -implicitDefEqProofs [Tryz.f83, cRad, cRws, cRw, h1, h2, h3', hc]
      · have g3 : r.length ≠ h.length := by omega
        rw [decide_eq_true g3, Bool.true_or]
        have h3' : ((r.length : Int) != (h.length : Int)) = true := by simp; omega
        simp -implicitDefEqProofs [Tryz.f83, cRad, cRws, cRw, h1, h2, h3']

def rOk (r : Rad) : Bool := fOk r.h r.bits && decide (r.fs = hrow r.s 0) && decide (1 ≤ r.rows.length) && decide (r.rows.length ≤ 7) && !r.rows.any (rowW r.rows)
set_option maxRecDepth 10000 in
theorem rd_Right {R : Rad} (hs : Seeds R) (hl : Lens R) : TV.pu 50 [.agg (cRad R)] = some (cB (rOk R)) := by
  refine run50 (by simp) ?_
  obtain ⟨s, fs, h, bits, rows⟩ := R
  obtain ⟨s0, s1, s2, s3⟩ := hs
  obtain ⟨l1, l2, l3⟩ := hl
  dsimp only at s0 s1 s2 s3 l1 l2 l3
  have hf := bloom_Right fs h bits
  have hrw := hash_Row (s := s) (i := 0) s0 s1 (by omega) (by omega)
  have hc : rows ≠ [] → TV.pu 75 [.one (cRws rows), .one (.fn 83 [.cptr (cRad ⟨s, fs, h, bits, rows⟩)])] = some (cB (rows.any (rowW rows))) := fun hr =>
    contains_crows rfl (fun n hn => rd_row (R := ⟨s, fs, h, bits, rows⟩) hr (by have := l2 n hn; omega)) (by omega)
  simp only [cF] at hf
  unfold rOk
  dsimp only
  cases c1 : fOk h bits with
  | false =>
    rw [c1] at hf
    simp -implicitDefEqProofs [Tryz.f50, cRad, cRws, hf]
  | true =>
    rw [c1] at hf
    by_cases c2 : fs = hrow s 0
    · subst c2
      by_cases c3 : 1 ≤ rows.length
      · have c3' : ¬ (rows.length : Int) < 1 := by omega
        have hr : rows ≠ [] := by rintro rfl; simp at c3
        by_cases c4 : rows.length ≤ 7
        · have c4' : ¬ 7 < (rows.length : Int) := by omega
          have hc := hc hr
          simp only [cRad, cRws] at hc
          simp -implicitDefEqProofs [Tryz.f50, cRad, cRws, hf, hrw, c3, c3', c4, c4', hc]
        · have c4' : 7 < (rows.length : Int) := by omega
          simp -implicitDefEqProofs [Tryz.f50, cRad, cRws, hf, hrw, c3, c3', c4, c4']
      · have c3' : (rows.length : Int) < 1 := by omega
        simp -implicitDefEqProofs [Tryz.f50, cRad, cRws, hf, hrw, c3, c3']
    · simp -implicitDefEqProofs [Tryz.f50, cRad, cRws, hf, hrw, c2]

theorem rOk_facts {r : Rad} (h : rOk r = true) : fOk r.h r.bits = true ∧ r.fs = hrow r.s 0 ∧ 1 ≤ r.rows.length ∧ r.rows.length ≤ 7 ∧ ∀ x ∈ r.rows, 1 ≤ x.length ∧ x.length ≤ 256 ∧ x.length = (r.rows.headD []).length ∧ ∀ c ∈ x, wrongB c = false := by
  unfold rOk at h
  simp only [Bool.and_eq_true, decide_eq_true_eq, Bool.not_eq_true'] at h
  obtain ⟨⟨⟨⟨h1, h2⟩, h3⟩, h4⟩, h5⟩ := h
  refine ⟨h1, h2, h3, h4, fun x hx => ?_⟩
  have := List.any_eq_false.1 h5 x hx
  unfold rowW at this
  simp only [Bool.or_eq_true, decide_eq_true_eq, not_or, Bool.not_eq_true] at this
  obtain ⟨⟨⟨a1, a2⟩, a3⟩, a4⟩ := this
  refine ⟨by omega, by omega, by omega, fun c hc => ?_⟩
  have := List.any_eq_false.1 a4 c hc
  simpa using this

/-- A key's place in a row. -/
def rplc (r : Rad) (key : ByteArray) (i : Nat) (n : Nat) : Int := hcell (hrow r.s ((i : Int) + 1)) key (n : Int)
theorem rd_place {R : Rad} {key : ByteArray} {i : Nat} (hs : Seeds R) (hl : Lens R) (hi : i < R.rows.length) (hk : key.size ≤ 140737488351232) : TV.pu 55 [.agg (cRad R), cS key, cI .i64 i] = some (cI .i64 (rplc R key i R.rows[i].length)) := by
  refine run55 (by simp) ?_
  obtain ⟨s, fs, h, bits, rows⟩ := R
  obtain ⟨s0, s1, s2, s3⟩ := hs
  obtain ⟨l1, l2, l3⟩ := hl
  dsimp only at s0 s1 s2 s3 l1 l2 l3 hi ⊢
  have w1 : IntKind.i64.wrap ((i : Int) + 1) = (i : Int) + 1 := w64_id (by omega) (by omega)
  have hrw := hash_Row (s := s) (i := (i : Int) + 1) s0 s1 (by omega) (by omega)
  have hrr := hrow_range s ((i : Int) + 1)
  have hcl := hash_Cell (seed := hrow s ((i : Int) + 1)) (s := key) (n := (rows[i].length : Int)) hrr.1 (by omega) hk (by have := l2 _ (List.getElem_mem hi); omega)
  simp -implicitDefEqProofs [Tryz.f55, cRad, cRws, cRw, w1, hi, hrw, hcl, rplc]
theorem rplc_range {r : Rad} {key : ByteArray} {i n : Nat} (h : 1 ≤ n) : 0 ≤ rplc r key i n ∧ rplc r key i n < n := hcell_range _ _ _ (by omega)
end Go.Proofs.YtmgnmnogiajlgaaGreatF
end

section
/- Keys joined, by the program and by the document. -/
namespace Go.Proofs.YtmgnmnogiajlgaaGreatF
open Go Go.Proofs.Vm

def cU8 (n : Int) : List CV := [.v (.int .u8 n)]
def xb (a b : ByteArray) (i : Nat) : Int := Go.bits .xor .u8 (byt a i) (byt b i)
def xorL (a b : ByteArray) : List Int := (List.range a.size).map fun (i : Nat) => xb a b i
def xorK (a b : ByteArray) : ByteArray := strOf (xorL a b)
/-- The first so many joined. -/
def xorP (a b : ByteArray) (k : Nat) : List Int := (List.range a.size).map fun (i : Nat) => if i < k then xb a b i else byt a i
theorem xorL_len (a b : ByteArray) : (xorL a b).length = a.size := by simp [xorL]
theorem xorP_len (a b : ByteArray) (k : Nat) : (xorP a b k).length = a.size := by simp [xorP]
theorem xorP_zero (a b : ByteArray) : bytesOf a = (xorP a b 0).map cU8 := by
  unfold bytesOf xorP
  apply List.ext_getElem
  · rw [List.length_map, List.length_map, List.length_map, List.length_range, Array.length_toList]; rfl
  · intro i h1 h2
    have h : i < a.size := by simpa using h2
    simp only [List.getElem_map, List.getElem_range, Nat.not_lt_zero, if_false, cU8]
    unfold byt
    rw [Int.toNat_natCast, getElem?_pos a i h]
    rfl
theorem xorP_all (a b : ByteArray) : xorP a b a.size = xorL a b := by
  unfold xorP xorL
  apply List.map_congr_left
  intro i hi
  rw [if_pos (List.mem_range.1 hi)]
theorem xorP_at (a b : ByteArray) (k : Nat) (h : k < (xorP a b k).length) : (xorP a b k)[k] = byt a k := by simp [xorP]
theorem xorP_set (a b : ByteArray) (k : Nat) : (xorP a b k).set k (xb a b k) = xorP a b (k + 1) := by
  apply List.ext_getElem
  · simp [xorP]
  · intro j h1 h2
    rw [List.getElem_set]
    simp only [xorP, List.getElem_map, List.getElem_range]
    by_cases hj : k = j
    · subst hj; simp
    · rw [if_neg hj]
      by_cases hj2 : j < k
      · rw [if_pos hj2, if_pos (by omega)]
      · rw [if_neg hj2, if_neg (by omega)]
theorem bytesRow_u8 : ∀ l : List Int, bytesRow' (l.map cU8) = some l
  | [] => rfl
  | x :: l => by
    show (bytesRow' (l.map cU8)).map (x :: ·) = _
    rw [bytesRow_u8 l]; rfl
theorem wr_u8 (l : List Int) (i : Nat) (b : Int) : Ent.wrC (l.map cU8) i 0 [.v (.int .u8 b)] = (l.set i b).map cU8 := by
  unfold Ent.wrC
  apply List.ext_getElem?
  intro j
  rw [List.getElem?_modify, List.getElem?_map, List.getElem?_map, List.getElem?_set]
  by_cases h : i = j
  · subst h
    cases hl : l[i]? with
    | none =>
      have := List.getElem?_eq_none_iff.1 hl
      simp; omega
    | some x =>
      have := (List.getElem?_eq_some_iff.1 hl).1
      simp [cU8, wr, this]
  · simp [h]

set_option maxRecDepth 10000 in
theorem rd_xor {a b : ByteArray} (h0 : 0 < a.size) (h1 : a.size ≤ b.size) (h2 : a.size ≤ 1000) : TV.pu 56 [cS a, cS b] = some (.one (.v (.string (xorK a b)))) := by
  refine run56 (by simp) ?_
  have hne : ¬ a.size = 0 := by omega
  have hz := xorP_zero a b
  have hz0 := xorP_len a b 0
  simp -implicitDefEqProofs [Tryz.f56, vconvW, hne, hz, hz0]
  obtain ⟨I, hI⟩ : ∃ I : Nat → St → Prop, ∀ k s', I k s' ↔ (∃ e i L, s' = ⟨e, .clo ((xorP a b i).map cU8) false :: L⟩ ∧ e 1 = vS b ∧ e 5 = .one (.sl 0 0 a.size a.size) ∧ e 10 = vI .i64 a.size ∧ e 11 = vI .i64 (i : Nat) ∧ i + k = a.size) := ⟨_, fun _ _ => Iff.rfl⟩
  refine wpL_ind I ?_ a.size _ ((hI _ _).2 ⟨_, 0, _, rfl, by simp, by simp, by simp, by simp, by omega⟩)
  intro k st hst
  obtain ⟨e, i, L, rfl, e1, e5, e10, e11, hk⟩ := (hI _ _).1 hst
  have hpl := xorP_len a b i
  by_cases c : i < a.size
  · have w1 : IntKind.i64.wrap ((i : Int) + 1) = ((i + 1 : Nat) : Int) := by rw [w64_id (by omega) (by omega)]; omega
    have cl : i < (xorP a b i).length := by rw [hpl]; exact c
    have hat := xorP_at a b i cl
    have hx := idx_str (P := Tryz.prog) us9 (s := b) (k := .i64) (i := (i : Int)) (by omega) (by omega)
    have hw := wr_u8 (xorP a b i) i (xb a b i)
    rw [xorP_set] at hw
    simp only [xb] at hw
    simp -implicitDefEqProofs [-List.map_set, e1, e5, e10, e11, c, hpl, cU8, hat, hx, hw, w1, vstore, cellsOf?]
    exact ⟨k - 1, by omega, (hI _ _).2 ⟨_, i + 1, _, rfl, by simp [e1], by simp [e5], by simp [e10], by simp, by omega⟩⟩
  · have hi : i = a.size := by omega
    subst hi
    have hbr := bytesRow_u8 (xorL a b)
    have htk : ((xorL a b).map cU8).take a.size = (xorL a b).map cU8 := List.take_of_length_le (by simp [xorL_len])
    have hxl := xorL_len a b
    rw [xorP_all]
    simp -implicitDefEqProofs [e5, e10, e11, vconvW, elemsOf, hxl, htk, hbr, xorK]

theorem strOf_snoc (l : List Int) (x : Int) : strOf (l ++ [x]) = strOf l ++ strOf [x] := by
  unfold strOf
  rw [List.foldl_append]
  simp only [List.foldl_cons, List.foldl_nil]
  generalize List.foldl _ ByteArray.empty l = r
  have : ∀ b : UInt8, r.push b = r ++ ByteArray.empty.push b := fun b => by
    apply ByteArray.ext
    simp
  exact this _
theorem strOf_size (l : List Int) : (strOf l).size = l.length := by
  have key : ∀ (l : List Int) (r : ByteArray), (l.foldl (fun r n => r.push (UInt8.ofNat n.toNat)) r).size = r.size + l.length := by
    intro l
    induction l with
    | nil => intro r; simp
    | cons x l ih =>
      intro r
      rw [List.foldl_cons, ih]
      simp; omega
  unfold strOf
  rw [key]
  have : ByteArray.empty.size = 0 := rfl
  omega
theorem xorK_size (a b : ByteArray) : (xorK a b).size = a.size := by unfold xorK; rw [strOf_size, xorL_len]

set_option maxRecDepth 10000 in
theorem r16_xor {a b : ByteArray} (h1 : a.size ≤ b.size) (h2 : a.size ≤ 1000) : TV.pu 102 [cS a, cS b] = some (.one (.v (.string (xorK a b)))) := by
  refine run102 (by simp) ?_
  simp -implicitDefEqProofs [Tryz.f102]
  obtain ⟨I, hI⟩ : ∃ I : Nat → St → Prop, ∀ k s', I k s' ↔ (∃ e i L, s' = ⟨e, L⟩ ∧ e 0 = vS a ∧ e 1 = vS b ∧ e 5 = vS (strOf ((xorL a b).take i)) ∧ e 6 = vI .i64 (i : Nat) ∧ i + k = a.size) := ⟨_, fun _ _ => Iff.rfl⟩
  refine wpL_ind I ?_ a.size _ ((hI _ _).2 ⟨_, 0, _, rfl, by simp, by simp, by simp; rfl, by simp, by omega⟩)
  intro k st hst
  obtain ⟨e, i, L, rfl, e0, e1, e5, e6, hk⟩ := (hI _ _).1 hst
  have hxl := xorL_len a b
  by_cases c : i < a.size
  · have w1 : IntKind.i64.wrap ((i : Int) + 1) = ((i + 1 : Nat) : Int) := by rw [w64_id (by omega) (by omega)]; omega
    have il : i < (xorL a b).length := by rw [hxl]; exact c
    have hat : (xorL a b)[i] = Go.bits .xor .u8 (byt a i) (byt b i) := by simp [xorL, xb]
    have hx := idx_str (P := Tryz.prog) us9 (s := a) (k := .i64) (i := (i : Int)) (by omega) (by omega)
    have hy := idx_str (P := Tryz.prog) us9 (s := b) (k := .i64) (i := (i : Int)) (by omega) (by omega)
    have htk : (xorL a b).take (i + 1) = (xorL a b).take i ++ [Go.bits .xor .u8 (byt a i) (byt b i)] := by
      rw [List.take_add_one, List.getElem?_eq_getElem il, ← hat]; rfl
    have hsn := strOf_snoc ((xorL a b).take i) (Go.bits .xor .u8 (byt a i) (byt b i))
    rw [← htk] at hsn
    have hsz : (strOf ((xorL a b).take i)).size + (strOf [Go.bits .xor .u8 (byt a i) (byt b i)]).size ≤ 9223372036854775807 := by
      rw [strOf_size, strOf_size]
      simp; omega
    simp -implicitDefEqProofs [e0, e1, e5, e6, c, hx, hy, w1, sbin_add hsz, ← hsn, vbuildSlice_eq es100 el5, cellsOf?, fzParts, setAll, rchParts, rch, elemsOf, vconvW, bytesRow']
    exact ⟨k - 1, by omega, (hI _ _).2 ⟨_, i + 1, _, rfl, by simp [e0], by simp [e1], by simp, by simp, by omega⟩⟩
  · have hti : (xorL a b).take i = xorL a b := List.take_of_length_le (by omega)
    rw [hti] at e5
    simp -implicitDefEqProofs [e0, e5, e6, c, xorK]
end Go.Proofs.YtmgnmnogiajlgaaGreatF
end

section
/- A radar's rows in new memory. -/
set_option maxRecDepth 8192
set_option maxHeartbeats 1000000
namespace Go.Proofs.YtmgnmnogiajlgaaGreatF
open Go Go.Proofs.Vm

theorem cells_Clone {r : List RCl} {H : Hp} (h0 : r ≠ []) (hl : r.length ≤ 1000000) : TV.S 87 [.one (.c (cRw r))] H = some (.one (.sl (H.length + 1) 0 r.length r.length), H ++ [.clo [] false, .clo (r.map cCl) false]) := by
  refine run87 (by simp) (by simp) ?_
  have ha := vappend_eq (P := Tryz.prog) (H := H ++ [.clo [] false, .clo [] false]) (t := 70) (tx := 70) (id := H.length + 1) (n := 0) (l := []) (xs := r.map cCl) (x := .one (.c (.arr (r.map cCl)))) es70 es70 el72
    (by simp) rfl rfl (by simp) (by intro e he; obtain ⟨c, -, rfl⟩ := List.mem_map.1 he; rfl) (by simp; omega) (by simp; omega)
  obtain ⟨x, t, rfl⟩ : ∃ h t, r = h :: t := by cases r with | nil => exact absurd rfl h0 | cons h t => exact ⟨h, t, rfl⟩
  simp at ha
  simp [Tryz.f87, cRw, vmove, isNil, bin_sln es70, bs_zero es70 el72, ha]

def cl (rows : List (List RCl)) : List Ent := (rows.map fun r => [Ent.clo [] false, .clo (r.map cCl) false]).flatten
theorem cl_len (rows : List (List RCl)) : (cl rows).length = 2 * rows.length := by
  induction rows with
  | nil => rfl
  | cons r t ih => simp only [cl, List.map_cons, List.flatten_cons, List.length_append] at ih ⊢; rw [ih]; simp; omega
theorem cl_take (rows : List (List RCl)) (i : Nat) (h : i < rows.length) : cl (rows.take (i + 1)) = cl (rows.take i) ++ [Ent.clo [] false, .clo (rows[i].map cCl) false] := by
  rw [List.take_add_one, List.getElem?_eq_getElem h]
  simp only [cl, Option.toList_some, List.map_append, List.flatten_append, List.map_cons, List.map_nil, List.flatten_cons, List.flatten_nil, List.append_nil]
def clRows (b : Nat) (rows : List (List RCl)) (i : Nat) : List (List Cell) := rows.mapIdx fun j r => if j < i then [.sl (b + (6 + 2 * j)) 0 r.length r.length] else [.c (.arr [])]
theorem clRows_len (b : Nat) (rows : List (List RCl)) (i : Nat) : (clRows b rows i).length = rows.length := by simp [clRows]
theorem clRows_zero (b : Nat) (rows : List (List RCl)) : clRows b rows 0 = List.replicate rows.length [.c (.arr [])] := by
  apply List.ext_getElem
  · simp [clRows]
  · intro j h1 h2
    simp [clRows]
theorem clRows_at (b : Nat) (rows : List (List RCl)) (i : Nat) (h : i < rows.length) : (clRows b rows i)[i]? = some [.c (.arr [])] := by
  simp [clRows, h]
theorem clRows_set (b : Nat) (rows : List (List RCl)) (i : Nat) (h : i < rows.length) : (clRows b rows i).set i [.sl (b + (6 + 2 * i)) 0 rows[i].length rows[i].length] = clRows b rows (i + 1) := by
  apply List.ext_getElem
  · simp [clRows]
  · intro j h1 h2
    rw [List.getElem_set]
    simp only [clRows, List.getElem_mapIdx]
    by_cases hj : i = j
    · subst hj; simp
    · rw [if_neg hj]
      by_cases hj2 : j < i
      · rw [if_pos hj2, if_pos (by omega)]
      · rw [if_neg hj2, if_neg (by omega)]
theorem clRows_modify (b : Nat) (rows : List (List RCl)) (i : Nat) (_h : i < rows.length) (x : Cell) : ((clRows b rows i).modify i fun e => wr e 0 [x]) = (clRows b rows i).set i [x] := by
  apply List.ext_getElem
  · simp
  · intro j h1 h2
    rw [List.getElem_modify, List.getElem_set]
    by_cases hj : i = j
    · subst hj
      simp [clRows, wr]
    · rw [if_neg hj, if_neg hj]

theorem cl_get (rows : List (List RCl)) (j : Nat) : (cl rows)[2 * j + 1]? = rows[j]?.map fun r => .clo (r.map cCl) false := by
  induction rows generalizing j with
  | nil => simp [cl]
  | cons r t ih =>
    cases j with
    | zero => simp [cl]
    | succ j =>
      have := ih j
      simp only [cl, List.map_cons, List.flatten_cons] at this ⊢
      rw [List.getElem?_append_right (by simp; omega)]
      simp only [List.length_cons, List.length_nil]
      rw [show 2 * (j + 1) + 1 - (0 + 1 + 1) = 2 * j + 1 by omega, this]
      rfl
theorem cl_set (rows : List (List RCl)) (j : Nat) (x : List RCl) : (cl rows).set (2 * j + 1) (.clo (x.map cCl) false) = cl (rows.set j x) := by
  induction rows generalizing j with
  | nil => simp [cl]
  | cons r t ih =>
    cases j with
    | zero => simp [cl]
    | succ j =>
      have := ih j
      simp only [cl, List.map_cons, List.flatten_cons, List.set_cons_succ] at this ⊢
      rw [List.set_append_right _ _ (by simp; omega)]
      simp only [List.length_cons, List.length_nil]
      rw [show 2 * (j + 1) + 1 - (0 + 1 + 1) = 2 * j + 1 by omega, this]

theorem mapO_all {α β : Type} {f : α → Option β} : ∀ {l : List α} {m : List β}, l.length = m.length → (∀ (j : Nat) x y, l[j]? = some x → m[j]? = some y → f x = some y) → mapO f l = some m
  | [], [], _, _ => rfl
  | [], _ :: _, h, _ => by simp at h
  | _ :: _, [], h, _ => by simp at h
  | x :: l, y :: m, h, g => by
    have h1 := g 0 x y rfl rfl
    have h2 := mapO_all (l := l) (m := m) (by simpa using h) fun j u v hu hv => g (j + 1) u v (by simpa using hu) (by simpa using hv)
    simp [mapO, h1, h2]

theorem fz_crows {h : Hp} {id b : Nat} {rows cur : List (List RCl)} (hlen : cur.length = rows.length) (h6 : h[id]? = some (.opn (clRows b rows rows.length) false))
    (hc : ∀ j (hj : j < rows.length) (hj2 : j < cur.length), h[b + (6 + 2 * j)]? = some (.clo (cur[j].map cCl) false) ∧ cur[j].length = rows[j].length) (n : Nat) :
    fzc (n + 2) h (.sl id 0 rows.length rows.length) = some (cRws cur) := by
  have hm : mapO (mapO (fzc (n + 1) h)) (clRows b rows rows.length) = some (cur.map fun r => [cRw r]) := by
    refine mapO_all (by simp [clRows, hlen]) fun j x y hx hy => ?_
    simp only [clRows, List.getElem?_mapIdx, List.getElem?_map] at hx hy
    have hj2 : j < cur.length := by
      rcases Nat.lt_or_ge j cur.length with h | h
      · exact h
      · rw [List.getElem?_eq_none h] at hy; cases hy
    have hj : j < rows.length := by omega
    rw [List.getElem?_eq_getElem hj] at hx
    rw [List.getElem?_eq_getElem hj2] at hy
    simp only [Option.map_some, Option.some.injEq, hj, if_true] at hx hy
    subst hx hy
    obtain ⟨g1, g2⟩ := hc j hj hj2
    simp only [mapO, fzc, g1, List.length_map, g2, if_true, List.drop_zero]
    rw [List.take_of_length_le (by simp [g2])]
    rfl
  have hl : (clRows b rows rows.length).length = rows.length := clRows_len ..
  unfold fzc
  simp only [h6, hl, if_true, List.drop_zero]
  rw [List.take_of_length_le (by omega), hm]
  rfl

/-- A radar in memory: its rows elsewhere. -/
def oRad (r : Rad) (id : Nat) : List Cell := [.c (.v (.int .u64 r.s)), .c (.v (.int .u64 r.fs)), .c (.v (.int .i64 r.h)), .c (.arr (r.bits.map cB1)), .sl id 0 r.rows.length r.rows.length]
/-- The memory behind a clone. -/
def clH (b : Nat) (r : Rad) : List Ent :=
  .opn [oRad r (b + 4)] false :: .opn [oRad r (b + 4)] false :: .clo [] false :: .clo [] false :: .opn (clRows b r.rows r.rows.length) false :: cl r.rows

theorem rd_clone {R : Rad} {H : Hp} (h0 : R.rows ≠ []) (hl : R.rows.length ≤ 1000) (hr : ∀ r ∈ R.rows, r ≠ [] ∧ r.length ≤ 1000000) :
    TV.S 53 [.agg ((cRad R).map .c)] H = some (.agg (oRad R (H.length + 4)), H ++ clH H.length R) := by
  refine run53 (by simp) (by simp) ?_
  obtain ⟨s, fs, hh, bits, rows⟩ := R
  dsimp only at h0 hl hr
  have hz : rows.length ≠ 0 := fun h => h0 (List.length_eq_zero_iff.1 h)
  simp [Tryz.f53, cRad, cRws, cRw, vmove, isNil, vmakeSlice_eq es46 el70, hz, small]
  refine ⟨⟨by omega, by omega⟩, ?_⟩
  obtain ⟨I, hI⟩ : ∃ I : Nat → St → Prop, ∀ k s', I k s' ↔ (∃ e h i, s' = ⟨e, h⟩ ∧ h = H ++ .opn [[.c (.v (.int .u64 s)), .c (.v (.int .u64 fs)), .c (.v (.int .i64 hh)), .c (.arr (bits.map cB1)), .c (cRws rows)]] false :: .opn [[.c (.v (.int .u64 0)), .c (.v (.int .u64 0)), .c (.v (.int .i64 0)), .sl (H.length + 2) 0 0 0, .sl (H.length + 3) 0 0 0]] false :: .clo [] false :: .clo [] false :: .opn (clRows H.length rows i) false :: cl (rows.take i) ∧
      e 1 = .one (.ptr ⟨H.length, 0, 0, 1⟩) ∧ e 2 = .one (.ptr ⟨H.length + 1, 0, 0, 1⟩) ∧ e 3 = .one (.sl (H.length + 4) 0 rows.length rows.length) ∧ e 11 = .one (.c (cRws rows)) ∧ e 12 = vI .i64 rows.length ∧ e 13 = vI .i64 (i : Nat) ∧ i + k = rows.length) := ⟨_, fun _ _ => Iff.rfl⟩
  refine wpL_ind I ?_ rows.length _ ((hI _ _).2 ⟨_, _, 0, rfl, by rw [clRows_zero]; simp [cRws, cRw, cl], by simp, by simp, by simp, by simp [cRws, cRw], by simp, by simp, by omega⟩)
  intro k st hst
  obtain ⟨e, h, i, rfl, rfl, e1, e2, e3, e11, e12, e13, hk⟩ := (hI _ _).1 hst
  by_cases c : i < rows.length
  · have c' : (i : Int) < rows.length := by omega
    have hm := hr rows[i] (List.getElem_mem c)
    have hx : rows[i]? = some rows[i] := List.getElem?_eq_getElem c
    have w1 : IntKind.i64.wrap ((i : Int) + 1) = ((i + 1 : Nat) : Int) := by rw [w64_id (by omega) (by omega)]; omega
    have hc := cells_Clone (r := rows[i]) (H := H ++ .opn [[.c (.v (.int .u64 s)), .c (.v (.int .u64 fs)), .c (.v (.int .i64 hh)), .c (.arr (bits.map cB1)), .c (cRws rows)]] false :: .opn [[.c (.v (.int .u64 0)), .c (.v (.int .u64 0)), .c (.v (.int .i64 0)), .sl (H.length + 2) 0 0 0, .sl (H.length + 3) 0 0 0]] false :: .clo [] false :: .clo [] false :: .opn (clRows H.length rows i) false :: cl (rows.take i)) hm.1 hm.2
    simp only [cRw, cRws] at hc
    simp [e1, e2, e3, e11, e12, e13, c, c', w1, cRws, cRw, vmove, hc, vstore, cellsOf?, clRows_len, Ent.wrO]
    refine ⟨by simp [clRows], by simp [clRows], k - 1, by omega, (hI _ _).2 ⟨_, _, i + 1, rfl, ?_, by simp [e1], by simp [e2], by simp [e3], by simp [e11, cRws, cRw], by simp [e12], by simp, by omega⟩⟩
    rw [clRows_modify _ _ _ c, cl_take _ _ c, ← clRows_set _ _ _ c, cl_len, List.length_take, Nat.min_eq_left (by omega)]
    rw [show H.length + (2 * i + 1 + 1 + 1 + 1 + 1) + 1 = H.length + (6 + 2 * i) by omega]
    simp [cRws, cRw]
  · have c' : ¬ (i : Int) < rows.length := by omega
    have hi : i = rows.length := by omega
    subst hi
    simp [e1, e2, e3, e11, e12, e13, c', cRws, vmove, vstore, cellsOf?, Ent.wrO, wr, clH, oRad]
    simp [qa]
end Go.Proofs.YtmgnmnogiajlgaaGreatF
end

section
/- A radar's cells changed, one in each row: a flow that goes, a packet that comes. -/
set_option maxRecDepth 8192
set_option maxHeartbeats 1000000
namespace Go.Proofs.YtmgnmnogiajlgaaGreatF
open Go Go.Proofs.Vm

/-- A row with the key's cell changed. -/
def updR (f : RCl → RCl) (s : Int) (key : ByteArray) (j : Int) (r : List RCl) : List RCl := r.modify (hcell (hrow s (j + 1)) key (r.length : Int)).toNat f
theorem updR_len (f : RCl → RCl) (s : Int) (key : ByteArray) (j : Int) (r : List RCl) : (updR f s key j r).length = r.length := by simp [updR]
def updTo (f : RCl → RCl) (s : Int) (key : ByteArray) (k : Nat) (rows : List (List RCl)) : List (List RCl) := rows.mapIdx fun j r => if j < k then updR f s key (j : Int) r else r
section
variable (f : RCl → RCl) (s : Int) (key : ByteArray)
theorem updTo_zero (rows : List (List RCl)) : updTo f s key 0 rows = rows := by
  apply List.ext_getElem
  · simp [updTo]
  · intro j h1 h2
    simp [updTo]
theorem updTo_len (k : Nat) (rows : List (List RCl)) : (updTo f s key k rows).length = rows.length := by simp [updTo]
theorem updTo_at (k : Nat) (rows : List (List RCl)) (h : k < (updTo f s key k rows).length) : (updTo f s key k rows)[k] = rows[k]'(by rw [updTo_len] at h; exact h) := by simp [updTo]
theorem updTo_at1 (k : Nat) (rows : List (List RCl)) (h : k < (updTo f s key (k + 1) rows).length) : (updTo f s key (k + 1) rows)[k] = updR f s key (k : Int) (rows[k]'(by rw [updTo_len] at h; exact h)) := by simp [updTo]
theorem updTo_set (k : Nat) (rows : List (List RCl)) (h : k < rows.length) : (updTo f s key k rows).set k (updR f s key (k : Int) rows[k]) = updTo f s key (k + 1) rows := by
  apply List.ext_getElem
  · simp [updTo]
  · intro j h1 h2
    rw [List.getElem_set]
    simp only [updTo, List.getElem_mapIdx]
    by_cases hj : k = j
    · subst hj; simp
    · rw [if_neg hj]
      by_cases hj2 : j < k
      · rw [if_pos hj2, if_pos (by omega)]
      · rw [if_neg hj2, if_neg (by omega)]
theorem updTo_rowlen (k : Nat) (rows : List (List RCl)) (j : Nat) (h : j < rows.length) (h2 : j < (updTo f s key k rows).length) : (updTo f s key k rows)[j].length = rows[j].length := by
  simp only [updTo, List.getElem_mapIdx]
  split
  · simp [updR]
  · rfl
def updA (rows : List (List RCl)) : List (List RCl) := updTo f s key rows.length rows

/-- The memory of a loop over the rows, behind the two boxes ahead. -/
def zH (C : Rad) (rows : List (List RCl)) (i : Nat) (L : List Ent) : List Ent :=
  .clo [] false :: .clo [] false :: .opn [oRad C 8] false :: .opn [oRad C 8] false :: .clo [] false :: .clo [] false :: .opn (clRows 4 rows rows.length) false :: (cl (updTo f s key i rows) ++ L)
theorem cl_getA (rows : List (List RCl)) (j : Nat) (h : j < rows.length) (L : List Ent) : (cl rows ++ L)[2 * j + 1]? = some (.clo (rows[j].map cCl) false) := by
  rw [List.getElem?_append_left (by rw [cl_len]; omega), cl_get, List.getElem?_eq_getElem h]; rfl
theorem cl_setA (rows : List (List RCl)) (j : Nat) (h : j < rows.length) (x : List RCl) (L : List Ent) : (cl rows ++ L).set (2 * j + 1) (.clo (x.map cCl) false) = cl (rows.set j x) ++ L := by
  rw [List.set_append_left _ _ (by rw [cl_len]; omega), cl_set]
theorem zH_app (C : Rad) (rows : List (List RCl)) (i : Nat) (L M : List Ent) : zH f s key C rows i L ++ M = zH f s key C rows i (L ++ M) := by simp [zH]
theorem zH_row (C : Rad) (rows : List (List RCl)) (i : Nat) (L : List Ent) (j : Nat) (h : j < (updTo f s key i rows).length) (X Y : Ent) : (X :: Y :: zH f s key C rows i L)[4 + (6 + 2 * j)]? = some (.clo ((updTo f s key i rows)[j].map cCl) false) := by
  show (X :: Y :: _ :: _ :: _ :: _ :: _ :: _ :: _ :: (cl (updTo f s key i rows) ++ L))[4 + (6 + 2 * j)]? = _
  rw [show 4 + (6 + 2 * j) = (2 * j + 1) + 9 by omega]
  simp only [List.getElem?_cons_succ]
  rw [cl_getA _ _ h]
theorem zH_fz (C : Rad) (rows : List (List RCl)) (i : Nat) (L : List Ent) (X Y : Ent) : fzc 5 (X :: Y :: zH f s key C rows i L) (.sl 8 0 rows.length rows.length) = some (cRws (updTo f s key i rows)) := by
  refine fz_crows (b := 4) (updTo_len ..) rfl (fun j hj hj2 => ⟨zH_row f s key C rows i L j hj2 X Y, updTo_rowlen _ _ _ _ _ _ hj hj2⟩) 3
theorem zH_set (C : Rad) (rows : List (List RCl)) (i : Nat) (L : List Ent) (c : i < rows.length) (X Y : Ent) : (X :: Y :: zH f s key C rows i L).set (4 + (6 + 2 * i)) (.clo ((updR f s key (i : Int) rows[i]).map cCl) false) = X :: Y :: zH f s key C rows (i + 1) L := by
  show (X :: Y :: _ :: _ :: _ :: _ :: _ :: _ :: _ :: (cl (updTo f s key i rows) ++ L)).set (4 + (6 + 2 * i)) _ = _
  rw [show 4 + (6 + 2 * i) = (2 * i + 1) + 9 by omega]
  simp only [List.set_cons_succ]
  rw [cl_setA _ _ (by rw [updTo_len]; exact c), updTo_set _ _ _ _ _ c]
  rfl
end

def remC (key : ByteArray) (c : RCl) : RCl := (xorK c.1 key, max (c.2.1 - 1) (-1099511627776), c.2.2.1, c.2.2.2)
theorem rd_Remove_no {R : Rad} {key : ByteArray} (hs : Seeds R) (hl : Lens R) (h : rOk R = false ∨ key.size ≠ 37) : TV.pu 61 [.agg (cRad R), cS key] = some (.agg (cRad R)) := by
  refine run61 (by simp) ?_
  have hR := rd_Right hs hl
  simp only [cRad, cRws, cRw] at hR
  by_cases c1 : rOk R = true
  · rw [c1] at hR
    have c2 : ¬ key.size = 37 := by rcases h with h | h; · rw [c1] at h; cases h
                                    · exact h
    have c2' : ¬ (key.size : Int) = 37 := by omega
    simp -implicitDefEqProofs [Tryz.f61, cRad, cRws, cRw, hR, c2', vstore, cellsOf?, Ent.wrO, wr, vmove, isNil]
    simp [qa]
  · have c1 : rOk R = false := by simpa using c1
    rw [c1] at hR
    simp -implicitDefEqProofs [Tryz.f61, cRad, cRws, cRw, hR, vstore, cellsOf?, Ent.wrO, wr, vmove, isNil]
    simp [qa]
theorem rd_Remove {R : Rad} {key : ByteArray} (hs : Seeds R) (hl : Lens R) (hok : rOk R = true) (hk37 : key.size = 37) : TV.pu 61 [.agg (cRad R), cS key] = some (.agg (cRad { R with rows := updA (remC key) R.s key R.rows })) := by
  refine run61 (by simp) ?_
  obtain ⟨q1, q2, q3, q4, q5⟩ := rOk_facts hok
  have hR := rd_Right hs hl
  rw [hok] at hR
  have hc := rd_clone (R := R) (H := [.opn [(cRad R).map .c] false, .opn [[.c (.v (.int .u64 0)), .c (.v (.int .u64 0)), .c (.v (.int .i64 0)), .sl 2 0 0 0, .sl 3 0 0 0]] false, .clo [] false, .clo [] false]) (by rintro h; rw [h] at q3; simp at q3) (by omega) (fun r hr => ⟨by have := (q5 r hr).1; rintro rfl; simp at this, by have := (q5 r hr).2.1; omega⟩)
  have hpl : ∀ (i : Nat) (rows : List (List RCl)), rows.length = R.rows.length → (∀ x ∈ rows, x.length < 4611686018427387904) → ∀ h : i < rows.length, TV.pu 55 [.agg (cRad { R with rows := rows }), cS key, cI .i64 i] = some (cI .i64 (rplc R key i rows[i].length)) := fun i rows h1 h2 h3 => by
    rw [rd_place (R := { R with rows := rows }) hs ⟨by rw [h1]; exact hl.1, h2, hl.2.2⟩ h3 (by omega)]; rfl
  obtain ⟨s, fs, hh, bits, rows⟩ := R
  dsimp only at q1 q2 q3 q4 q5 hpl ⊢
  simp only [cRad, cRws, cRw, List.map_cons, List.map_nil] at hR hc
  simp only [cRad] at hpl
  have hk37' : (key.size : Int) = 37 := by omega
  simp [Tryz.f61, cRad, cRws, cRw, hR, hc, hk37, vstore, cellsOf?, Ent.wrO, wr, vmove, isNil, clH, clRows_len, oRad]
  obtain ⟨I, hI⟩ : ∃ I : Nat → St → Prop, ∀ k s', I k s' ↔ (∃ e h i L, s' = ⟨e, h⟩ ∧ h = .opn [oRad ⟨s, fs, hh, bits, rows⟩ 8] false :: .opn [[.c (.v (.int .u64 0)), .c (.v (.int .u64 0)), .c (.v (.int .i64 0)), .sl 2 0 0 0, .sl 3 0 0 0]] false :: zH (remC key) s key ⟨s, fs, hh, bits, rows⟩ rows i L ∧
      e 1 = vS key ∧ e 2 = .one (.ptr ⟨0, 0, 0, 1⟩) ∧ e 4 = .one (.ptr ⟨1, 0, 0, 1⟩) ∧ e 21 = vI .i64 rows.length ∧ e 22 = vI .i64 (i : Nat) ∧ i + k = rows.length) := ⟨_, fun _ _ => Iff.rfl⟩
  refine wpL_ind I ?_ rows.length _ ((hI _ _).2 ⟨_, _, 0, [], rfl, by simp [zH, updTo_zero, oRad], by simp, by simp, by simp, by simp, by simp, by omega⟩)
  intro k st hst
  obtain ⟨e, h, i, L, rfl, rfl, e1, e2, e4, e21, e22, hk⟩ := (hI _ _).1 hst
  have hz := zH_fz (remC key) s key ⟨s, fs, hh, bits, rows⟩ rows
  have ha := zH_app (remC key) s key ⟨s, fs, hh, bits, rows⟩ rows
  by_cases c : i < rows.length
  · have c' : (i : Int) < rows.length := by omega
    have hrw := q5 rows[i] (List.getElem_mem c)
    have hul : i < (updTo (remC key) s key i rows).length := by rw [updTo_len]; exact c
    have hat := updTo_at (remC key) s key i rows hul
    have hp := hpl i (updTo (remC key) s key i rows) (updTo_len ..) (fun x hx => by
      obtain ⟨j, hj, rfl⟩ := List.getElem_of_mem hx
      have hj' : j < rows.length := by rw [updTo_len] at hj; exact hj
      rw [updTo_rowlen _ _ _ _ _ _ hj' hj]
      have := (q5 _ (List.getElem_mem hj')).2.1
      omega) hul
    rw [hat] at hp
    have hcr := rplc_range (r := ⟨s, fs, hh, bits, rows⟩) (key := key) (i := i) (n := rows[i].length) (by omega)
    obtain ⟨q, hq⟩ : ∃ q : Nat, rplc ⟨s, fs, hh, bits, rows⟩ key i rows[i].length = (q : Int) := ⟨_, (Int.toNat_of_nonneg hcr.1).symm⟩
    rw [hq] at hp hcr
    have hql : q < rows[i].length := by omega
    have hw := hrw.2.2.2 rows[i][q] (List.getElem_mem hql)
    have hrwz := fun L => zH_row (remC key) s key ⟨s, fs, hh, bits, rows⟩ rows i L i hul
    have hset := fun L => zH_set (remC key) s key ⟨s, fs, hh, bits, rows⟩ rows i L c
    simp only [hat] at hrwz
    have h6 : ∀ L, (zH (remC key) s key ⟨s, fs, hh, bits, rows⟩ rows i L)[6]? = some (.opn (clRows 4 rows rows.length) false) := fun L => rfl
    have hra : ∀ h : i < (clRows 4 rows rows.length).length, (clRows 4 rows rows.length)[i]'h = [.sl (4 + (6 + 2 * i)) 0 rows[i].length rows[i].length] := by simp [clRows]
    have hzM : ∀ L M X Y, fzc 5 (X :: Y :: (zH (remC key) s key ⟨s, fs, hh, bits, rows⟩ rows i L ++ M)) (.sl 8 0 rows.length rows.length) = some (cRws (updTo (remC key) s key i rows)) := fun L M X Y => by rw [ha]; exact hz _ _ _ _
    have hrwzM : ∀ L M X Y, (X :: Y :: (zH (remC key) s key ⟨s, fs, hh, bits, rows⟩ rows i L ++ M))[4 + (6 + 2 * i)]? = some (.clo (rows[i].map cCl) false) := fun L M X Y => by rw [ha]; exact hrwz _ _ _
    have h6M : ∀ L M, (zH (remC key) s key ⟨s, fs, hh, bits, rows⟩ rows i L ++ M)[6]? = some (.opn (clRows 4 rows rows.length) false) := fun L M => rfl
    have hsetM : ∀ L M X Y, (X :: Y :: (zH (remC key) s key ⟨s, fs, hh, bits, rows⟩ rows i L ++ M)).set (4 + (6 + 2 * i)) (.clo ((updR (remC key) s key (i : Int) rows[i]).map cCl) false) = X :: Y :: (zH (remC key) s key ⟨s, fs, hh, bits, rows⟩ rows (i + 1) L ++ M) := fun L M X Y => by rw [ha, ha]; exact hset _ _ _
    have hwr : Ent.wrC (rows[i].map cCl) q 0 (cCl (remC key rows[i][q])) = (updR (remC key) s key (i : Int) rows[i]).map cCl := by
      have hqq : (hcell (hrow s ((i : Int) + 1)) key (rows[i].length : Int)).toNat = q := by
        have : hcell (hrow s ((i : Int) + 1)) key (rows[i].length : Int) = (q : Int) := hq
        rw [this]; rfl
      rw [updR, hqq]
      apply List.ext_getElem
      · simp [Ent.wrC]
      · intro j h1 h2
        simp only [Ent.wrC, List.getElem_modify, List.getElem_map]
        by_cases hj : q = j
        · subst hj; simp [wr, cCl]
        · rw [if_neg hj, if_neg hj]
    obtain ⟨y, hy⟩ : ∃ y, rows[i][q] = y := ⟨_, rfl⟩
    rw [hy] at hwr hw
    obtain ⟨x, fl, pk, bb⟩ := y
    have hcl : cCl rows[i][q] = [.v (.string x), .v (.int .i64 fl), .v (.int .i64 pk), .v (.int .i64 bb)] := by rw [hy]; rfl
    obtain ⟨w1, w2, w3⟩ : x.size = 37 ∧ -1099511627776 ≤ fl ∧ fl ≤ 1099511627776 := by
      unfold wrongB at hw
      simp only [Bool.or_eq_false_iff, decide_eq_false_iff_not] at hw
      obtain ⟨⟨⟨⟨a1, a2⟩, a3⟩, -⟩, -⟩ := hw
      exact ⟨by omega, by omega, by omega⟩
    have hx := rd_xor (a := x) (b := key) (by omega) (by omega) (by omega)
    have u1 : IntKind.i64.wrap (fl - 1) = fl - 1 := w64_id (by omega) (by omega)
    have u2 : IntKind.i64.wrap ((i : Int) + 1) = ((i + 1 : Nat) : Int) := by rw [w64_id (by omega) (by omega)]; omega
    have hmx : (if fl - 1 < -1099511627776 then -1099511627776 else fl - 1) = max (fl - 1) (-1099511627776) := by omega
    simp only [cCl, remC] at hwr
    simp -implicitDefEqProofs [-fzc, fz_v, fz_arr, e1, e2, e21, e22, c, c', vmove, isNil, h6, hra, clRows_len, hz, hp, hql, hrwz, vstore, cellsOf?, oRad, hcl, hrwzM, h6M, hsetM, hwr, hx, u1, u2, hmx, Ent.wrO, wr, max_int]
    exact ⟨k - 1, by omega, (hI _ _).2 ⟨_, _, i + 1, _, rfl, by rw [zH_app]; rfl, by simp [e1], by simp [e2], by simp [e4], by simp [e21], by simp, by omega⟩⟩
  · have c' : ¬ (i : Int) < rows.length := by omega
    have hi : i = rows.length := by omega
    subst hi
    simp -implicitDefEqProofs [-fzc, e2, e4, e21, e22, c', vstore, cellsOf?, Ent.wrO, wr, oRad]
    simp [-fzc, fz_v, fz_arr, qa, hz, updA, cRws, cRw]
/-- A packet in a cell. -/
def addC (fr : Bool) (key : ByteArray) (n : Int) (c : RCl) : RCl := (if fr then xorK c.1 key else c.1, if fr then c.2.1 + 1 else c.2.1, c.2.2.1 + 1, c.2.2.2 + n)
/-- A key's cell in a row. -/
def curC (s : Int) (key : ByteArray) (j : Int) (r : List RCl) : RCl := r.getD (hcell (hrow s (j + 1)) key (r.length : Int)).toNat (ByteArray.empty, 0, 0, 0)
def freshB (R : Rad) (key : ByteArray) : Bool := !hasB R.fs R.h R.bits key
def zRad : Rad := ⟨0, 0, 0, [], []⟩
def addRad (R : Rad) (key : ByteArray) (n : Int) : Rad := { R with bits := addB R.bits (plc R.fs R.h key R.bits.length), rows := updA (addC (freshB R key) key n) R.s key R.rows }
theorem wrongB_iff (c : RCl) : wrongB c = false ↔ c.1.size = 37 ∧ -1099511627776 ≤ c.2.1 ∧ c.2.1 ≤ 1099511627776 ∧ 0 ≤ c.2.2.1 ∧ c.2.2.1 ≤ 1099511627776 ∧ 0 ≤ c.2.2.2 ∧ c.2.2.2 ≤ 1099511627776 := by
  unfold wrongB fitB
  simp only [Bool.or_eq_false_iff, decide_eq_false_iff_not, Bool.not_eq_false', Bool.and_eq_true, decide_eq_true_eq]
  omega
theorem rd_Add_arg {R : Rad} {key : ByteArray} {n : Int} (hs : Seeds R) (hl : Lens R) (h : rOk R = false ∨ key.size ≠ 37 ∨ fitB n = false) : TV.pu 24 [.agg (cRad R), cS key, cI .i64 n] = some (.tup [(true, cRad zRad), (false, [.v (.int .i64 1)])]) := by
  refine run24 (by simp) ?_
  have hR := rd_Right hs hl
  have hf := rd_fits n
  simp only [cRad, cRws, cRw] at hR
  by_cases c1 : rOk R = true
  · rw [c1] at hR
    by_cases c2 : key.size = 37
    · have c2' : (key.size : Int) = 37 := by omega
      have c3 : fitB n = false := by
        rcases h with h | h | h
        · rw [c1] at h; cases h
        · exact absurd c2 h
        · exact h
      rw [c3] at hf
      simp -implicitDefEqProofs [Tryz.f24, cRad, cRws, cRw, zRad, hR, hf, c2, vstore, cellsOf?, Ent.wrO, wr, vmove, isNil]
      simp [qa]
    · have c2' : ¬ (key.size : Int) = 37 := by omega
      simp -implicitDefEqProofs [Tryz.f24, cRad, cRws, cRw, zRad, hR, c2', vstore, cellsOf?, Ent.wrO, wr, vmove, isNil]
      simp [qa]
  · have c1 : rOk R = false := by simpa using c1
    rw [c1] at hR
    simp -implicitDefEqProofs [Tryz.f24, cRad, cRws, cRw, zRad, hR, vstore, cellsOf?, Ent.wrO, wr, vmove, isNil]
    simp [qa]

theorem rd_Add {R : Rad} {key : ByteArray} {n : Int} (hs : Seeds R) (hl : Lens R) (hok : rOk R = true) (hk37 : key.size = 37) (hn : fitB n = true) : TV.pu 24 [.agg (cRad R), cS key, cI .i64 n] = some (if ∀ j, ∀ h : j < R.rows.length, wrongB (addC (freshB R key) key n (curC R.s key (j : Int) R.rows[j])) = false then .tup [(true, cRad (addRad R key n)), (false, [.v (.int .i64 0)])] else .tup [(true, cRad zRad), (false, [.v (.int .i64 5)])]) := by
  refine run24 (by simp) ?_
  obtain ⟨q1, q2, q3, q4, q5⟩ := rOk_facts hok
  have hR := rd_Right hs hl
  rw [hok] at hR
  have hf := rd_fits n
  rw [hn] at hf
  have hnn : 0 ≤ n ∧ n ≤ 1099511627776 := by simpa [fitB] using hn
  have hH := bloom_Has (seed := R.fs) (h := R.h) (bits := R.bits) (key := key) hs.2.2.1 hs.2.2.2 (by omega)
  rw [q1, Bool.true_and] at hH
  have hA := bloom_Add (seed := R.fs) (h := R.h) (bits := R.bits) (key := key) hs.2.2.1 hs.2.2.2 (by omega) q1
  have hc := rd_clone (R := R) (H := [.opn [(cRad R).map .c] false, .opn [[.c (.v (.int .u64 0)), .c (.v (.int .u64 0)), .c (.v (.int .i64 0)), .sl 2 0 0 0, .sl 3 0 0 0]] false, .clo [] false, .clo [] false]) (by rintro h; rw [h] at q3; simp at q3) (by omega) (fun r hr => ⟨by have := (q5 r hr).1; rintro rfl; simp at this, by have := (q5 r hr).2.1; omega⟩)
  have hpl : ∀ (i : Nat) (rows : List (List RCl)), rows.length = R.rows.length → (∀ x ∈ rows, x.length < 4611686018427387904) → ∀ h : i < rows.length, TV.pu 55 [.agg (cRad { R with bits := addB R.bits (plc R.fs R.h key R.bits.length), rows := rows }), cS key, cI .i64 i] = some (cI .i64 (rplc R key i rows[i].length)) := fun i rows h1 h2 h3 => by
    rw [rd_place (R := { R with bits := addB R.bits (plc R.fs R.h key R.bits.length), rows := rows }) hs ⟨by rw [h1]; exact hl.1, h2, by rw [addB_len]; exact hl.2.2⟩ h3 (by omega)]; rfl
  unfold addRad
  obtain ⟨fr, hfr⟩ : ∃ fr, freshB R key = fr := ⟨_, rfl⟩
  have hfr' : hasB R.fs R.h R.bits key = !fr := by rw [← hfr]; simp [freshB]
  rw [hfr'] at hH
  rw [hfr]
  obtain ⟨bits', hb'⟩ : ∃ b', addB R.bits (plc R.fs R.h key R.bits.length) = b' := ⟨_, rfl⟩
  rw [hb'] at hA hpl ⊢
  obtain ⟨s, fs, hh, bits, rows⟩ := R
  dsimp only at q1 q2 q3 q4 q5 hpl hH hA ⊢
  simp only [cRad, cRws, cRw, List.map_cons, List.map_nil] at hR hc
  simp only [cRad] at hpl
  simp only [cF] at hH hA
  have hk37' : (key.size : Int) = 37 := by omega
  simp -implicitDefEqProofs [Tryz.f24, cRad, cRws, cRw, hR, hc, hf, hH, hA, hk37, vstore, cellsOf?, Ent.wrO, wr, vmove, isNil, clH, clRows_len, oRad]
  obtain ⟨I, hI⟩ : ∃ I : Nat → St → Prop, ∀ k s', I k s' ↔ (∃ e h i L, s' = ⟨e, h⟩ ∧ h = .opn [oRad ⟨s, fs, hh, bits', rows⟩ 8] false :: .opn [[.c (.v (.int .u64 0)), .c (.v (.int .u64 0)), .c (.v (.int .i64 0)), .sl 2 0 0 0, .sl 3 0 0 0]] false :: zH (addC fr key n) s key ⟨s, fs, hh, bits, rows⟩ rows i L ∧
      e 1 = vS key ∧ e 2 = vI .i64 n ∧ e 3 = .one (.ptr ⟨0, 0, 0, 1⟩) ∧ e 6 = .one (.ptr ⟨1, 0, 0, 1⟩) ∧ e 8 = vB fr ∧ e 39 = vI .i64 rows.length ∧ e 40 = vI .i64 (i : Nat) ∧ i + k = rows.length ∧
      ∀ j, j < i → ∀ h : j < rows.length, wrongB (addC fr key n (curC s key (j : Int) rows[j])) = false) := ⟨_, fun _ _ => Iff.rfl⟩
  refine wpL_ind I ?_ rows.length _ ((hI _ _).2 ⟨_, _, 0, [], rfl, by simp [zH, updTo_zero, oRad], by simp, by simp, by simp, by simp, by simp, by simp, by simp, by omega, by omega⟩)
  intro k st hst
  obtain ⟨e, h, i, L, rfl, rfl, e1, e2, e3, e6, e8, e39, e40, hk, hall⟩ := (hI _ _).1 hst
  have hz := zH_fz (addC fr key n) s key ⟨s, fs, hh, bits, rows⟩ rows
  have ha := zH_app (addC fr key n) s key ⟨s, fs, hh, bits, rows⟩ rows
  by_cases c : i < rows.length
  · have c' : (i : Int) < rows.length := by omega
    have hrw := q5 rows[i] (List.getElem_mem c)
    have hul : i < (updTo (addC fr key n) s key i rows).length := by rw [updTo_len]; exact c
    have hat := updTo_at (addC fr key n) s key i rows hul
    have hp := hpl i (updTo (addC fr key n) s key i rows) (updTo_len ..) (fun x hx => by
      obtain ⟨j, hj, rfl⟩ := List.getElem_of_mem hx
      have hj' : j < rows.length := by rw [updTo_len] at hj; exact hj
      rw [updTo_rowlen _ _ _ _ _ _ hj' hj]
      have := (q5 _ (List.getElem_mem hj')).2.1
      omega) hul
    rw [hat] at hp
    have hcr := rplc_range (r := ⟨s, fs, hh, bits, rows⟩) (key := key) (i := i) (n := rows[i].length) (by omega)
    obtain ⟨q, hq⟩ : ∃ q : Nat, rplc ⟨s, fs, hh, bits, rows⟩ key i rows[i].length = (q : Int) := ⟨_, (Int.toNat_of_nonneg hcr.1).symm⟩
    rw [hq] at hp hcr
    have hql : q < rows[i].length := by omega
    have hw := hrw.2.2.2 rows[i][q] (List.getElem_mem hql)
    have hrwz := fun L => zH_row (addC fr key n) s key ⟨s, fs, hh, bits, rows⟩ rows i L i hul
    have hset := fun L => zH_set (addC fr key n) s key ⟨s, fs, hh, bits, rows⟩ rows i L c
    simp only [hat] at hrwz
    have h6 : ∀ L, (zH (addC fr key n) s key ⟨s, fs, hh, bits, rows⟩ rows i L)[6]? = some (.opn (clRows 4 rows rows.length) false) := fun L => rfl
    have hra : ∀ h : i < (clRows 4 rows rows.length).length, (clRows 4 rows rows.length)[i]'h = [.sl (4 + (6 + 2 * i)) 0 rows[i].length rows[i].length] := by simp [clRows]
    have hzM : ∀ L M X Y, fzc 5 (X :: Y :: (zH (addC fr key n) s key ⟨s, fs, hh, bits, rows⟩ rows i L ++ M)) (.sl 8 0 rows.length rows.length) = some (cRws (updTo (addC fr key n) s key i rows)) := fun L M X Y => by rw [ha]; exact hz _ _ _ _
    have hrwzM : ∀ L M X Y, (X :: Y :: (zH (addC fr key n) s key ⟨s, fs, hh, bits, rows⟩ rows i L ++ M))[4 + (6 + 2 * i)]? = some (.clo (rows[i].map cCl) false) := fun L M X Y => by rw [ha]; exact hrwz _ _ _
    have h6M : ∀ L M, (zH (addC fr key n) s key ⟨s, fs, hh, bits, rows⟩ rows i L ++ M)[6]? = some (.opn (clRows 4 rows rows.length) false) := fun L M => rfl
    have hsetM : ∀ L M X Y, (X :: Y :: (zH (addC fr key n) s key ⟨s, fs, hh, bits, rows⟩ rows i L ++ M)).set (4 + (6 + 2 * i)) (.clo ((updR (addC fr key n) s key (i : Int) rows[i]).map cCl) false) = X :: Y :: (zH (addC fr key n) s key ⟨s, fs, hh, bits, rows⟩ rows (i + 1) L ++ M) := fun L M X Y => by rw [ha, ha]; exact hset _ _ _
    have hqq : (hcell (hrow s ((i : Int) + 1)) key (rows[i].length : Int)).toNat = q := by
      have : hcell (hrow s ((i : Int) + 1)) key (rows[i].length : Int) = (q : Int) := hq
      rw [this]; rfl
    have hwr : Ent.wrC (rows[i].map cCl) q 0 (cCl (addC fr key n rows[i][q])) = (updR (addC fr key n) s key (i : Int) rows[i]).map cCl := by
      rw [updR, hqq]
      apply List.ext_getElem
      · simp [Ent.wrC]
      · intro j h1 h2
        simp only [Ent.wrC, List.getElem_modify, List.getElem_map]
        by_cases hj : q = j
        · subst hj; simp [wr, cCl]
        · rw [if_neg hj, if_neg hj]
    have hcur : curC s key (i : Int) rows[i] = rows[i][q] := by
      rw [curC, hqq, List.getD_eq_getElem?_getD, List.getElem?_eq_getElem hql]; rfl
    have hnext : wrongB (addC fr key n rows[i][q]) = false → ∀ j, j < i + 1 → ∀ h : j < rows.length, wrongB (addC fr key n (curC s key (j : Int) rows[j])) = false := fun hg j hj h => by
      by_cases hji : j = i
      · subst hji
        rw [hcur]; exact hg
      · exact hall j (by omega) h
    have hbad : wrongB (addC fr key n rows[i][q]) = true → ¬ ∀ j, ∀ h : j < rows.length, wrongB (addC fr key n (curC s key (j : Int) rows[j])) = false := fun hg hx => by
      have := hx i c
      rw [hcur, hg] at this
      cases this
    have hwp := rd_wrong (addC fr key n rows[i][q])
    obtain ⟨y, hy⟩ : ∃ y, rows[i][q] = y := ⟨_, rfl⟩
    rw [hy] at hwr hw hwp hnext hbad
    obtain ⟨x, fl, pk, bb⟩ := y
    have hcl : cCl rows[i][q] = [.v (.string x), .v (.int .i64 fl), .v (.int .i64 pk), .v (.int .i64 bb)] := by rw [hy]; rfl
    have hw := (wrongB_iff _).1 hw
    dsimp only at hw
    obtain ⟨w1, w2, w3, w4, w5, w6, w7⟩ := hw
    have hx := rd_xor (a := x) (b := key) (by omega) (by omega) (by omega)
    have u1 : IntKind.i64.wrap (fl + 1) = fl + 1 := w64_id (by omega) (by omega)
    have u2 : IntKind.i64.wrap ((i : Int) + 1) = ((i + 1 : Nat) : Int) := by rw [w64_id (by omega) (by omega)]; omega
    have u3 : IntKind.i64.wrap (pk + 1) = pk + 1 := w64_id (by omega) (by omega)
    have u4 : IntKind.i64.wrap (bb + n) = bb + n := w64_id (by omega) (by omega)
    cases fr with
    | false =>
      cases hg : wrongB (addC false key n (x, fl, pk, bb)) with
      | true =>
        rw [if_neg (hbad hg)]
        rw [hg] at hwp
        simp only [cCl, addC] at hwp
        simp at hwp
        simp -implicitDefEqProofs [-fzc, fz_v, fz_arr, e1, e2, e3, e6, e8, e39, e40, c, c', vmove, isNil, h6, hra, clRows_len, hz, hp, hql, hrwz, vstore, cellsOf?, oRad, hcl, u3, u4, Ent.wrO, wr, hwp]
        simp [fzc, qa, zRad]
      | false =>
        rw [hg] at hwp
        have hnx := hnext hg
        simp only [cCl, addC] at hwp hwr
        simp at hwp hwr
        simp -implicitDefEqProofs [-fzc, fz_v, fz_arr, e1, e2, e3, e8, e39, e40, c, c', vmove, isNil, h6, hra, clRows_len, hz, hp, hql, hrwz, vstore, cellsOf?, oRad, hcl, hzM, hrwzM, h6M, hsetM, hwr, u2, u3, u4, Ent.wrO, wr, hwp]
        exact ⟨k - 1, by omega, (hI _ _).2 ⟨_, _, i + 1, _, rfl, by rw [zH_app]; rfl, by simp [e1], by simp [e2], by simp [e3], by simp [e6], by simp [e8], by simp [e39], by simp, by omega, hnx⟩⟩
    | true =>
      cases hg : wrongB (addC true key n (x, fl, pk, bb)) with
      | true =>
        rw [if_neg (hbad hg)]
        rw [hg] at hwp
        simp only [cCl, addC] at hwp
        simp at hwp
        simp -implicitDefEqProofs [-fzc, fz_v, fz_arr, e1, e2, e3, e6, e8, e39, e40, c, c', vmove, isNil, h6, hra, clRows_len, hz, hp, hql, hrwz, vstore, cellsOf?, oRad, hcl, hx, u1, u3, u4, Ent.wrO, wr, hwp]
        simp [fzc, qa, zRad]
      | false =>
        rw [hg] at hwp
        have hnx := hnext hg
        simp only [cCl, addC] at hwp hwr
        simp at hwp hwr
        simp -implicitDefEqProofs [-fzc, fz_v, fz_arr, e1, e2, e3, e8, e39, e40, c, c', vmove, isNil, h6, hra, clRows_len, hz, hp, hql, hrwz, vstore, cellsOf?, oRad, hcl, hzM, hrwzM, h6M, hsetM, hwr, u2, hx, u1, u3, u4, Ent.wrO, wr, hwp]
        exact ⟨k - 1, by omega, (hI _ _).2 ⟨_, _, i + 1, _, rfl, by rw [zH_app]; rfl, by simp [e1], by simp [e2], by simp [e3], by simp [e6], by simp [e8], by simp [e39], by simp, by omega, hnx⟩⟩
  · have c' : ¬ (i : Int) < rows.length := by omega
    have hi : i = rows.length := by omega
    subst hi
    rw [if_pos fun j h => hall j h h]
    simp -implicitDefEqProofs [-fzc, e3, e6, e39, e40, c', vstore, cellsOf?, Ent.wrO, wr, vmove, isNil, oRad]
    simp [-fzc, fz_v, fz_arr, qa, hz, updA, cRws, cRw]
end Go.Proofs.YtmgnmnogiajlgaaGreatF
end

section
/- A radar's pure cell; is it empty; a key's place. -/
set_option maxRecDepth 8192
set_option maxHeartbeats 1000000
namespace Go.Proofs.YtmgnmnogiajlgaaGreatF
open Go Go.Proofs.Vm

def sEq (u v : ByteArray) : Bool := u.toList == v.toList
theorem sEq_iff {u v : ByteArray} : sEq u v = true ↔ u = v := by
  unfold sEq
  rw [beq_iff_eq, toList_inj]
def cStr (s : ByteArray) : List CV := [.v (.string s)]
def cSs (l : List ByteArray) : CV := .arr (l.map cStr)

theorem index_strs {v : ByteArray} {r : List ByteArray} (hl : r.length < 9223372036854775807) : TV.pu 90 [.one (cSs r), cS v] = some (cI .i64 (idxF (sEq v) r)) := by
  refine run90 (by simp) ?_
  simp [Tryz.f90, cSs]
  obtain ⟨I, hI⟩ : ∃ I : Nat → St → Prop, ∀ k s', I k s' ↔ (∃ e j, s' = ⟨e, []⟩ ∧ e 0 = .one (.c (.arr (r.map cStr))) ∧ e 1 = vS v ∧ e 7 = vI .i64 r.length ∧ e 8 = vI .i64 (j : Nat) ∧ j + k = r.length ∧ ∀ q, q < j → ∀ x, r[q]? = some x → sEq v x = false) := ⟨_, fun _ _ => Iff.rfl⟩
  refine wpL_ind I ?_ r.length _ ((hI _ _).2 ⟨_, 0, rfl, by simp, by simp, by simp, by simp, by omega, by simp⟩)
  intro k st hst
  obtain ⟨e, j, rfl, e0, e1, e7, e8, hk, hno⟩ := (hI _ _).1 hst
  by_cases c : j < r.length
  · have hx : r[j]? = some r[j] := List.getElem?_eq_getElem c
    have w1 : IntKind.i64.wrap ((j : Int) + 1) = ((j + 1 : Nat) : Int) := by rw [w64_id (by omega) (by omega)]; omega
    have hq : (v.toList == r[j].toList) = sEq v r[j] := rfl
    by_cases hj : sEq v r[j] = true
    · rw [hj] at hq
      simp -implicitDefEqProofs [e0, e1, e7, e8, c, cStr, hq, idxF_at (sEq v) r j c hj hno]
    · have hj' : sEq v r[j] = false := by simpa using hj
      rw [hj'] at hq
      simp -implicitDefEqProofs [e0, e1, e7, e8, c, w1, cStr, hq]
      refine ⟨k - 1, by omega, (hI _ _).2 ⟨_, j + 1, rfl, by simp [e0], by simp [e1], by simp [e7], by simp, by omega, ?_⟩⟩
      intro q hq x hx2
      by_cases hqj : q = j
      · subst hqj
        rw [hx] at hx2
        cases hx2
        exact hj'
      · exact hno q (by omega) x hx2
  · have c' : ¬ (j : Int) < (r.length : Int) := by omega
    simp [e0, e1, e7, e8, c']
    rw [idxF_none (sEq v) r fun q hq => hno q (by omega)]
theorem contains_strs {v : ByteArray} {r : List ByteArray} (hl : r.length < 9223372036854775807) : TV.pu 60 [.one (cSs r), cS v] = some (cB (r.any (sEq v))) := by
  refine run60 (by simp) ?_
  have h := index_strs (v := v) hl
  simp [Tryz.f60, h, idxF_ge, cSs] at h ⊢

theorem fs_none {α : Type} {f : Nat → Option α} {n : Nat} (h : ∀ i, i < n → f i = none) : (List.range n).findSome? f = none := by
  rw [List.findSome?_eq_none_iff]
  intro i hi
  exact h i (List.mem_range.1 hi)
theorem fs_at {α : Type} {f : Nat → Option α} {n i : Nat} {x : α} (hi : i < n) (h : ∀ j, j < i → f j = none) (hx : f i = some x) : (List.range n).findSome? f = some x := by
  obtain ⟨m, rfl⟩ : ∃ m, n = i + (1 + m) := ⟨n - i - 1, by omega⟩
  rw [List.range_add, List.findSome?_append, fs_none h]
  simp [List.range_succ_eq_map, hx, Nat.add_comm 1 m]

def zC : RCl := (ByteArray.empty, 0, 0, 0)
/-- Is a cell pure, and its key not yet told? -/
def okC (R : Rad) (told : List ByteArray) (i n p : Nat) (c : RCl) : Bool := decide (c.2.1 = 1) && decide (rplc R c.1 i n = (p : Int)) && hasB R.fs R.h R.bits c.1 && !told.any (sEq c.1)
def pureR (R : Rad) (told : List ByteArray) (i : Nat) : Option ByteArray := (List.range (R.rows.getD i []).length).findSome? fun p => if okC R told i (R.rows.getD i []).length p ((R.rows.getD i []).getD p zC) = true then some ((R.rows.getD i []).getD p zC).1 else none
def pureOf (R : Rad) (told : List ByteArray) : Option ByteArray := (List.range R.rows.length).findSome? (pureR R told)
def pureA (o : Option ByteArray) : CA := match o with
  | some k => .tup [(false, [.v (.string k)]), (false, [.v (.bool true)])]
  | none => .tup [(false, [.v (.string ByteArray.empty)]), (false, [.v (.bool false)])]

theorem rd_Pure_no {R : Rad} {told : List ByteArray} (hs : Seeds R) (hl : Lens R) (hok : rOk R = false) : TV.pu 59 [.agg (cRad R), .one (cSs told)] = some (pureA none) := by
  refine run59 (by simp) ?_
  have hR := rd_Right hs hl
  rw [hok] at hR
  simp only [cRad, cRws, cRw] at hR
  simp -implicitDefEqProofs [Tryz.f59, cRad, cRws, cRw, hR, pureA]
  rfl
theorem rd_Pure {R : Rad} {told : List ByteArray} (hs : Seeds R) (hl : Lens R) (hok : rOk R = true) (ht : told.length < 9223372036854775807) : TV.pu 59 [.agg (cRad R), .one (cSs told)] = some (pureA (pureOf R told)) := by
  refine run59 (by simp) ?_
  obtain ⟨q1, q2, q3, q4, q5⟩ := rOk_facts hok
  have hR := rd_Right hs hl
  rw [hok] at hR
  have hpl := fun (key : ByteArray) (i : Nat) (hi : i < R.rows.length) (hk : key.size ≤ 140737488351232) => rd_place (R := R) (key := key) (i := i) hs hl hi hk
  have hH := fun key hk => bloom_Has (seed := R.fs) (h := R.h) (bits := R.bits) (key := key) hs.2.2.1 hs.2.2.2 hk
  simp only [q1, Bool.true_and, cF] at hH
  obtain ⟨res, hres⟩ : ∃ res, pureA (pureOf R told) = res := ⟨_, rfl⟩
  rw [hres]
  simp only [cRad, cRws, cRw] at hR hpl
  simp -implicitDefEqProofs [Tryz.f59, cRad, cRws, cRw, hR]
  have hfin : (∀ j, j < R.rows.length → pureR R told j = none) → res = pureA none := fun h => by rw [← hres, pureOf, fs_none h]
  have hgot : ∀ i x, i < R.rows.length → (∀ j, j < i → pureR R told j = none) → pureR R told i = some x → res = pureA (some x) := fun i x h1 h2 h3 => by rw [← hres, pureOf, fs_at h1 h2 h3]
  obtain ⟨I, hI⟩ : ∃ I : Nat → St → Prop, ∀ k s', I k s' ↔ (∃ e h i L, s' = ⟨e, h⟩ ∧ h = .opn [(cRad R).map .c] false :: L ∧
      e 1 = .one (.c (cSs told)) ∧ e 2 = .one (.ptr ⟨0, 0, 0, 1⟩) ∧ e 14 = .one (.c (cRws R.rows)) ∧ e 15 = vI .i64 R.rows.length ∧ e 16 = vI .i64 (i : Nat) ∧ i + k = R.rows.length ∧ ∀ j, j < i → pureR R told j = none) := ⟨_, fun _ _ => Iff.rfl⟩
  refine wpL_ind I ?_ R.rows.length _ ((hI _ _).2 ⟨_, _, 0, [], rfl, by simp [cRad, cRws, cRw], by simp, by simp, by simp [cRws, cRw], by simp, by simp, by omega, by omega⟩)
  intro k st hst
  obtain ⟨e, h, i, L, rfl, rfl, e1, e2, e14, e15, e16, hk, hno⟩ := (hI _ _).1 hst
  by_cases c : i < R.rows.length
  · have c' : (i : Int) < R.rows.length := by omega
    have hrw := q5 R.rows[i] (List.getElem_mem c)
    have u2 : IntKind.i64.wrap ((i : Int) + 1) = ((i + 1 : Nat) : Int) := by rw [w64_id (by omega) (by omega)]; omega
    have hgi : R.rows.getD i [] = R.rows[i] := by rw [List.getD_eq_getElem?_getD, List.getElem?_eq_getElem c]; rfl
    simp -implicitDefEqProofs [-fzc, e14, e15, e16, c, c', cRws, cRw, vmove, isNil, cRad]
    have hrn : pureR R told i = (List.range R.rows[i].length).findSome? fun p => if okC R told i R.rows[i].length p (R.rows[i].getD p zC) = true then some (R.rows[i].getD p zC).1 else none := by unfold pureR; rw [hgi]
    obtain ⟨J, hJ⟩ : ∃ J : Nat → St → Prop, ∀ k' s', J k' s' ↔ (∃ e h p L, s' = ⟨e, h⟩ ∧ h = .opn [(cRad R).map .c] false :: L ∧
        e 1 = .one (.c (cSs told)) ∧ e 2 = .one (.ptr ⟨0, 0, 0, 1⟩) ∧ e 14 = .one (.c (cRws R.rows)) ∧ e 15 = vI .i64 R.rows.length ∧ e 16 = vI .i64 (i : Nat) ∧ e 6 = vI .i64 (i : Nat) ∧ e 21 = .one (.c (cRw R.rows[i])) ∧ e 22 = vI .i64 R.rows[i].length ∧ e 23 = vI .i64 (p : Nat) ∧ p + k' = R.rows[i].length ∧ ∀ j, j < p → okC R told i R.rows[i].length j (R.rows[i].getD j zC) = false) := ⟨_, fun _ _ => Iff.rfl⟩
    refine wpL_ind J ?_ R.rows[i].length _ ((hJ _ _).2 ⟨_, _, 0, L, rfl, by simp [cRad, cRws, cRw], by simp [e1], by simp [e2], by simp [e14, cRws, cRw], by simp [e15], by simp [e16], by simp, by simp [cRw], by simp, by simp, by omega, by omega⟩)
    clear e1 e2 e14 e15 e16
    intro k' st' hst'
    obtain ⟨e, h, p, L, rfl, rfl, e1, e2, e14, e15, e16, e6, e21, e22, e23, hk', hnp⟩ := (hJ _ _).1 hst'
    by_cases d : p < R.rows[i].length
    · have d' : (p : Int) < R.rows[i].length := by omega
      have u3 : IntKind.i64.wrap ((p : Int) + 1) = ((p + 1 : Nat) : Int) := by rw [w64_id (by omega) (by omega)]; omega
      have hgp : R.rows[i].getD p zC = R.rows[i][p] := by rw [List.getD_eq_getElem?_getD, List.getElem?_eq_getElem d]; rfl
      have hw := (wrongB_iff _).1 (hrw.2.2.2 R.rows[i][p] (List.getElem_mem d))
      have hskip : okC R told i R.rows[i].length p R.rows[i][p] = false → ∀ j, j < p + 1 → okC R told i R.rows[i].length j (R.rows[i].getD j zC) = false := fun hg j hj => by
        by_cases hjp : j = p
        · subst hjp
          rw [hgp]; exact hg
        · exact hnp j (by omega)
      have hhit : okC R told i R.rows[i].length p R.rows[i][p] = true → res = pureA (some R.rows[i][p].1) := fun hg => hgot i _ c hno (by
        rw [hrn]
        exact fs_at d (fun j hj => by rw [if_neg (by rw [hnp j hj]; decide)]) (by rw [hgp, if_pos hg]))
      have hp := hpl R.rows[i][p].1 i c (by omega)
      have hh := hH R.rows[i][p].1 (by omega)
      have hcs := contains_strs (v := R.rows[i][p].1) ht
      obtain ⟨y, hy⟩ : ∃ y, R.rows[i][p] = y := ⟨_, rfl⟩
      rw [hy] at hw hskip hhit hp hh hcs
      obtain ⟨x, fl, pk, bb⟩ := y
      have hcl : cCl R.rows[i][p] = [.v (.string x), .v (.int .i64 fl), .v (.int .i64 pk), .v (.int .i64 bb)] := by rw [hy]; rfl
      dsimp only at hw hhit hp hh hcs
      simp only [cSs] at hcs
      unfold okC at hskip hhit
      dsimp only at hskip hhit
      by_cases g1 : fl = 1
      · by_cases g2 : rplc R x i R.rows[i].length = (p : Int)
        · rw [g2] at hp
          cases g3 : hasB R.fs R.h R.bits x with
          | true =>
            rw [g3] at hh
            cases g4 : told.any (sEq x) with
            | false =>
              rw [g4] at hcs
              rw [hhit (by simp [g1, g2, g3, g4])]
              simp -implicitDefEqProofs [-fzc, fz_v, fz_arr, e1, e2, e6, e21, e22, e23, d, d', cRws, cRw, vmove, isNil, cRad, hcl, vstore, cellsOf?, Ent.wrO, wr, g1, hp, hh, hcs, cSs, pureA]
            | true =>
              rw [g4] at hcs
              have hsk := hskip (by simp [g4])
              simp -implicitDefEqProofs [-fzc, fz_v, fz_arr, e1, e2, e6, e21, e22, e23, d, d', cRws, cRw, vmove, isNil, cRad, hcl, vstore, cellsOf?, Ent.wrO, wr, u3, g1, hp, hh, hcs, cSs]
              exact ⟨k' - 1, by omega, (hJ _ _).2 ⟨_, _, p + 1, _, rfl, by simp [cRad, cRws, cRw]; rfl, by simp [e1, cSs], by simp [e2], by simp [e14, cRws, cRw], by simp [e15], by simp [e16], by simp [e6], by simp [e21, cRw], by simp [e22], by simp, by omega, hsk⟩⟩
          | false =>
            rw [g3] at hh
            have hsk := hskip (by simp [g3])
            simp -implicitDefEqProofs [-fzc, fz_v, fz_arr, e2, e6, e21, e22, e23, d, d', cRws, cRw, vmove, isNil, cRad, hcl, vstore, cellsOf?, Ent.wrO, wr, u3, g1, hp, hh]
            exact ⟨k' - 1, by omega, (hJ _ _).2 ⟨_, _, p + 1, _, rfl, by simp [cRad, cRws, cRw]; rfl, by simp [e1, cSs], by simp [e2], by simp [e14, cRws, cRw], by simp [e15], by simp [e16], by simp [e6], by simp [e21, cRw], by simp [e22], by simp, by omega, hsk⟩⟩
        · obtain ⟨z, hz⟩ : ∃ z, rplc R x i R.rows[i].length = z := ⟨_, rfl⟩
          rw [hz] at hp g2
          have hsk := hskip (by rw [hz]; simp [g2])
          simp -implicitDefEqProofs [-fzc, fz_v, fz_arr, e2, e6, e21, e22, e23, d, d', cRws, cRw, vmove, isNil, cRad, hcl, vstore, cellsOf?, Ent.wrO, wr, u3, g1, hp, g2]
          exact ⟨k' - 1, by omega, (hJ _ _).2 ⟨_, _, p + 1, _, rfl, by simp [cRad, cRws, cRw]; rfl, by simp [e1, cSs], by simp [e2], by simp [e14, cRws, cRw], by simp [e15], by simp [e16], by simp [e6], by simp [e21, cRw], by simp [e22], by simp, by omega, hsk⟩⟩
      · have hsk := hskip (by simp [g1])
        simp -implicitDefEqProofs [-fzc, e21, e22, e23, d, d', cRws, cRw, vmove, isNil, cRad, hcl, vstore, cellsOf?, Ent.wrO, wr, u3, g1]
        exact ⟨k' - 1, by omega, (hJ _ _).2 ⟨_, _, p + 1, _, rfl, by simp [cRad, cRws, cRw]; rfl, by simp [e1, cSs], by simp [e2], by simp [e14, cRws, cRw], by simp [e15], by simp [e16], by simp [e6], by simp [e21, cRw], by simp [e22], by simp, by omega, hsk⟩⟩
    · have d' : ¬ (p : Int) < R.rows[i].length := by omega
      have hp : p = R.rows[i].length := by omega
      subst hp
      have hrnone : pureR R told i = none := by rw [hrn]; exact fs_none fun j hj => by rw [if_neg (by rw [hnp j hj]; decide)]
      simp -implicitDefEqProofs [e16, e22, e23, d', u2]
      refine ⟨k - 1, by omega, (hI _ _).2 ⟨_, _, i + 1, _, rfl, rfl, by simp [e1], by simp [e2], by simp [e14], by simp [e15], by simp, by omega, fun j hj => ?_⟩⟩
      by_cases hji : j = i
      · subst hji; exact hrnone
      · exact hno j (by omega)
  · have c' : ¬ (i : Int) < R.rows.length := by omega
    have hi : i = R.rows.length := by omega
    subst hi
    rw [hfin hno]
    simp -implicitDefEqProofs [e15, e16, c', pureA]
    rfl
end Go.Proofs.YtmgnmnogiajlgaaGreatF
end

section
/- The document's radar: is a cell right, a key's place, keys among keys. -/
set_option maxRecDepth 8192
set_option maxHeartbeats 1000000
namespace Go.Proofs.YtmgnmnogiajlgaaGreatF
open Go Go.Proofs.Vm

theorem rr_cell (c : RCl) : TV.pu 40 [.agg (cCl c)] = some (cB (!wrongB c)) := by
  refine run40 (by simp) ?_
  obtain ⟨x, fl, pk, bb⟩ := c
  have hw : wrongB (x, fl, pk, bb) = false ↔ _ := wrongB_iff _
  dsimp only at hw
  have fin : ∀ b : Bool, (b = true ↔ wrongB (x, fl, pk, bb) = false) → cB b = cB (!wrongB (x, fl, pk, bb)) := fun b h => by
    cases b <;> cases h2 : wrongB (x, fl, pk, bb) <;> simp_all
  by_cases g1 : x.size = 37
  · have g1' : (x.size : Int) = 37 := by omega
    by_cases g2 : -1099511627776 ≤ fl
    · by_cases g3 : fl ≤ 1099511627776
      · by_cases g4 : 0 ≤ pk
        · by_cases g5 : pk ≤ 1099511627776
          · by_cases g6 : 0 ≤ bb
            · by_cases g7 : bb ≤ 1099511627776
              · rw [hw.2 ⟨g1, g2, g3, g4, g5, g6, g7⟩]
                simp -implicitDefEqProofs [Tryz.f40, cCl, g1', g2, g3, g4, g5, g6, g7]
              · rw [← fin false ⟨fun h => (by cases h), fun h => absurd (hw.1 h).2.2.2.2.2.2 g7⟩]
                simp -implicitDefEqProofs [Tryz.f40, cCl, g1', g2, g3, g4, g5, g6, g7]
            · rw [← fin false ⟨fun h => (by cases h), fun h => absurd (hw.1 h).2.2.2.2.2.1 g6⟩]
              simp -implicitDefEqProofs [Tryz.f40, cCl, g1', g2, g3, g4, g5, g6]
          · rw [← fin false ⟨fun h => (by cases h), fun h => absurd (hw.1 h).2.2.2.2.1 g5⟩]
            simp -implicitDefEqProofs [Tryz.f40, cCl, g1', g2, g3, g4, g5]
        · rw [← fin false ⟨fun h => (by cases h), fun h => absurd (hw.1 h).2.2.2.1 g4⟩]
          simp -implicitDefEqProofs [Tryz.f40, cCl, g1', g2, g3, g4]
      · rw [← fin false ⟨fun h => (by cases h), fun h => absurd (hw.1 h).2.2.1 g3⟩]
        simp -implicitDefEqProofs [Tryz.f40, cCl, g1', g2, g3]
    · rw [← fin false ⟨fun h => (by cases h), fun h => absurd (hw.1 h).2.1 g2⟩]
      simp -implicitDefEqProofs [Tryz.f40, cCl, g1', g2]
  · have g1' : ¬ (x.size : Int) = 37 := by omega
    rw [← fin false ⟨fun h => (by cases h), fun h => absurd (hw.1 h).1 g1⟩]
    simp -implicitDefEqProofs [Tryz.f40, cCl, g1']

theorem rr_Place {R : Rad} {key : ByteArray} {i : Nat} (hs : Seeds R) (hl : Lens R) (hi : i < R.rows.length) (hk : key.size ≤ 1000) : TV.pu 41 [.agg (cRad R), cS key, cI .i64 i] = some (cI .i64 (rplc R key i R.rows[i].length)) := by
  refine run41 (by simp) ?_
  obtain ⟨s, fs, h, bits, rows⟩ := R
  obtain ⟨s0, s1, s2, s3⟩ := hs
  obtain ⟨l1, l2, l3⟩ := hl
  dsimp only at s0 s1 s2 s3 l1 l2 l3 hi ⊢
  have w1 : IntKind.i64.wrap ((i : Int) + 1) = (i : Int) + 1 := w64_id (by omega) (by omega)
  have hrw := r2_Row (s := s) (i := (i : Int) + 1) s0 s1 (by omega) (by omega)
  have hrr := hrow_range s ((i : Int) + 1)
  have hcl := r2_Cell (seed := hrow s ((i : Int) + 1)) (s := key) (n := (rows[i].length : Int)) hrr.1 (by omega) hk (by have := l2 _ (List.getElem_mem hi); omega)
  simp -implicitDefEqProofs [Tryz.f41, cRad, cRws, cRw, w1, hi, hrw, hcl, rplc]

theorem rr_In {l : List ByteArray} {v : ByteArray} (hl : l.length < 9223372036854775807) : TV.pu 31 [.one (cSs l), cS v] = some (cB (l.any (sEq v))) := by
  refine run31 (by simp) ?_
  simp -implicitDefEqProofs [Tryz.f31, cSs]
  obtain ⟨I, hI⟩ : ∃ I : Nat → St → Prop, ∀ k s', I k s' ↔ (∃ e j, s' = ⟨e, []⟩ ∧ e 0 = .one (.c (.arr (l.map cStr))) ∧ e 1 = vS v ∧ e 5 = vI .i64 (j : Nat) ∧ j + k = l.length ∧ ∀ q, ∀ h : q < l.length, q < j → sEq v l[q] = false) := ⟨_, fun _ _ => Iff.rfl⟩
  refine wpL_ind I ?_ l.length _ ((hI _ _).2 ⟨_, 0, rfl, by simp, by simp, by simp, by omega, by omega⟩)
  intro k st hst
  obtain ⟨e, j, rfl, e0, e1, e5, hk, hno⟩ := (hI _ _).1 hst
  by_cases c : j < l.length
  · have w1 : IntKind.i64.wrap ((j : Int) + 1) = ((j + 1 : Nat) : Int) := by rw [w64_id (by omega) (by omega)]; omega
    by_cases hj : sEq v l[j] = true
    · have hjv : v = l[j] := sEq_iff.1 hj
      have hq : l.any (sEq v) = true := List.any_eq_true.2 ⟨l[j], List.getElem_mem c, hj⟩
      rw [hq]
      simp -implicitDefEqProofs [e0, e1, e5, c, cStr, hjv]
    · have hjv : ¬ l[j] = v := fun h => hj (sEq_iff.2 h.symm)
      simp -implicitDefEqProofs [e0, e1, e5, c, w1, cStr, toList_inj, hjv]
      refine ⟨k - 1, by omega, (hI _ _).2 ⟨_, j + 1, rfl, by simp [e0], by simp [e1], by simp, by omega, ?_⟩⟩
      intro q hq hqj
      by_cases h : q = j
      · subst h; simpa using hj
      · exact hno q hq (by omega)
  · have hq : l.any (sEq v) = false := List.any_eq_false.2 fun x hx => by
      obtain ⟨q, hq, rfl⟩ := List.getElem_of_mem hx
      rw [hno q hq (by omega)]; decide
    rw [hq]
    simp -implicitDefEqProofs [e0, e5, c]
end Go.Proofs.YtmgnmnogiajlgaaGreatF
end

section
/- The document's radar: the same keys; few and short ones. -/
set_option maxRecDepth 8192
set_option maxHeartbeats 1000000
namespace Go.Proofs.YtmgnmnogiajlgaaGreatF
open Go Go.Proofs.Vm

theorem rr_Same {l m : List ByteArray} (hl : l.length < 9223372036854775807) : TV.pu 11 [.one (cSs l), .one (cSs m)] = some (cB (decide (l = m))) := by
  refine run11 (by simp) ?_
  by_cases hlm : l.length = m.length
  · have hlm' : ((l.length : Int) != (m.length : Int)) = false := by simp [hlm]
    simp -implicitDefEqProofs [Tryz.f11, cSs, hlm]
    obtain ⟨I, hI⟩ : ∃ I : Nat → St → Prop, ∀ k s', I k s' ↔ (∃ e j, s' = ⟨e, []⟩ ∧ e 0 = .one (.c (.arr (l.map cStr))) ∧ e 1 = .one (.c (.arr (m.map cStr))) ∧ e 5 = vI .i64 (j : Nat) ∧ j + k = l.length ∧ ∀ q, ∀ h : q < l.length, ∀ h' : q < m.length, q < j → l[q] = m[q]) := ⟨_, fun _ _ => Iff.rfl⟩
    refine wpL_ind I ?_ l.length _ ((hI _ _).2 ⟨_, 0, rfl, by simp, by simp, by simp, by omega, by omega⟩)
    intro k st hst
    obtain ⟨e, j, rfl, e0, e1, e5, hk, hno⟩ := (hI _ _).1 hst
    by_cases c : j < l.length
    · have cm : j < m.length := by omega
      have w1 : IntKind.i64.wrap ((j : Int) + 1) = ((j + 1 : Nat) : Int) := by rw [w64_id (by omega) (by omega)]; omega
      by_cases hj : l[j] = m[j]
      · simp -implicitDefEqProofs [e0, e1, e5, c, cm, w1, cStr, hj]
        refine ⟨k - 1, by omega, (hI _ _).2 ⟨_, j + 1, rfl, by simp [e0], by simp [e1], by simp, by omega, ?_⟩⟩
        intro q hq hq2 hqj
        by_cases h : q = j
        · subst h; exact hj
        · exact hno q hq hq2 (by omega)
      · have hne : ¬ l = m := fun h => hj (by subst h; rfl)
        simp -implicitDefEqProofs [e0, e1, e5, c, cm, cStr, toList_inj, hj, hne]
    · have hlm2 : l = m := List.ext_getElem hlm fun q h1 h2 => hno q h1 h2 (by omega)
      have cm : ¬ (j : Int) < m.length := by omega
      subst hlm2
      simp -implicitDefEqProofs [e0, e5, c]
  · have hne : ¬ l = m := fun h => hlm (by rw [h])
    have hlm' : ¬ (l.length : Int) = m.length := by omega
    simp -implicitDefEqProofs [Tryz.f11, cSs, hlm', hne]

def shortB (l : List ByteArray) (most : Nat) : Bool := decide (l.length ≤ most) && l.all fun s => decide (s.size ≤ 100)
theorem rr_Short {l : List ByteArray} {most : Nat} (hl : l.length < 9223372036854775807) : TV.pu 13 [.one (cSs l), cI .i64 most] = some (cB (shortB l most)) := by
  refine run13 (by simp) ?_
  unfold shortB
  by_cases hm : l.length ≤ most
  · have hm' : ¬ (most : Int) < l.length := by omega
    simp -implicitDefEqProofs [Tryz.f13, cSs, hm', hm]
    obtain ⟨I, hI⟩ : ∃ I : Nat → St → Prop, ∀ k s', I k s' ↔ (∃ e j, s' = ⟨e, []⟩ ∧ e 0 = .one (.c (.arr (l.map cStr))) ∧ e 5 = vI .i64 (j : Nat) ∧ j + k = l.length ∧ ∀ q, ∀ h : q < l.length, q < j → l[q].size ≤ 100) := ⟨_, fun _ _ => Iff.rfl⟩
    refine wpL_ind I ?_ l.length _ ((hI _ _).2 ⟨_, 0, rfl, by simp, by simp, by omega, by omega⟩)
    intro k st hst
    obtain ⟨e, j, rfl, e0, e5, hk, hno⟩ := (hI _ _).1 hst
    by_cases c : j < l.length
    · have w1 : IntKind.i64.wrap ((j : Int) + 1) = ((j + 1 : Nat) : Int) := by rw [w64_id (by omega) (by omega)]; omega
      by_cases hj : l[j].size ≤ 100
      · have hj' : ¬ 100 < (l[j].size : Int) := by omega
        simp -implicitDefEqProofs [e0, e5, c, w1, cStr, hj']
        refine ⟨k - 1, by omega, (hI _ _).2 ⟨_, j + 1, rfl, by simp [e0], by simp, by omega, ?_⟩⟩
        intro q hq hqj
        by_cases h : q = j
        · subst h; exact hj
        · exact hno q hq (by omega)
      · have hj' : 100 < (l[j].size : Int) := by omega
        have hall : (l.all fun s => decide (s.size ≤ 100)) = false := by
          rw [List.all_eq_false]
          exact ⟨l[j], List.getElem_mem c, by simpa using hj⟩
        rw [hall]
        simp -implicitDefEqProofs [e0, e5, c, cStr, hj']
    · have hall : (l.all fun s => decide (s.size ≤ 100)) = true := by
        rw [List.all_eq_true]
        intro x hx
        obtain ⟨q, hq, rfl⟩ := List.getElem_of_mem hx
        exact decide_eq_true (hno q hq (by omega))
      rw [hall]
      simp -implicitDefEqProofs [e0, e5, c]
  · have hm' : (most : Int) < l.length := by omega
    simp -implicitDefEqProofs [Tryz.f13, cSs, hm', hm]
end Go.Proofs.YtmgnmnogiajlgaaGreatF
end

section
/- A radar as the document's. -/
set_option maxRecDepth 8192
set_option maxHeartbeats 1000000
namespace Go.Proofs.YtmgnmnogiajlgaaGreatF
open Go Go.Proofs.Vm

/-- Lengths that goods have. -/
def Lens7 (R : Rad) : Prop := 24 * R.rows.length ≤ 140737488355328 ∧ ∀ x ∈ R.rows, 40 * x.length ≤ 140737488355328
end Go.Proofs.YtmgnmnogiajlgaaGreatF
end

section
/- The document's radar: a key put among rising ones. -/
set_option maxRecDepth 8192
set_option maxHeartbeats 1000000
namespace Go.Proofs.YtmgnmnogiajlgaaGreatF
open Go Go.Proofs.Vm

def ltS (a b : ByteArray) : Bool := Op.bytesLess a.toList b.toList
def insS (k : ByteArray) : List ByteArray → List ByteArray
  | [] => [k]
  | x :: l => if ltS k x then k :: x :: l else x :: insS k l
theorem allStr (l : List ByteArray) : AllLen (l.map cStr) 1 := by intro x hx; obtain ⟨y, _, rfl⟩ := List.mem_map.1 hx; rfl
theorem rr_Put {l : List ByteArray} {key : ByteArray} (hl : l.length < 1000000) : TV.pu 33 [.one (cSs l), cS key] = some (.one (cSs (insS key l))) := by
  refine run33 (by simp) ?_
  simp -implicitDefEqProofs [Tryz.f33, cSs, vmove, isNil]
  obtain ⟨I, hI⟩ : ∃ I : Nat → St → Prop, ∀ n s', I n s' ↔ (∃ e i out put E L, s' = ⟨e, E :: .clo (out.map cStr) false :: L⟩ ∧ e 0 = .one (.c (.arr (l.map cStr))) ∧ e 1 = vS key ∧ e 5 = .one (.sl 1 0 out.length out.length) ∧ e 6 = vB put ∧ e 7 = vI .i64 (i : Nat) ∧ i + n = l.length ∧ (put = true → out.length = i + 1 ∧ out ++ l.drop i = insS key l) ∧ (put = false → out.length = i ∧ out ++ insS key (l.drop i) = insS key l)) := ⟨_, fun _ _ => Iff.rfl⟩
  refine wpL_ind I ?_ l.length _ ((hI _ _).2 ⟨_, 0, [], false, _, _, rfl, by simp, by simp, by simp, by simp, by simp, by omega, by simp, by simp⟩)
  intro n st hst
  obtain ⟨e, i, out, put, E, L, rfl, e0, e1, e5, e6, e7, hn, hp1, hp2⟩ := (hI _ _).1 hst
  have hal := allStr out
  by_cases c : i < l.length
  · have w1 : IntKind.i64.wrap ((i : Int) + 1) = ((i + 1 : Nat) : Int) := by rw [w64_id (by omega) (by omega)]; omega
    have hd : l.drop i = l[i] :: l.drop (i + 1) := List.drop_eq_getElem_cons c
    cases put with
    | true =>
      obtain ⟨hl1, hl2⟩ := hp1 rfl
      have b1 : 16 * (out.length + 1) ≤ 140737488355328 := by omega
      have b2 : out.length + 1 ≤ 4611686018427387904 := by omega
      simp -implicitDefEqProofs [e0, e5, e6, e7, c, cStr, w1, vmove, isNil, vappend_sp es35 es35 el9, vbuildSlice_eq es35 el9, cellsOf?, fzParts, setAll, rchParts, rch, elemsOf, b1, b2, hal]
      exact ⟨n - 1, by omega, (hI _ _).2 ⟨_, i + 1, out ++ [l[i]], true, _, _, by simp only [List.map_append, List.map_cons, List.map_nil, cStr]; rfl, by simp [e0], by simp [e1], by simp, by simp [e6], by simp, by omega, fun _ => ⟨by simp; omega, by rw [← hl2, hd]; simp⟩, by simp⟩⟩
    | false =>
      obtain ⟨hl1, hl2⟩ := hp2 rfl
      have b1 : 16 * (out.length + 1) ≤ 140737488355328 := by omega
      have b2 : out.length + 1 ≤ 4611686018427387904 := by omega
      have b3 : 16 * (out.length + 1 + 1) ≤ 140737488355328 := by omega
      have b4 : out.length + 1 + 1 ≤ 4611686018427387904 := by omega
      have hal2 : AllLen (out.map cStr ++ [[CV.v (.string key)]]) 1 := allStr (out ++ [key]) |> fun h => by simpa [cStr] using h
      have hq : Op.bytesLess key.toList l[i].toList = ltS key l[i] := rfl
      cases hlt : ltS key l[i] with
      | true =>
        rw [hlt] at hq
        simp -implicitDefEqProofs [e0, e1, e5, e6, e7, c, cStr, w1, hq, vmove, isNil, vappend_sp es35 es35 el9, vbuildSlice_eq es35 el9, cellsOf?, fzParts, setAll, rchParts, rch, elemsOf, b1, b2, b3, b4, hal, hal2]
        exact ⟨n - 1, by omega, (hI _ _).2 ⟨_, i + 1, out ++ [key, l[i]], true, _, _, by simp only [List.map_append, List.map_cons, List.map_nil, cStr]; rfl, by simp [e0], by simp [e1], by simp, by simp, by simp, by omega, fun _ => ⟨by simp; omega, by rw [← hl2, hd, insS, hlt]; simp⟩, by simp⟩⟩
      | false =>
        rw [hlt] at hq
        simp -implicitDefEqProofs [e0, e1, e5, e6, e7, c, cStr, w1, hq, vmove, isNil, vappend_sp es35 es35 el9, vbuildSlice_eq es35 el9, cellsOf?, fzParts, setAll, rchParts, rch, elemsOf, b1, b2, hal]
        exact ⟨n - 1, by omega, (hI _ _).2 ⟨_, i + 1, out ++ [l[i]], false, _, _, by simp only [List.map_append, List.map_cons, List.map_nil, cStr]; rfl, by simp [e0], by simp [e1], by simp, by simp [e6], by simp, by omega, by simp, fun _ => ⟨by simp; omega, by rw [← hl2, hd, insS, hlt]; simp⟩⟩⟩
  · have hdn : l.drop i = [] := List.drop_eq_nil_of_le (by omega)
    cases put with
    | true =>
      obtain ⟨hl1, hl2⟩ := hp1 rfl
      rw [hdn, List.append_nil] at hl2
      subst hl2
      have htk : ((insS key l).map cStr).take (insS key l).length = (insS key l).map cStr := List.take_of_length_le (by simp)
      simp -implicitDefEqProofs [e0, e5, e6, e7, c, vmove, isNil, htk]
    | false =>
      obtain ⟨hl1, hl2⟩ := hp2 rfl
      rw [hdn] at hl2
      have b1 : 16 * (out.length + 1) ≤ 140737488355328 := by omega
      have b2 : out.length + 1 ≤ 4611686018427387904 := by omega
      have htk : (out.map cStr ++ [[CV.v (.string key)]]).take (out.length + 1) = (insS key l).map cStr := by
        rw [← hl2, List.take_of_length_le (by simp), List.map_append]; rfl
      simp -implicitDefEqProofs [e0, e1, e5, e6, e7, c, vmove, isNil, vappend_sp es35 es35 el9, vbuildSlice_eq es35 el9, cellsOf?, fzParts, setAll, rchParts, rch, elemsOf, b1, b2, hal, htk]
end Go.Proofs.YtmgnmnogiajlgaaGreatF
end

section
/- The document's radar: is it right? -/
set_option maxRecDepth 8192
set_option maxHeartbeats 1000000
namespace Go.Proofs.YtmgnmnogiajlgaaGreatF
open Go Go.Proofs.Vm

theorem rOk_row {R : Rad} {i : Nat} (h : i < R.rows.length) (hw : rowW R.rows R.rows[i] = true) : rOk R = false := by
  unfold rOk
  have : R.rows.any (rowW R.rows) = true := List.any_eq_true.2 ⟨_, List.getElem_mem h, hw⟩
  rw [this]; simp
theorem rr_Right {R : Rad} (hs : Seeds R) (hl : Lens R) : TV.pu 15 [.agg (cRad R)] = some (cB (rOk R)) := by
  refine run15 (by simp) ?_
  obtain ⟨s, fs, h, bits, rows⟩ := R
  obtain ⟨s0, s1, s2, s3⟩ := hs
  obtain ⟨l1, l2, l3⟩ := hl
  dsimp only at s0 s1 s2 s3 l1 l2 l3
  have hf := ref10_Right fs h bits
  have hrw := r2_Row (s := s) (i := 0) s0 s1 (by omega) (by omega)
  simp only [cF] at hf
  obtain ⟨res, hres⟩ : ∃ res, rOk ⟨s, fs, h, bits, rows⟩ = res := ⟨_, rfl⟩
  have hbad : ∀ i (hi : i < rows.length), rowW rows rows[i] = true → res = false := fun i hi hw => by rw [← hres]; exact rOk_row (R := ⟨s, fs, h, bits, rows⟩) hi hw
  rw [hres]
  cases c1 : fOk h bits with
  | false =>
    have : res = false := by rw [← hres, rOk, c1]; simp
    rw [c1] at hf
    simp -implicitDefEqProofs [Tryz.f15, cRad, cRws, hf, this]
  | true =>
  rw [c1] at hf
  by_cases c2 : fs = hrow s 0
  rotate_left
  · have : res = false := by rw [← hres, rOk]; simp [c2]
    simp -implicitDefEqProofs [Tryz.f15, cRad, cRws, hf, hrw, c2, this]
  subst c2
  by_cases c3 : 1 ≤ rows.length
  rotate_left
  · have : res = false := by rw [← hres, rOk]; simp [c3]
    have c3' : (rows.length : Int) = 0 := by omega
    simp -implicitDefEqProofs [Tryz.f15, cRad, cRws, hf, hrw, c3', this]
  have c3' : ¬ (rows.length : Int) = 0 := by omega
  have c3n : ¬ rows = [] := by rintro rfl; simp at c3
  by_cases c4 : rows.length ≤ 7
  rotate_left
  · have : res = false := by rw [← hres, rOk]; simp [c4]
    have c4' : 7 < (rows.length : Int) := by omega
    simp -implicitDefEqProofs [Tryz.f15, cRad, cRws, hf, hrw, c3n, c4', this]
  have c4' : ¬ 7 < (rows.length : Int) := by omega
  have hh0 : 0 < rows.length := by omega
  have hhd : rows.headD [] = rows[0] := by cases rows with | nil => simp at hh0 | cons x t => rfl
  simp -implicitDefEqProofs [Tryz.f15, cRad, cRws, hf, hrw, c3n, c4']
  obtain ⟨I, hI⟩ : ∃ I : Nat → St → Prop, ∀ k s', I k s' ↔ (∃ e i L, s' = ⟨e, .opn [(cRad ⟨s, hrow s 0, h, bits, rows⟩).map .c] false :: L⟩ ∧ e 1 = .one (.ptr ⟨0, 0, 0, 1⟩) ∧ e 3 = vI .i64 (i : Nat) ∧ (i + k = rows.length) ∧ (∀ j (h : j < rows.length), j < i → rowW rows rows[j] = false)) := ⟨_, fun _ _ => Iff.rfl⟩
  refine wpL_ind I ?_ rows.length _ ((hI _ _).2 ⟨_, 0, _, (by first | rfl | (simp [cRad, cRws, cRw]; done) | (simp [cRad, cRws, cRw]; rfl) | (simp [cRad, cRws, cRw]; and_intros <;> rfl)), by simp [cRw], by simp [cRw], by simp, by omega⟩)
  intro k stI hstI
  obtain ⟨e, i, L, rfl, e1, e3, hk, hno⟩ := (hI _ _).1 hstI
  by_cases c : i < rows.length
  rotate_left
  · have : res = true := by
      rw [← hres, rOk]
      have : rows.any (rowW rows) = false := List.any_eq_false.2 fun x hx => by
        obtain ⟨q, hq, rfl⟩ := List.getElem_of_mem hx
        rw [hno q hq (by omega)]; decide
      simp [c1, c3, c4, this]
    simp -implicitDefEqProofs [e1, e3, cRad, cRws, cRw, c, this]
  have w_i : IntKind.i64.wrap ((i : Int) + 1) = ((i + 1 : Nat) : Int) := by rw [w64_id (by omega) (by omega)]; omega
  have hlr := l2 _ (List.getElem_mem c)
  have hbi := hbad i c
  have hrW : rowW rows rows[i] = (decide (rows[i].length < 1) || decide (256 < rows[i].length) || decide (rows[i].length ≠ rows[0].length) || rows[i].any wrongB) := by unfold rowW; rw [hhd]
  by_cases d1 : 1 ≤ rows[i].length
  rotate_left
  · rw [hbi (by rw [hrW, decide_eq_true (show rows[i].length < 1 by omega)]; rfl)]
    have d1' : (rows[i].length : Int) = 0 := by omega
    simp -implicitDefEqProofs [e1, e3, cRad, cRws, cRw, c, d1', vmove, isNil]
  have d1' : ¬ (rows[i].length : Int) = 0 := by omega
  have d1n : ¬ rows[i] = [] := by intro h; rw [h] at d1; simp at d1
  by_cases d2 : rows[i].length ≤ 256
  rotate_left
  · rw [hbi (by rw [hrW, decide_eq_true (show 256 < rows[i].length by omega)]; simp)]
    have d2' : 256 < (rows[i].length : Int) := by omega
    simp -implicitDefEqProofs [e1, e3, cRad, cRws, cRw, c, d1n, d2', vmove, isNil]
  have d2' : ¬ 256 < (rows[i].length : Int) := by omega
  by_cases d3 : rows[i].length = rows[0].length
  rotate_left
  · rw [hbi (by rw [hrW]; simp [d3])]
    have d3' : ¬ (rows[i].length : Int) = rows[0].length := by omega
    simp -implicitDefEqProofs [e1, e3, cRad, cRws, cRw, c, hh0, d1n, d2', d3', vmove, isNil]
  have d3' : ((rows[i].length : Int) != (rows[0].length : Int)) = false := by simp [d3]
  simp -implicitDefEqProofs [e1, e3, cRad, cRws, cRw, c, hh0, d1n, d2', d3', vmove, isNil]
  obtain ⟨J, hJ⟩ : ∃ J : Nat → St → Prop, ∀ k' s', J k' s' ↔ (∃ e p L, s' = ⟨e, .opn [(cRad ⟨s, hrow s 0, h, bits, rows⟩).map .c] false :: L⟩ ∧ e 1 = .one (.ptr ⟨0, 0, 0, 1⟩) ∧ e 3 = vI .i64 (i : Nat) ∧ e 4 = vI .i64 rows[i].length ∧ e 5 = vI .i64 (p : Nat) ∧ (p + k' = rows[i].length) ∧ (∀ q (h : q < rows[i].length), q < p → wrongB rows[i][q] = false)) := ⟨_, fun _ _ => Iff.rfl⟩
  refine wpL_ind J ?_ rows[i].length _ ((hJ _ _).2 ⟨_, 0, _, (by first | rfl | (simp [e1, e3, cRad, cRws, cRw]; done) | (simp [e1, e3, cRad, cRws, cRw]; rfl) | (simp [e1, e3, cRad, cRws, cRw]; and_intros <;> rfl)), by simp [e1], by simp [e3], by simp, by simp, by omega, by omega⟩)
  clear e1 e3
  intro k' stJ hstJ
  obtain ⟨e, p, L, rfl, e1, e3, e4, e5, hk', hnp⟩ := (hJ _ _).1 hstJ
  by_cases d : p < rows[i].length
  rotate_left
  · simp -implicitDefEqProofs [e3, e4, e5, d, w_i, cRad, cRws, cRw]
    refine ⟨k - 1, by omega, (hI _ _).2 ⟨_, i + 1, _, (by first | rfl | (simp [e4]; done) | (simp [e4]; rfl) | (simp [e4]; and_intros <;> rfl)), by simp [e1], by simp, by omega, fun q hq hq2 => ?_⟩⟩
    by_cases hqi : q = i
    · subst hqi
      rw [hrW, decide_eq_false (show ¬ rows[q].length < 1 by omega), decide_eq_false (show ¬ 256 < rows[q].length by omega), decide_eq_false (show ¬ rows[q].length ≠ rows[0].length by omega)]
      simp only [Bool.false_or]
      exact List.any_eq_false.2 fun x hx => by
        obtain ⟨z, hz, rfl⟩ := List.getElem_of_mem hx
        rw [hnp z hz (by omega)]; decide
    · exact hno q hq (by omega)
  have w_p : IntKind.i64.wrap ((p : Int) + 1) = ((p + 1 : Nat) : Int) := by rw [w64_id (by omega) (by omega)]; omega
  have hcell := rr_cell rows[i][p]
  simp only [cCl] at hcell
  cases hw : wrongB rows[i][p] with
  | true =>
    have hany : rows[i].any wrongB = true := List.any_eq_true.2 ⟨_, List.getElem_mem d, hw⟩
    rw [hbi (by rw [hrW, hany]; simp)]
    rw [hw] at hcell
    simp -implicitDefEqProofs [e1, e3, e4, e5, c, d, cRad, cRws, cRw, cCl, hcell]
  | false =>
    rw [hw] at hcell
    simp -implicitDefEqProofs [e1, e3, e4, e5, c, d, w_p, cRad, cRws, cRw, cCl, hcell]
    refine ⟨k' - 1, by omega, (hJ _ _).2 ⟨_, p + 1, _, (by first | rfl | (simp [cRad, cRws, cRw]; done) | (simp [cRad, cRws, cRw]; rfl) | (simp [cRad, cRws, cRw]; and_intros <;> rfl)), by simp [e1], by simp [e3], by simp [e4], by simp, by omega, fun q hq hq2 => ?_⟩⟩
    by_cases hqp : q = p
    · subst hqp; exact hw
    · exact hnp q hq (by omega)
end Go.Proofs.YtmgnmnogiajlgaaGreatF
end

section
/- Is a radar empty; a key's place; all that is pure, again and again. -/
set_option maxRecDepth 8192
set_option maxHeartbeats 1000000
namespace Go.Proofs.YtmgnmnogiajlgaaGreatF
open Go Go.Proofs.Vm

def nought : ByteArray := ⟨#[0, 0, 0, 0, 0, 0, 0, 0, 0, 0, 0, 0, 0, 0, 0, 0, 0, 0, 0, 0, 0, 0, 0, 0, 0, 0, 0, 0, 0, 0, 0, 0, 0, 0, 0, 0, 0]⟩
/-- Is something in a cell? -/
def fullC (c : RCl) : Bool := decide (c.2.1 ≠ 0) || !sEq c.1 nought
theorem rd_full (c : RCl) : TV.pu 78 [.agg (cCl c)] = some (cB (fullC c)) := by
  refine run78 (by simp) ?_
  obtain ⟨x, fl, pk, bb⟩ := c
  unfold fullC
  by_cases h : fl = 0
  · simp -implicitDefEqProofs [Tryz.f78, cCl, h]
    simp [sEq, nought]
  · simp -implicitDefEqProofs [Tryz.f78, cCl, h]
theorem rd_fullrow {r : List RCl} (hl : r.length < 9223372036854775807) : TV.pu 76 [.one (cRw r)] = some (cB (r.any fullC)) := by
  refine run76 (by simp) ?_
  have hc := contains_cells (g := .fn 78 []) rfl (p := fullC) (r := r) (fun n _ => rd_full n) hl
  simp only [cRw] at hc
  simp -implicitDefEqProofs [Tryz.f76, cRw, hc]
def emptyB (R : Rad) : Bool := rOk R && !R.rows.any (·.any fullC)
theorem rd_Empty {R : Rad} (hs : Seeds R) (hl : Lens R) : TV.pu 46 [.agg (cRad R)] = some (cB (emptyB R)) := by
  refine run46 (by simp) ?_
  have hR := rd_Right hs hl
  have hc := contains_crows (g := .fn 76 []) rfl (p := fun r => r.any fullC) (r := R.rows) (fun n hn => rd_fullrow (by have := hl.2.1 n hn; omega)) (by have := hl.1; omega)
  simp only [cRad, cRws, cRw] at hR hc
  unfold emptyB
  cases c1 : rOk R with
  | false =>
    rw [c1] at hR
    simp -implicitDefEqProofs [Tryz.f46, cRad, cRws, cRw, hR]
  | true =>
    rw [c1] at hR
    simp -implicitDefEqProofs [Tryz.f46, cRad, cRws, cRw, hR, hc]

theorem rd_Place {R : Rad} {key : ByteArray} {i : Nat} (hs : Seeds R) (hl : Lens R) (hok : rOk R = true) (hi : i < R.rows.length) (hk : key.size = 37) : TV.pu 36 [.agg (cRad R), cS key, cI .i64 i] = some (cI .i64 (rplc R key i R.rows[i].length)) := by
  refine run36 (by simp) ?_
  have hR := rd_Right hs hl
  rw [hok] at hR
  have hp := rd_place (key := key) hs hl hi (by omega)
  have hk' : (key.size : Int) = 37 := by omega
  have i0 : ¬ (i : Int) < 0 := by omega
  have i1 : ¬ (R.rows.length : Int) ≤ i := by omega
  simp only [cRad, cRws, cRw] at hR hp
  simp -implicitDefEqProofs [Tryz.f36, cRad, cRws, cRw, hR, hp, hk, i0, i1]
end Go.Proofs.YtmgnmnogiajlgaaGreatF
end

section
/- A radar that is changed stays right; a peel ends. -/
set_option maxRecDepth 8192
set_option maxHeartbeats 1000000
namespace Go.Proofs.YtmgnmnogiajlgaaGreatF
open Go Go.Proofs.Vm

theorem rOk_of {r : Rad} (h1 : fOk r.h r.bits = true) (h2 : r.fs = hrow r.s 0) (h3 : 1 ≤ r.rows.length) (h4 : r.rows.length ≤ 7) (h5 : ∀ x ∈ r.rows, 1 ≤ x.length ∧ x.length ≤ 256 ∧ x.length = (r.rows.headD []).length ∧ ∀ c ∈ x, wrongB c = false) : rOk r = true := by
  unfold rOk
  simp only [Bool.and_eq_true, decide_eq_true_eq, Bool.not_eq_true']
  refine ⟨⟨⟨⟨h1, h2⟩, h3⟩, h4⟩, List.any_eq_false.2 fun x hx => ?_⟩
  obtain ⟨a1, a2, a3, a4⟩ := h5 x hx
  unfold rowW
  simp only [Bool.or_eq_true, decide_eq_true_eq, not_or, Bool.not_eq_true]
  exact ⟨⟨⟨by omega, by omega⟩, by omega⟩, List.any_eq_false.2 fun c hc => by rw [a4 c hc]; decide⟩

theorem mem_modify {α : Type} {f : α → α} {x : α} : ∀ {l : List α} {q : Nat}, x ∈ l.modify q f → x ∈ l ∨ ∃ h : q < l.length, x = f l[q]
  | [], q, h => by simp at h
  | y :: l, 0, h => by
    rw [List.modify_zero_cons] at h
    rcases List.mem_cons.1 h with h | h
    · exact .inr ⟨by simp, h⟩
    · exact .inl (List.mem_cons_of_mem _ h)
  | y :: l, q + 1, h => by
    rw [List.modify_succ_cons] at h
    rcases List.mem_cons.1 h with h | h
    · exact .inl (by rw [h]; exact List.mem_cons_self)
    · rcases mem_modify h with h | ⟨h1, h2⟩
      · exact .inl (List.mem_cons_of_mem _ h)
      · exact .inr ⟨by simpa using h1, by simpa using h2⟩
theorem updA_at (f : RCl → RCl) (s : Int) (key : ByteArray) (rows : List (List RCl)) (j : Nat) (h : j < (updA f s key rows).length) : (updA f s key rows)[j] = updR f s key (j : Int) (rows[j]'(by rw [updA, updTo_len] at h; exact h)) := by
  have h' : j < rows.length := by rw [updA, updTo_len] at h; exact h
  simp [updA, updTo, h']
theorem updA_len (f : RCl → RCl) (s : Int) (key : ByteArray) (rows : List (List RCl)) : (updA f s key rows).length = rows.length := updTo_len ..
theorem curC_mem {s : Int} {key : ByteArray} {j : Int} {r : List RCl} (h : 1 ≤ r.length) : curC s key j r ∈ r := by
  have hc := hcell_range (hrow s (j + 1)) key (r.length : Int) (by omega)
  have hq : (hcell (hrow s (j + 1)) key (r.length : Int)).toNat < r.length := by omega
  rw [curC, List.getD_eq_getElem?_getD, List.getElem?_eq_getElem hq]
  exact List.getElem_mem hq
theorem updA_ok {R : Rad} {f : RCl → RCl} {key : ByteArray} {bits' : List Bool} (hok : rOk R = true) (hb : fOk R.h bits' = true) (hf : ∀ j, ∀ h : j < R.rows.length, wrongB (f (curC R.s key (j : Int) R.rows[j])) = false) : rOk { R with bits := bits', rows := updA f R.s key R.rows } = true := by
  obtain ⟨q1, q2, q3, q4, q5⟩ := rOk_facts hok
  have hhead : ((updA f R.s key R.rows).headD []).length = (R.rows.headD []).length := by
    have h0 : 0 < R.rows.length := by omega
    have h1 : 0 < (updA f R.s key R.rows).length := by rw [updA_len]; exact h0
    have e1 : ∀ (l : List (List RCl)) (h : 0 < l.length), l.headD [] = l[0] := fun l h => by cases l with | nil => simp at h | cons x t => rfl
    rw [e1 _ h0, e1 _ h1, updA_at, updR_len]
  refine rOk_of hb q2 (by rw [updA_len]; exact q3) (by rw [updA_len]; exact q4) fun x hx => ?_
  obtain ⟨j, hj, rfl⟩ := List.getElem_of_mem hx
  have hj' : j < R.rows.length := by rw [updA_len] at hj; exact hj
  dsimp only
  rw [hhead, updA_at, updR_len]
  obtain ⟨a1, a2, a3, a4⟩ := q5 _ (List.getElem_mem hj')
  refine ⟨a1, a2, a3, fun c hc => ?_⟩
  rcases mem_modify hc with h | ⟨h1, h2⟩
  · exact a4 c h
  · have := hf j hj'
    rw [curC, List.getD_eq_getElem?_getD, List.getElem?_eq_getElem h1] at this
    rw [h2]; exact this
theorem remC_ok {key : ByteArray} {c : RCl} (h : wrongB c = false) : wrongB (remC key c) = false := by
  rw [wrongB_iff] at h ⊢
  obtain ⟨h1, h2, h3, h4, h5, h6, h7⟩ := h
  refine ⟨by simp only [remC]; rw [xorK_size]; exact h1, ?_, ?_, h4, h5, h6, h7⟩
  · simp only [remC]; omega
  · simp only [remC]; omega
def remR (R : Rad) (key : ByteArray) : Rad := { R with rows := updA (remC key) R.s key R.rows }
theorem remR_ok {R : Rad} {key : ByteArray} (hok : rOk R = true) : rOk (remR R key) = true := by
  obtain ⟨q1, q2, q3, q4, q5⟩ := rOk_facts hok
  exact updA_ok hok q1 fun j h => remC_ok ((q5 _ (List.getElem_mem h)).2.2.2 _ (curC_mem (q5 _ (List.getElem_mem h)).1))
theorem remR_lens {R : Rad} {key : ByteArray} (hl : Lens R) : Lens (remR R key) := by
  refine ⟨by simp only [remR]; rw [updA_len]; exact hl.1, fun x hx => ?_, hl.2.2⟩
  obtain ⟨j, hj, rfl⟩ := List.getElem_of_mem hx
  simp only [remR] at hj ⊢
  rw [updA_at, updR_len]
  exact hl.2.1 _ (List.getElem_mem _)

/-! the peel ends: fewer and fewer cells with a flow -/
def pos (c : RCl) : Bool := decide (1 ≤ c.2.1)
def posN (R : Rad) : Nat := (R.rows.map (·.countP pos)).sum
theorem countP_modify {α : Type} {p : α → Bool} {f : α → α} (hf : ∀ x, p (f x) = true → p x = true) : ∀ (l : List α) (q : Nat), (l.modify q f).countP p ≤ l.countP p
  | [], q => by simp
  | y :: l, 0 => by
    rw [List.modify_zero_cons, List.countP_cons, List.countP_cons]
    by_cases h : p (f y) = true
    · simp [h, hf y h]
    · simp [h]
  | y :: l, q + 1 => by
    rw [List.modify_succ_cons, List.countP_cons, List.countP_cons]
    have := countP_modify hf l q
    omega
theorem countP_modify_lt {α : Type} {p : α → Bool} {f : α → α} : ∀ (l : List α) (q : Nat) (h : q < l.length), p l[q] = true → p (f l[q]) = false → (l.modify q f).countP p < l.countP p
  | [], q, h, _, _ => by simp at h
  | y :: l, 0, _, h1, h2 => by
    rw [List.modify_zero_cons, List.countP_cons, List.countP_cons]
    have h1 : p y = true := h1
    have h2 : p (f y) = false := h2
    simp [h1, h2]
  | y :: l, q + 1, h, h1, h2 => by
    rw [List.modify_succ_cons, List.countP_cons, List.countP_cons]
    have := countP_modify_lt l q (by simpa using h) (by simpa using h1) (by simpa using h2)
    omega
theorem sum_lt : ∀ (l m : List Nat), l.length = m.length → (∀ j (h : j < l.length) (h' : j < m.length), l[j] ≤ m[j]) → ∀ i (h : i < l.length) (h' : i < m.length), l[i] < m[i] → l.sum < m.sum
  | [], _, _, _, i, h, _, _ => by simp at h
  | _ :: _, [], hl, _, _, _, _, _ => by simp at hl
  | x :: l, y :: m, hl, hle, i, h, h', hlt => by
    have hxy : x ≤ y := hle 0 (by simp) (by simp)
    have hle2 : ∀ j (h : j < l.length) (h' : j < m.length), l[j] ≤ m[j] := fun j a b => hle (j + 1) (by simpa using a) (by simpa using b)
    have hl2 : l.length = m.length := by simpa using hl
    have hs : l.sum ≤ m.sum := by
      clear hlt h h' hle hl
      induction l generalizing m with
      | nil => simp
      | cons a l ih =>
        cases m with
        | nil => simp at hl2
        | cons b m =>
          have h0 := hle2 0 (by simp) (by simp)
          have := ih m (fun j p q => hle2 (j + 1) (by simpa using p) (by simpa using q)) (by simpa using hl2)
          simp at h0 ⊢
          omega
    rw [List.sum_cons, List.sum_cons]
    cases i with
    | zero => simp at hlt; omega
    | succ i =>
      have := sum_lt l m hl2 hle2 i (by simpa using h) (by simpa using h') (by simpa using hlt)
      omega
theorem pureOf_some {R : Rad} {told : List ByteArray} {k : ByteArray} (h : pureOf R told = some k) : ∃ (i p : Nat) (hi : i < R.rows.length) (hp : p < R.rows[i].length), okC R told i R.rows[i].length p R.rows[i][p] = true ∧ R.rows[i][p].1 = k := by
  unfold pureOf at h
  obtain ⟨i, hi, h⟩ := List.exists_of_findSome?_eq_some h
  have hi := List.mem_range.1 hi
  unfold pureR at h
  have hgi : R.rows.getD i [] = R.rows[i] := by rw [List.getD_eq_getElem?_getD, List.getElem?_eq_getElem hi]; rfl
  rw [hgi] at h
  obtain ⟨p, hp, h⟩ := List.exists_of_findSome?_eq_some h
  have hp := List.mem_range.1 hp
  have hgp : R.rows[i].getD p zC = R.rows[i][p] := by rw [List.getD_eq_getElem?_getD, List.getElem?_eq_getElem hp]; rfl
  rw [hgp] at h
  split at h
  · rename_i hc
    exact ⟨i, p, hi, hp, hc, Option.some.inj h⟩
  · cases h
theorem okC_facts {R : Rad} {told : List ByteArray} {i n p : Nat} {c : RCl} (h : okC R told i n p c = true) : c.2.1 = 1 ∧ rplc R c.1 i n = (p : Int) ∧ hasB R.fs R.h R.bits c.1 = true ∧ c.1 ∉ told := by
  unfold okC at h
  simp only [Bool.and_eq_true, decide_eq_true_eq, Bool.not_eq_true', List.any_eq_false] at h
  obtain ⟨⟨⟨h1, h2⟩, h3⟩, h4⟩ := h
  exact ⟨h1, h2, h3, fun hx => h4 _ hx (sEq_iff.2 rfl)⟩
theorem posN_rem {R : Rad} {told : List ByteArray} {k : ByteArray} (h : pureOf R told = some k) : posN (remR R k) < posN R := by
  obtain ⟨i, p, hi, hp, hc, rfl⟩ := pureOf_some h
  obtain ⟨h1, h2, -, -⟩ := okC_facts hc
  unfold posN
  have hmono : ∀ x, pos (remC R.rows[i][p].1 x) = true → pos x = true := fun x hx => by
    have hx : 1 ≤ max (x.2.1 - 1) (-1099511627776) := of_decide_eq_true hx
    exact decide_eq_true (by omega)
  refine sum_lt _ _ (by simp [remR, updA_len]) (fun j a b => ?_) i (by simpa [remR, updA_len] using hi) (by simpa using hi) ?_
  · simp only [List.getElem_map, remR, updA_at]
    exact countP_modify hmono _ _
  · simp only [List.getElem_map, remR, updA_at]
    have hq : (hcell (hrow R.s ((i : Int) + 1)) R.rows[i][p].1 (R.rows[i].length : Int)).toNat = p := by
      have : hcell (hrow R.s ((i : Int) + 1)) R.rows[i][p].1 (R.rows[i].length : Int) = (p : Int) := h2
      rw [this]; rfl
    unfold updR
    rw [hq]
    exact countP_modify_lt _ _ hp (by simp [pos, h1]) (decide_eq_false (by simp only [remC, h1]; omega))
theorem pureOf_size {R : Rad} {told : List ByteArray} {k : ByteArray} (hok : rOk R = true) (h : pureOf R told = some k) : k.size = 37 := by
  obtain ⟨i, p, hi, hp, hc, rfl⟩ := pureOf_some h
  obtain ⟨q1, q2, q3, q4, q5⟩ := rOk_facts hok
  exact ((wrongB_iff _).1 ((q5 _ (List.getElem_mem hi)).2.2.2 _ (List.getElem_mem hp))).1

/-- A peel of so many rounds. -/
def peelN : Nat → Rad → List ByteArray → List ByteArray × Rad
  | 0, R, out => (ssort out, R)
  | n + 1, R, out => match pureOf R out with
    | some k => peelN n (remR R k) (out ++ [k])
    | none => (ssort out, R)
def peel (R : Rad) : List ByteArray × Rad := peelN (posN R) R []
end Go.Proofs.YtmgnmnogiajlgaaGreatF
end

section
/- All that is pure, again and again. -/
set_option maxRecDepth 8192
set_option maxHeartbeats 1000000
namespace Go.Proofs.YtmgnmnogiajlgaaGreatF
open Go Go.Proofs.Vm

theorem sort_strs {H : Hp} {id : Nat} {l : List ByteArray} (h : H[id]? = some (.clo (l.map cStr) false)) (hlt : l.length < 4611686018427387904) : TV.S 29 [.one (.sl id 0 l.length l.length)] H = some (und, H.set id (.clo ((ssort l).map cStr) false)) := by
  refine TT_baseS ?_
  show (if (29 : FuncId) = 29 then sortSRun [.one (.sl id 0 l.length l.length)] H else none) = _
  rw [if_pos rfl]
  have hm : mapO strOf1 (l.map cStr) = some l := mapO_strOf1 l
  simp only [sortSRun, h, hm, List.length_map]
  simp [hlt]
  rfl
theorem posN_le {R : Rad} (hok : rOk R = true) : posN R ≤ 1792 := by
  obtain ⟨q1, q2, q3, q4, q5⟩ := rOk_facts hok
  have key : ∀ l : List (List RCl), (∀ x ∈ l, x.length ≤ 256) → (l.map (·.countP pos)).sum ≤ 256 * l.length := by
    intro l
    induction l with
    | nil => intro _; simp
    | cons x l ih =>
      intro h
      have h1 := h x List.mem_cons_self
      have h2 := ih fun y hy => h y (List.mem_cons_of_mem _ hy)
      have h3 := List.countP_le_length (p := pos) (l := x)
      simp only [List.map_cons, List.sum_cons, List.length_cons]
      omega
  have := key R.rows fun x hx => (q5 x hx).2.1
  unfold posN
  omega
theorem peelN_none {R : Rad} {out : List ByteArray} (h : pureOf R out = none) : ∀ n, peelN n R out = (ssort out, R)
  | 0 => rfl
  | n + 1 => by rw [peelN, h]
theorem cStr_all (l : List ByteArray) : AllLen (l.map cStr) 1 := by intro x hx; obtain ⟨y, _, rfl⟩ := List.mem_map.1 hx; rfl
theorem take_str (l : List ByteArray) : (l.map cStr).take l.length = l.map cStr := List.take_of_length_le (by simp)
theorem ssort_len (l : List ByteArray) : (ssort l).length = l.length := List.length_mergeSort _
theorem take_ssort (l : List ByteArray) : ((ssort l).map cStr).take l.length = (ssort l).map cStr := List.take_of_length_le (by simp [ssort_len])
def peelA (r : List ByteArray × Rad) : CA := .tup [(false, [cSs r.1]), (true, cRad r.2)]
end Go.Proofs.YtmgnmnogiajlgaaGreatF
end

section
/- New radars. -/
set_option maxRecDepth 8192
set_option maxHeartbeats 1000000
namespace Go.Proofs.YtmgnmnogiajlgaaGreatF
open Go Go.Proofs.Vm

theorem vcopy_eq {P : Program} {H : Hp} {t e : TypeId} {sz b : Nat} {z : List CV} (he : elemOfSlice P t = some e) (hel : elOf P e = some (sz, b, z)) {id o n tot : Nat} {l xs : List (List CV)} {x : AV} (hx : elemsOf H x = some xs) (hl : H[id]? = some (.clo l false)) (h1 : l.length = tot) (h2 : o + n ≤ tot) (h3 : AllLen l sz) (h4 : AllLen xs sz) :
    vcopy P H t (.one (.sl id o n tot)) x = some (.one (.c (.v (.int .i64 (min xs.length n : Nat)))), H.set id (.clo (wr l o (xs.take n)) false)) := by
  obtain ⟨i, v, g1, g2, g3, g4, g5, g6, g7⟩ := elOf_facts hel
  unfold vcopy
  rw [hx, he]
  dsimp only
  rw [hl, g1]
  dsimp only
  rw [if_pos ⟨h1, h2, by rw [g3]; exact h3, by rw [g3]; exact h4⟩]
theorem wr_eq {α : Type} : ∀ (xs l : List α) (o : Nat), o + xs.length ≤ l.length → wr l o xs = l.take o ++ (xs ++ l.drop (o + xs.length))
  | [], l, o, _ => by simp [wr]
  | x :: xs, l, o, h => by
    have h' : o + (xs.length + 1) ≤ l.length := h
    rw [wr, wr_eq xs _ _ (by simp; omega)]
    rw [List.take_set, List.drop_set_of_lt (by omega), List.take_add_one, List.getElem?_eq_getElem (by omega)]
    have : o < l.length := by omega
    rw [List.length_cons, show o + 1 + xs.length = o + (xs.length + 1) by omega]
    simp only [Option.toList_some]
    rw [List.set_append_right _ _ (by simp; omega)]
    simp [Nat.min_eq_left (Nat.le_of_lt this)]
/-- The first so many are it, the other ones not yet. -/
def repP {α : Type} (c z : α) (k n : Nat) : List α := List.replicate k c ++ List.replicate (n - k) z
theorem repP_len {α : Type} (c z : α) {k n : Nat} (h : k ≤ n) : (repP c z k n).length = n := by simp [repP]; omega
theorem repP_wr {α : Type} (c z : α) {k m n : Nat} (h : k + m ≤ n) : wr (repP c z k n) k (List.replicate m c) = repP c z (k + m) n := by
  rw [wr_eq _ _ _ (by rw [repP_len _ _ (by omega)]; simpa using h)]
  unfold repP
  rw [List.take_left' (by simp), List.length_replicate, List.drop_append, List.drop_eq_nil_of_le (by simp), List.length_replicate, List.drop_replicate, List.nil_append, ← List.append_assoc, List.replicate_append_replicate, show n - k - (k + m - k) = n - (k + m) by omega]
theorem repP_take {α : Type} (c z : α) {k n : Nat} : (repP c z k n).take k = List.replicate k c := by unfold repP; rw [List.take_left' (by simp)]
theorem slo_from {P : Program} {H : Hp} {t e sz nid : Nat} (he : elemOfSlice P t = some e) (hs : pv P (sizeOf e) = some sz) {id n tot k : Nat} (hl : lenIs H id tot = true) (h1 : k < n) (h2 : elAt H id tot k = some sz) : vslice P H nid t (.one (.sl id 0 n tot)) (some (vI .i64 (k : Int))) none none = qa (.one (.sl id k (n - k) tot)) := by
  unfold vslice
  simp only [he, hs, optInt, Option.getD_none, Option.getD_some]
  rw [if_pos ⟨hl, by omega, by omega, by omega, .inr (by simpa using h2)⟩]
  simp
theorem slo_to {P : Program} {H : Hp} {t e sz nid : Nat} (he : elemOfSlice P t = some e) (hs : pv P (sizeOf e) = some sz) {id n tot k : Nat} (hl : lenIs H id tot = true) (h1 : k ≤ n) (h2 : elAt H id tot 0 = some sz) : vslice P H nid t (.one (.sl id 0 n tot)) none (some (vI .i64 (k : Int))) none = qa (.one (.sl id 0 k tot)) := by
  unfold vslice
  simp only [he, hs, optInt, Option.getD_none, Option.getD_some]
  rw [if_pos ⟨hl, by omega, by omega, by omega, .inr (by simpa using h2)⟩]
  simp
theorem bits_Mul {a b : Int} (ha0 : 0 ≤ a) (ha : a < 18446744073709551616) (hb0 : 0 ≤ b) (hb : b < 18446744073709551616) (h : a * b < 18446744073709551616) : TV.pu 82 [cI .u64 a, cI .u64 b] = some (.tup [(false, [.v (.int .u64 0)]), (false, [.v (.int .u64 (a * b))])]) := by
  refine run82 (by simp) ?_
  have hm := Mul64 ha0 ha hb0 hb
  have h0 : 0 ≤ a * b := Int.mul_nonneg ha0 hb0
  rw [show a * b / 18446744073709551616 = 0 by omega, show a * b % 18446744073709551616 = a * b by omega] at hm
  simp -implicitDefEqProofs [Tryz.f82, hm]
theorem cells_Repeat {c : RCl} {n : Nat} (h0 : 1 ≤ n) (h1 : n ≤ 256) : TV.pu 49 [.one (cRw [c]), cI .i64 n] = some (.one (cRw (List.replicate n c))) := by
  refine run49 (by simp) ?_
  have hm := bits_Mul (a := 1) (b := (n : Int)) (by omega) (by omega) (by omega) (by omega) (by omega)
  have hn0 : ¬ (n : Int) < 0 := by omega
  have w0 : IntKind.u64.wrap 1 = 1 := by decide
  have w1 : IntKind.u64.wrap (n : Int) = (n : Int) := by rw [IntKind.wrap_u64]; omega
  have w2 : IntKind.i64.wrap (n : Int) = (n : Int) := w64_id (by omega) (by omega)
  have hg : ¬ (9223372036854775807 : Int) < n := by omega
  have hz : n ≠ 0 := by omega
  rw [Int.one_mul] at hm
  simp -implicitDefEqProofs [Tryz.f49, cRw, vmove, isNil, hn0, w0, w1, w2, hm, hg, vmakeSlice_eq es70 el72, small, hz]
  refine ⟨⟨by omega, by omega⟩, ?_⟩
  have hcp : ∀ (k : Nat) (L : Hp) (x : AV) (xs : List (List CV)), k ≤ n → elemsOf (.clo [] false :: .clo (repP (cCl c) (cCl zC) k n) false :: L) x = some xs → AllLen xs 4 → vcopy Tryz.prog (.clo [] false :: .clo (repP (cCl c) (cCl zC) k n) false :: L) 70 (.one (.sl 1 k (n - k) n)) x = some (.one (.c (.v (.int .i64 (min xs.length (n - k) : Nat)))), .clo [] false :: .clo (wr (repP (cCl c) (cCl zC) k n) k (xs.take (n - k))) false :: L) := fun k L x xs hk hx hxs => by
    exact vcopy_eq es70 el72 hx rfl (repP_len _ _ hk) (by omega) (fun y hy => by
      rcases List.mem_append.1 hy with h | h
      · rw [List.eq_of_mem_replicate h]; rfl
      · rw [List.eq_of_mem_replicate h]; rfl) hxs
  have h0 : vcopy Tryz.prog [.clo [] false, .clo (List.replicate n [.v (.string ByteArray.empty), .v (.int .i64 0), .v (.int .i64 0), .v (.int .i64 0)]) false] 70 (.one (.sl 1 0 n n)) (.one (.c (.arr [cCl c]))) = some (.one (.c (.v (.int .i64 1))), [.clo [] false, .clo (repP (cCl c) (cCl zC) 1 n) false]) := by
    have h := hcp 0 [] (.one (.c (.arr [cCl c]))) [cCl c] (by omega) rfl (by intro y hy; rw [List.mem_singleton.1 hy]; rfl)
    rw [show [cCl c].take (n - 0) = List.replicate 1 (cCl c) by rw [List.take_of_length_le (by simp; omega)]; rfl, repP_wr _ _ (by omega), show min [cCl c].length (n - 0) = 1 by simp; omega] at h
    simp only [repP, Nat.sub_zero, List.replicate_zero, List.nil_append] at h ⊢
    exact h
  simp -implicitDefEqProofs [h0]
  obtain ⟨I, hI⟩ : ∃ I : Nat → St → Prop, ∀ m s', I m s' ↔ (∃ e k, s' = ⟨e, [.clo [] false, .clo (repP (cCl c) (cCl zC) k n) false]⟩ ∧ e 7 = .one (.sl 1 0 n n) ∧ e 8 = vI .i64 (k : Nat) ∧ 1 ≤ k ∧ k ≤ n ∧ m = n - k) := ⟨_, fun _ _ => Iff.rfl⟩
  refine wpL_ind I ?_ (n - 1) _ ((hI _ _).2 ⟨_, 1, rfl, by simp, by simp, by omega, by omega, rfl⟩)
  intro m st hst
  obtain ⟨e, k, rfl, e7, e8, hk1, hk2, rfl⟩ := (hI _ _).1 hst
  by_cases d : k < n
  · have d' : (k : Int) < n := by omega
    have hl := repP_len (cCl c) (cCl zC) hk2
    have ht := repP_take (cCl c) (cCl zC) (k := k) (n := n)
    obtain ⟨q, hq⟩ : ∃ q, q = min k (n - k) := ⟨_, rfl⟩
    have hc := hcp k [] (.one (.sl 1 0 k n)) (List.replicate k (cCl c)) hk2 (by simp [elemsOf, hl, ht]) (by intro y hy; rw [List.eq_of_mem_replicate hy]; rfl)
    rw [List.length_replicate, List.take_replicate, Nat.min_comm (n - k) k, ← hq, repP_wr _ _ (by omega)] at hc
    have w3 : IntKind.i64.wrap ((k : Int) + (q : Int)) = ((k + q : Nat) : Int) := by rw [w64_id (by omega) (by omega)]; omega
    have hle : lenIs [.clo [] false, .clo (repP (cCl c) (cCl zC) k n) false] 1 n = true := by simp [lenIs, Ent.len, hl]
    have hel : ∀ j, j < n → elAt [.clo [] false, .clo (repP (cCl c) (cCl zC) k n) false] 1 n j = some 4 := fun j hj => by
      have hj' : j < (repP (cCl c) (cCl zC) k n).length := by rw [hl]; exact hj
      simp only [elAt, List.getElem?_cons_succ, List.getElem?_cons_zero, hl, if_true, List.getElem?_eq_getElem hj', Option.map_some]
      rcases List.mem_append.1 (List.getElem_mem hj') with h | h
      · rw [List.eq_of_mem_replicate h]; rfl
      · rw [List.eq_of_mem_replicate h]; rfl
    have hf := slo_from (P := Tryz.prog) (nid := 2) es70 sz72 hle d (hel k d)
    have hto := slo_to (P := Tryz.prog) (nid := 2) es70 sz72 hle hk2 (hel 0 (by omega))
    simp -implicitDefEqProofs [e7, e8, d', hc, w3, hl, hf, hto]
    exact ⟨n - (k + q), by omega, (hI _ _).2 ⟨_, k + q, rfl, by simp [e7], by simp, by omega, by omega, rfl⟩⟩
  · have hkn : k = n := by omega
    subst hkn
    have hrk : repP (cCl c) (cCl zC) k k = (List.replicate k c).map cCl := by simp [repP]
    rw [hrk]
    simp -implicitDefEqProofs [e7, e8]
end Go.Proofs.YtmgnmnogiajlgaaGreatF
end

section
/- New radars. -/
set_option maxRecDepth 8192
set_option maxHeartbeats 1000000
namespace Go.Proofs.YtmgnmnogiajlgaaGreatF
open Go Go.Proofs.Vm

def nC : RCl := (nought, 0, 0, 0)
def newRad (seed : Int) (bits : Nat) (h : Int) (rows cols : Nat) : Rad := ⟨seed, hrow seed 0, h, List.replicate bits false, List.replicate rows (List.replicate cols nC)⟩
theorem rd_New_arg {seed bits h rows cols : Int} (h0 : 0 ≤ seed) (h1 : seed < 18446744073709551616) (hb : ¬ (1 ≤ bits ∧ bits ≤ 256 ∧ 1 ≤ h ∧ h ≤ 7 ∧ 1 ≤ rows ∧ rows ≤ 7 ∧ 1 ≤ cols ∧ cols ≤ 256)) : TV.pu 23 [cI .u64 seed, cI .i64 bits, cI .i64 h, cI .i64 rows, cI .i64 cols] = some (.tup [(true, cRad zRad), (false, [.v (.int .i64 1)])]) := by
  refine run23 (by simp) ?_
  have hrw := hash_Row (s := seed) (i := 0) h0 h1 (by omega) (by omega)
  have fin : ∀ (H : Hp), True := fun _ => trivial
  by_cases g : 1 ≤ bits ∧ bits ≤ 256 ∧ 1 ≤ h ∧ h ≤ 7
  · have hn := bloom_New (seed := hrow seed 0) (bits := bits) (h := h) g.1 g.2.1 g.2.2.1 g.2.2.2
    simp only [cF] at hn
    by_cases g1 : rows < 1
    · simp -implicitDefEqProofs [Tryz.f23, hrw, hn, vmove, isNil, vstore, cellsOf?, Ent.wrO, wr, g1]
      simp [qa, zRad, cRad, cRws]
    · by_cases g2 : 7 < rows
      · simp -implicitDefEqProofs [Tryz.f23, hrw, hn, vmove, isNil, vstore, cellsOf?, Ent.wrO, wr, g1, g2]
        simp [qa, zRad, cRad, cRws]
      · by_cases g3 : cols < 1
        · simp -implicitDefEqProofs [Tryz.f23, hrw, hn, vmove, isNil, vstore, cellsOf?, Ent.wrO, wr, g1, g2, g3]
          simp [qa, zRad, cRad, cRws]
        · have g4 : 256 < cols := by omega
          simp -implicitDefEqProofs [Tryz.f23, hrw, hn, vmove, isNil, vstore, cellsOf?, Ent.wrO, wr, g1, g2, g3, g4]
          simp [qa, zRad, cRad, cRws]
  · have hn := bloom_New_arg (seed := hrow seed 0) (bits := bits) (h := h) g
    simp only [cF, List.map_nil] at hn
    simp -implicitDefEqProofs [Tryz.f23, hrw, hn, vmove, isNil, vstore, cellsOf?, Ent.wrO, wr]
    simp [qa, zRad, cRad, cRws]

theorem rd_New {seed hh : Int} {bits rows cols : Nat} (h0 : 0 ≤ seed) (h1 : seed < 18446744073709551616) (hb : 1 ≤ bits ∧ bits ≤ 256 ∧ 1 ≤ hh ∧ hh ≤ 7 ∧ 1 ≤ rows ∧ rows ≤ 7 ∧ 1 ≤ cols ∧ cols ≤ 256) : TV.pu 23 [cI .u64 seed, cI .i64 bits, cI .i64 hh, cI .i64 rows, cI .i64 cols] = some (.tup [(true, cRad (newRad seed bits hh rows cols)), (false, [.v (.int .i64 0)])]) := by
  refine run23 (by simp) ?_
  obtain ⟨b1, b2, b3, b4, b5, b6, b7, b8⟩ := hb
  have hrw := hash_Row (s := seed) (i := 0) h0 h1 (by omega) (by omega)
  have hn := bloom_New (seed := hrow seed 0) (bits := (bits : Int)) (h := hh) (by omega) (by omega) b3 b4
  simp only [cF, Int.toNat_natCast] at hn
  have g1 : ¬ (rows : Int) < 1 := by omega
  have g2 : ¬ 7 < (rows : Int) := by omega
  have g3 : ¬ (cols : Int) < 1 := by omega
  have g4 : ¬ 256 < (cols : Int) := by omega
  simp -implicitDefEqProofs [Tryz.f23, hrw, hn, vmove, isNil, vstore, cellsOf?, Ent.wrO, wr, g1, g2, g3, g4]
  have hcr := cells_Repeat (c := nC) b7 b8
  obtain ⟨R, hR⟩ : ∃ R, R = List.replicate cols (cCl nC) := ⟨_, rfl⟩
  rw [show cRw (List.replicate cols nC) = .arr R by rw [hR, cRw, List.map_replicate]] at hcr
  simp only [nC, nought, cCl, cRw, List.map_cons, List.map_nil] at hcr
  obtain ⟨I, hI⟩ : ∃ I : Nat → St → Prop, ∀ k s', I k s' ↔ (∃ e h i L E3 E4 E5, s' = ⟨e, h⟩ ∧ h = .opn [[.c (.v (.int .u64 0)), .c (.v (.int .u64 0)), .c (.v (.int .i64 0)), .sl 1 0 0 0, .sl 2 0 0 0]] false :: .clo [] false :: .clo [] false :: E3 :: E4 :: E5 :: .clo (List.replicate i [.arr R]) false :: .opn [[.c (.v (.int .u64 seed)), .c (.v (.int .u64 (hrow seed 0))), .c (.v (.int .i64 hh)), .c (.arr (List.replicate bits (cB1 false))), .sl 6 0 i i]] false :: L ∧
      e 4 = vI .i64 cols ∧ e 10 = .one (.ptr ⟨0, 0, 0, 1⟩) ∧ e 14 = .one (.ptr ⟨7, 0, 0, 1⟩) ∧ e 45 = vI .i64 rows ∧ e 46 = vI .i64 (i : Nat) ∧ i + k = rows) := ⟨_, fun _ _ => Iff.rfl⟩
  refine wpL_ind I ?_ rows _ ((hI _ _).2 ⟨_, _, 0, _, _, _, _, rfl, rfl, by simp, by simp, by simp, by simp, by simp, by omega⟩)
  intro k st hst
  obtain ⟨e, hp, i, L, E3, E4, E5, rfl, rfl, e4, e10, e14, e45, e46, hk⟩ := (hI _ _).1 hst
  by_cases d : i < rows
  · have d' : (i : Int) < rows := by omega
    have w3 : IntKind.i64.wrap ((i : Int) + 1) = ((i + 1 : Nat) : Int) := by rw [w64_id (by omega) (by omega)]; omega
    have c1 : 24 * (i + 1) ≤ 140737488355328 := by omega
    have c2 : i + 1 ≤ 4611686018427387904 := by omega
    have hal : AllLen (List.replicate i [CV.arr R]) 1 := by intro x hx; rw [List.eq_of_mem_replicate hx]; rfl
    simp -implicitDefEqProofs [e4, e14, e45, e46, d', w3, vmove, isNil, vstore, cellsOf?, Ent.wrO, wr, hcr, rcha, rch, frzAll, Ent.frz, vappend_sp es46 es46 el70, vbuildSlice_eq es46 el70, vbuildSlice_eq es70 el72, fzParts, setAll, rchParts, rch, elemsOf, c1, c2, hal]
    exact ⟨k - 1, by omega, (hI _ _).2 ⟨_, _, i + 1, _, E3, E4, E5, rfl, by rw [List.replicate_succ'], by simp [e4], by simp [e10], by simp [e14], by simp [e45], by simp, by omega⟩⟩
  · have d' : ¬ (i : Int) < rows := by omega
    have hi : i = rows := by omega
    subst hi
    simp -implicitDefEqProofs [e10, e14, e45, e46, d', vstore, cellsOf?, Ent.wrO, wr]
    simp [qa, comps, newRad, cRad, cRws, cRw, hR]
end Go.Proofs.YtmgnmnogiajlgaaGreatF
end

section
/- No bit of a new filter is set. -/
set_option maxRecDepth 8192
set_option maxHeartbeats 1000000
namespace Go.Proofs.YtmgnmnogiajlgaaGreatF
open Go Go.Proofs.Vm

end Go.Proofs.YtmgnmnogiajlgaaGreatF
end

section
/- The document's radar: a turn of a key's cells. -/
set_option maxRecDepth 8192
set_option maxHeartbeats 1000000
namespace Go.Proofs.YtmgnmnogiajlgaaGreatF
open Go Go.Proofs.Vm

def turnC (put : Bool) (key : ByteArray) (pk bb fl : Int) (c : RCl) : RCl := (if put then xorK c.1 key else c.1, max (c.2.1 + fl) (-1099511627776), c.2.2.1 + pk, c.2.2.2 + bb)
theorem rr_turn {R : Rad} {key : ByteArray} {pk bb fl : Int} {put : Bool} (hs : Seeds R) (hl : Lens R) (hok : rOk R = true) (hk37 : key.size = 37) (hp : 0 ≤ pk ∧ pk ≤ 1099511627776) (hb : 0 ≤ bb ∧ bb ≤ 1099511627776) (hf : -1 ≤ fl ∧ fl ≤ 1) :
    TV.pu 65 [.agg (cRad R), cS key, cI .i64 pk, cI .i64 bb, cI .i64 fl, cB put] = some (.agg (cRad { R with rows := updA (turnC put key pk bb fl) R.s key R.rows })) := by
  refine run65 (by simp) ?_
  obtain ⟨q1, q2, q3, q4, q5⟩ := rOk_facts hok
  have hpl := fun (i : Nat) (hi : i < R.rows.length) => rr_Place (R := R) (key := key) (i := i) hs hl hi (by omega)
  obtain ⟨res, hres⟩ : ∃ res, updA (turnC put key pk bb fl) R.s key R.rows = res := ⟨_, rfl⟩
  rw [hres]
  simp -implicitDefEqProofs [Tryz.f65, cRad, cRws, cRw, vmove, isNil]
  have hrl : res.length = R.rows.length := by rw [← hres, updA_len]
  have hri : ∀ (i : Nat) (h : i < R.rows.length) (h' : i < res.length), res[i] = updR (turnC put key pk bb fl) R.s key (i : Int) R.rows[i] := fun i h h' => by subst hres; exact updA_at ..
  clear hres
  obtain ⟨I, hI⟩ : ∃ I : Nat → St → Prop, ∀ k s', I k s' ↔ (∃ e i E2 E3 L, s' = ⟨e, .opn [(cRad R).map .c] false :: .opn [[.c (.v (.int .u64 0)), .c (.v (.int .u64 0)), .c (.v (.int .i64 0)), .sl 2 0 0 0, .sl 3 0 0 0]] false :: E2 :: E3 :: .clo ((res.take i).map fun l => [cRw l]) false :: L⟩ ∧ e 1 = vS key ∧ e 2 = vI .i64 pk ∧ e 3 = vI .i64 bb ∧ e 4 = vI .i64 fl ∧ e 5 = vB put ∧ e 6 = .one (.ptr ⟨0, 0, 0, 1⟩) ∧ e 12 = .one (.ptr ⟨1, 0, 0, 1⟩) ∧ e 13 = .one (.sl 4 0 i i) ∧ e 14 = vI .i64 (i : Nat) ∧ (i + k = R.rows.length)) := ⟨_, fun _ _ => Iff.rfl⟩
  refine wpL_ind I ?_ R.rows.length _ ((hI _ _).2 ⟨_, 0, _, _, _, (by first | rfl | (simp [cRad, cRws, cRw]; done) | (simp [cRad, cRws, cRw]; rfl) | (simp [cRad, cRws, cRw]; and_intros <;> rfl)), by simp, by simp, by simp, by simp, by simp, by simp, by simp, by simp, by simp, by omega⟩)
  intro k stI hstI
  obtain ⟨e, i, E2, E3, L, rfl, e1, e2, e3, e4, e5, e6, e12, e13, e14, hk⟩ := (hI _ _).1 hstI
  by_cases c : i < R.rows.length
  rotate_left
  · have hi : i = R.rows.length := by omega
    subst hi
    have htk : res.take R.rows.length = res := List.take_of_length_le (by omega)
    have hltk : R.rows.length = res.length := hrl.symm
    simp -implicitDefEqProofs [e6, e12, e13, e14, cRad, cRws, cRw, htk, vstore, cellsOf?, Ent.wrO, wr]
    have hfm : (res.map fun l => [CV.arr (l.map cCl)]).take R.rows.length = res.map fun l => [CV.arr (l.map cCl)] := List.take_of_length_le (by simp [hrl])
    simp [qa, hrl, hfm]
  have w_i : IntKind.i64.wrap ((i : Int) + 1) = ((i + 1 : Nat) : Int) := by rw [w64_id (by omega) (by omega)]; omega
  have hi' : i < res.length := by omega
  have hp := hpl i c
  have hro := hri i c hi'
  obtain ⟨a1, a2, a3, a4⟩ := q5 _ (List.getElem_mem c)
  have hpr := rplc_range (r := R) (key := key) (i := i) (n := R.rows[i].length) a1
  obtain ⟨at', hat'⟩ : ∃ z, rplc R key i R.rows[i].length = z := ⟨_, rfl⟩
  have hatd : hcell (hrow R.s ((i : Int) + 1)) key (R.rows[i].length : Int) = at' := hat'
  rw [hat'] at hp hpr
  unfold updR at hro
  rw [hatd] at hro
  simp only [cRad, cRws, cRw] at hp
  simp -implicitDefEqProofs [e1, e6, e14, c, cRad, cRws, cRw, hp, vmove, isNil]
  obtain ⟨J, hJ⟩ : ∃ J : Nat → St → Prop, ∀ k' s', J k' s' ↔ (∃ e p E2 E3 M, s' = ⟨e, .opn [(cRad R).map .c] false :: .opn [[.c (.v (.int .u64 0)), .c (.v (.int .u64 0)), .c (.v (.int .i64 0)), .sl 2 0 0 0, .sl 3 0 0 0]] false :: E2 :: E3 :: .clo ((res.take i).map fun l => [cRw l]) false :: (L ++ .clo ((res[i].take p).map cCl) false :: M)⟩ ∧ e 1 = vS key ∧ e 2 = vI .i64 pk ∧ e 3 = vI .i64 bb ∧ e 4 = vI .i64 fl ∧ e 5 = vB put ∧ e 6 = .one (.ptr ⟨0, 0, 0, 1⟩) ∧ e 12 = .one (.ptr ⟨1, 0, 0, 1⟩) ∧ e 13 = .one (.sl 4 0 i i) ∧ e 14 = vI .i64 (i : Nat) ∧ e 15 = .one (.sl (L.length + 1 + 1 + 1 + 1 + 1) 0 p p) ∧ e 16 = vI .i64 at' ∧ e 17 = vI .i64 (p : Nat) ∧ (p + k' = R.rows[i].length)) := ⟨_, fun _ _ => Iff.rfl⟩
  refine wpL_ind J ?_ R.rows[i].length _ ((hJ _ _).2 ⟨_, 0, _, _, [], (by first | rfl | (simp [cRad, cRws, cRw]; done) | (simp [cRad, cRws, cRw]; rfl) | (simp [cRad, cRws, cRw]; and_intros <;> rfl)), by simp [e1], by simp [e2], by simp [e3], by simp [e4], by simp [e5], by simp [e6], by simp [e12], by simp [e13], by simp [e14], by simp, by simp, by simp, by omega⟩)
  clear e1 e2 e3 e4 e5 e6 e12 e13 e14
  intro k' stJ hstJ
  obtain ⟨e, p, E2, E3, M, rfl, e1, e2, e3, e4, e5, e6, e12, e13, e14, e15, e16, e17, hk'⟩ := (hJ _ _).1 hstJ
  have hlen : res[i].length = R.rows[i].length := by rw [hro]; simp
  by_cases d : p < R.rows[i].length
  rotate_left
  · have hp2 : p = R.rows[i].length := by omega
    subst hp2
    have hfl : (res[i].map cCl).take R.rows[i].length = res[i].map cCl := List.take_of_length_le (by simp; omega)
    have hfl2 : res[i].take R.rows[i].length = res[i] := List.take_of_length_le (by omega)
    have c1 : 24 * (i + 1) ≤ 140737488355328 := by omega
    have c2 : i + 1 ≤ 4611686018427387904 := by omega
    have hil : min i res.length = i := by omega
    have hal : AllLen ((res.take i).map fun l => [cRw l]) 1 := by intro x hx; obtain ⟨y, _, rfl⟩ := List.mem_map.1 hx; rfl
    have htk : ((res.take i).map fun l => [cRw l]) ++ [[cRw res[i]]] = (res.take (i + 1)).map fun l => [cRw l] := by rw [List.take_add_one, List.getElem?_eq_getElem hi', Option.toList_some, List.map_append]; rfl
    simp only [cRw] at hal htk
    simp -implicitDefEqProofs [-List.map_take, e6, e13, e14, e15, e17, c, w_i, cRad, cRws, cRw, hfl, hfl2, hlen, vmove, isNil, cellsOf?, vappend_sp es41 es41 el55, vbuildSlice_eq es41 el55, fzParts, setAll, rchParts, rch, frzAll, Ent.frz, elemsOf, c1, c2, hil, hal, htk]
    exact ⟨k - 1, by omega, (hI _ _).2 ⟨_, i + 1, E2, E3, _, (by first | rfl | (simp [cRad, cRws, cRw]; done) | (simp [cRad, cRws, cRw]; rfl) | (simp [cRad, cRws, cRw]; and_intros <;> rfl)), by simp [e1], by simp [e2], by simp [e3], by simp [e4], by simp [e5], by simp [e6], by simp [e12], by simp, by simp, by omega⟩⟩
  have w_p : IntKind.i64.wrap ((p : Int) + 1) = ((p + 1 : Nat) : Int) := by rw [w64_id (by omega) (by omega)]; omega
  have d' : p < res[i].length := by omega
  have hrp : res[i][p] = if at'.toNat = p then turnC put key pk bb fl R.rows[i][p] else R.rows[i][p] := by simp only [hro, List.getElem_modify]
  have c1 : 40 * (p + 1) ≤ 140737488355328 := by omega
  have c2 : p + 1 ≤ 4611686018427387904 := by omega
  have hpl : min p res[i].length = p := by omega
  have hal : AllLen ((res[i].take p).map cCl) 4 := by intro x hx; obtain ⟨y, _, rfl⟩ := List.mem_map.1 hx; rfl
  have htk : (res[i].take p).map cCl ++ [cCl res[i][p]] = (res[i].take (p + 1)).map cCl := by rw [List.take_add_one, List.getElem?_eq_getElem d', Option.toList_some, List.map_append]; rfl
  have hw := (wrongB_iff _).1 (a4 _ (List.getElem_mem d))
  obtain ⟨y, hy⟩ : ∃ y, R.rows[i][p] = y := ⟨_, rfl⟩
  rw [hy] at hw hrp
  obtain ⟨x, f0, p0, b0⟩ := y
  have hcl : cCl R.rows[i][p] = [.v (.string x), .v (.int .i64 f0), .v (.int .i64 p0), .v (.int .i64 b0)] := by rw [hy]; rfl
  dsimp only at hw
  by_cases hat2 : (p : Int) = at'
  rotate_left
  · rw [if_neg (by omega)] at hrp
    rw [hrp] at htk
    simp only [cCl] at htk
    simp -implicitDefEqProofs [-List.map_take, e6, e14, e15, e16, e17, c, d, w_p, cRad, cRws, cRw, hcl, hat2, vmove, isNil, vstore, cellsOf?, Ent.wrO, wr, vappend_sp es55 es55 el73, vbuildSlice_eq es55 el73, fzParts, setAll, rchParts, rch, elemsOf, c1, c2, hpl, hal, htk]
    exact ⟨k' - 1, by omega, (hJ _ _).2 ⟨_, p + 1, E2, E3, _, (by first | rfl | (simp [cRad, cRws, cRw]; done) | (simp [cRad, cRws, cRw]; rfl) | (simp [cRad, cRws, cRw]; and_intros <;> rfl)), by simp [e1], by simp [e2], by simp [e3], by simp [e4], by simp [e5], by simp [e6], by simp [e12], by simp [e13], by simp [e14], by simp, by simp [e16], by simp, by omega⟩⟩
  subst hat2
  rw [if_pos (by omega)] at hrp
  have v1 : IntKind.i64.wrap (p0 + pk) = p0 + pk := w64_id (by omega) (by omega)
  have v2 : IntKind.i64.wrap (b0 + bb) = b0 + bb := w64_id (by omega) (by omega)
  have v3 : IntKind.i64.wrap (f0 + fl) = f0 + fl := w64_id (by omega) (by omega)
  have hx := r16_xor (a := x) (b := key) (by omega) (by omega)
  rw [hrp] at htk
  unfold turnC at htk
  simp only [cCl] at htk
  by_cases g : f0 + fl < -1099511627776
  · have g' : max (f0 + fl) (-1099511627776) = -1099511627776 := by omega
    rw [g'] at htk
    cases put with
    | true =>
      simp only [if_true] at htk
      simp -implicitDefEqProofs [-List.map_take, e1, e2, e3, e4, e5, e6, e14, e15, e16, e17, c, d, w_p, cRad, cRws, cRw, hcl, vmove, isNil, vstore, cellsOf?, Ent.wrO, wr, vappend_sp es55 es55 el73, vbuildSlice_eq es55 el73, fzParts, setAll, rchParts, rch, elemsOf, c1, c2, hpl, hal, htk, v1, v2, v3, g, hx]
      exact ⟨k' - 1, by omega, (hJ _ _).2 ⟨_, p + 1, E2, E3, _, (by first | rfl | (simp [cRad, cRws, cRw]; done) | (simp [cRad, cRws, cRw]; rfl) | (simp [cRad, cRws, cRw]; and_intros <;> rfl)), by simp [e1], by simp [e2], by simp [e3], by simp [e4], by simp [e5], by simp [e6], by simp [e12], by simp [e13], by simp [e14], by simp, by simp [e16], by simp, by omega⟩⟩
    | false =>
      simp only [Bool.false_eq_true, if_false] at htk
      simp -implicitDefEqProofs [-List.map_take, e2, e3, e4, e5, e6, e14, e15, e16, e17, c, d, w_p, cRad, cRws, cRw, hcl, vmove, isNil, vstore, cellsOf?, Ent.wrO, wr, vappend_sp es55 es55 el73, vbuildSlice_eq es55 el73, fzParts, setAll, rchParts, rch, elemsOf, c1, c2, hpl, hal, htk, v1, v2, v3, g]
      exact ⟨k' - 1, by omega, (hJ _ _).2 ⟨_, p + 1, E2, E3, _, (by first | rfl | (simp [cRad, cRws, cRw]; done) | (simp [cRad, cRws, cRw]; rfl) | (simp [cRad, cRws, cRw]; and_intros <;> rfl)), by simp [e1], by simp [e2], by simp [e3], by simp [e4], by simp [e5], by simp [e6], by simp [e12], by simp [e13], by simp [e14], by simp, by simp [e16], by simp, by omega⟩⟩
  · have g' : max (f0 + fl) (-1099511627776) = f0 + fl := by omega
    rw [g'] at htk
    cases put with
    | true =>
      simp only [if_true] at htk
      simp -implicitDefEqProofs [-List.map_take, e1, e2, e3, e4, e5, e6, e14, e15, e16, e17, c, d, w_p, cRad, cRws, cRw, hcl, vmove, isNil, vstore, cellsOf?, Ent.wrO, wr, vappend_sp es55 es55 el73, vbuildSlice_eq es55 el73, fzParts, setAll, rchParts, rch, elemsOf, c1, c2, hpl, hal, htk, v1, v2, v3, g, hx]
      exact ⟨k' - 1, by omega, (hJ _ _).2 ⟨_, p + 1, E2, E3, _, (by first | rfl | (simp [cRad, cRws, cRw]; done) | (simp [cRad, cRws, cRw]; rfl) | (simp [cRad, cRws, cRw]; and_intros <;> rfl)), by simp [e1], by simp [e2], by simp [e3], by simp [e4], by simp [e5], by simp [e6], by simp [e12], by simp [e13], by simp [e14], by simp, by simp [e16], by simp, by omega⟩⟩
    | false =>
      simp only [Bool.false_eq_true, if_false] at htk
      simp -implicitDefEqProofs [-List.map_take, e2, e3, e4, e5, e6, e14, e15, e16, e17, c, d, w_p, cRad, cRws, cRw, hcl, vmove, isNil, vstore, cellsOf?, Ent.wrO, wr, vappend_sp es55 es55 el73, vbuildSlice_eq es55 el73, fzParts, setAll, rchParts, rch, elemsOf, c1, c2, hpl, hal, htk, v1, v2, v3, g]
      exact ⟨k' - 1, by omega, (hJ _ _).2 ⟨_, p + 1, E2, E3, _, (by first | rfl | (simp [cRad, cRws, cRw]; done) | (simp [cRad, cRws, cRw]; rfl) | (simp [cRad, cRws, cRw]; and_intros <;> rfl)), by simp [e1], by simp [e2], by simp [e3], by simp [e4], by simp [e5], by simp [e6], by simp [e12], by simp [e13], by simp [e14], by simp, by simp [e16], by simp, by omega⟩⟩
end Go.Proofs.YtmgnmnogiajlgaaGreatF
end

section
/- The document's radar: a packet more, a flow less. -/
set_option maxRecDepth 8192
set_option maxHeartbeats 1000000
namespace Go.Proofs.YtmgnmnogiajlgaaGreatF
open Go Go.Proofs.Vm

theorem modify_congr {α : Type} {f g : α → α} : ∀ (l : List α) (q : Nat), (∀ x ∈ l, f x = g x) → l.modify q f = l.modify q g
  | [], q, _ => by simp
  | y :: l, 0, h => by simp [h y List.mem_cons_self]
  | y :: l, q + 1, h => by simp [modify_congr l q fun x hx => h x (List.mem_cons_of_mem _ hx)]
theorem updA_congr {f g : RCl → RCl} {s : Int} {key : ByteArray} {rows : List (List RCl)} (h : ∀ x ∈ rows, ∀ c ∈ x, f c = g c) : updA f s key rows = updA g s key rows := by
  apply List.ext_getElem
  · rw [updA_len, updA_len]
  · intro j h1 h2
    rw [updA_at, updA_at]
    exact modify_congr _ _ (h _ (List.getElem_mem _))
theorem turnC_rem {key : ByteArray} {c : RCl} : turnC true key 0 0 (-1) c = remC key c := by
  simp only [turnC, remC, if_true, Int.add_zero]
  rfl
theorem turnC_add {fr : Bool} {key : ByteArray} {n : Int} {c : RCl} (h : wrongB c = false) : turnC fr key 1 n (if fr then 1 else 0) c = addC fr key n c := by
  obtain ⟨h1, h2, h3, h4, h5, h6, h7⟩ := (wrongB_iff _).1 h
  cases fr with
  | true =>
    have : max (c.2.1 + 1) (-1099511627776) = c.2.1 + 1 := by omega
    simp [turnC, addC, this]
  | false =>
    have : max (c.2.1 + 0) (-1099511627776) = c.2.1 := by omega
    simp [turnC, addC] at this ⊢
    exact this
theorem rr_Remove {R : Rad} {key : ByteArray} (hs : Seeds R) (hl : Lens R) (hok : rOk R = true) (hk37 : key.size = 37) : TV.pu 34 [.agg (cRad R), cS key] = some (.agg (cRad (remR R key))) := by
  refine run34 (by simp) ?_
  have ht := rr_turn (R := R) (key := key) (pk := 0) (bb := 0) (fl := -1) (put := true) hs hl hok hk37 (by omega) (by omega) (by omega)
  have hc : updA (turnC true key 0 0 (-1)) R.s key R.rows = updA (remC key) R.s key R.rows := updA_congr fun x hx c hc => turnC_rem
  rw [hc] at ht
  unfold remR
  simp only [cRad, cRws, cRw] at ht
  simp -implicitDefEqProofs [Tryz.f34, cRad, cRws, cRw, vmove, isNil, ht, vstore, cellsOf?, Ent.wrO, wr]
  try simp [qa]
theorem addRad_ok {R : Rad} {key : ByteArray} {n : Int} (hok : rOk R = true) : rOk (addRad R key n) = true ↔ ∀ j, ∀ h : j < R.rows.length, wrongB (addC (freshB R key) key n (curC R.s key (j : Int) R.rows[j])) = false := by
  obtain ⟨q1, q2, q3, q4, q5⟩ := rOk_facts hok
  constructor
  · intro h j hj
    obtain ⟨p1, p2, p3, p4, p5⟩ := rOk_facts h
    have hj' : j < (updA (addC (freshB R key) key n) R.s key R.rows).length := by rw [updA_len]; exact hj
    have hm := (p5 (updA (addC (freshB R key) key n) R.s key R.rows)[j] (List.getElem_mem hj')).2.2.2
    rw [updA_at] at hm
    have h1 := (q5 _ (List.getElem_mem hj)).1
    have hc := hcell_range (hrow R.s ((j : Int) + 1)) key (R.rows[j].length : Int) (by omega)
    have hq : (hcell (hrow R.s ((j : Int) + 1)) key (R.rows[j].length : Int)).toNat < R.rows[j].length := by omega
    have : addC (freshB R key) key n (curC R.s key (j : Int) R.rows[j]) = (updR (addC (freshB R key) key n) R.s key (j : Int) R.rows[j])[(hcell (hrow R.s ((j : Int) + 1)) key (R.rows[j].length : Int)).toNat]'(by rw [updR_len]; exact hq) := by
      simp only [updR, List.getElem_modify, if_true]
      rw [curC, List.getD_eq_getElem?_getD, List.getElem?_eq_getElem hq]
      rfl
    rw [this]
    exact hm _ (List.getElem_mem _)
  · intro h
    refine updA_ok hok ?_ h
    rw [fOk_iff] at q1 ⊢
    rw [addB_len]
    exact q1
theorem rd_Add' {R : Rad} {key : ByteArray} {n : Int} (hs : Seeds R) (hl : Lens R) (hok : rOk R = true) (hk37 : key.size = 37) (hn : fitB n = true) : TV.pu 24 [.agg (cRad R), cS key, cI .i64 n] = some (if rOk (addRad R key n) = true then .tup [(true, cRad (addRad R key n)), (false, [.v (.int .i64 0)])] else .tup [(true, cRad zRad), (false, [.v (.int .i64 5)])]) := by
  rw [rd_Add hs hl hok hk37 hn]
  congr 1
  by_cases h : rOk (addRad R key n) = true
  · rw [if_pos h, if_pos ((addRad_ok hok).1 h)]
  · rw [if_neg h, if_neg (fun g => h ((addRad_ok hok).2 g))]
theorem addRad_lens {R : Rad} {key : ByteArray} {n : Int} (hl : Lens R) : Lens (addRad R key n) := by
  refine ⟨by simp only [addRad]; rw [updA_len]; exact hl.1, fun x hx => ?_, by simp only [addRad]; rw [addB_len]; exact hl.2.2⟩
  obtain ⟨j, hj, rfl⟩ := List.getElem_of_mem hx
  simp only [addRad] at hj ⊢
  rw [updA_at, updR_len]
  exact hl.2.1 _ (List.getElem_mem _)
end Go.Proofs.YtmgnmnogiajlgaaGreatF
end

section
/- The document's radar: the first pure cell, and all that is peeled. -/
set_option maxRecDepth 8192
set_option maxHeartbeats 1000000
namespace Go.Proofs.YtmgnmnogiajlgaaGreatF
open Go Go.Proofs.Vm

theorem rr_Pure {R : Rad} {told : List ByteArray} (hs : Seeds R) (hl : Lens R) (hok : rOk R = true) (ht : told.length < 9223372036854775807) : TV.pu 30 [.agg (cRad R), .one (cSs told)] = some (pureA (pureOf R told)) := by
  refine run30 (by simp) ?_
  obtain ⟨q1, q2, q3, q4, q5⟩ := rOk_facts hok
  have hpl := fun (key : ByteArray) (i : Nat) (hi : i < R.rows.length) (hk : key.size ≤ 1000) => rr_Place (R := R) (key := key) (i := i) hs hl hi hk
  have hH := fun key hk => ref10_Has (seed := R.fs) (h := R.h) (bits := R.bits) (key := key) hs.2.2.1 hs.2.2.2 hk q1
  simp only [cF] at hH
  obtain ⟨res, hres⟩ : ∃ res, pureA (pureOf R told) = res := ⟨_, rfl⟩
  rw [hres]
  simp only [cRad, cRws, cRw] at hpl
  simp -implicitDefEqProofs [Tryz.f30, cRad, cRws, cRw]
  have hfin : (∀ j, j < R.rows.length → pureR R told j = none) → res = pureA none := fun h => by rw [← hres, pureOf, fs_none h]
  have hgot : ∀ i x, i < R.rows.length → (∀ j, j < i → pureR R told j = none) → pureR R told i = some x → res = pureA (some x) := fun i x h1 h2 h3 => by rw [← hres, pureOf, fs_at h1 h2 h3]
  clear hres
  obtain ⟨I, hI⟩ : ∃ I : Nat → St → Prop, ∀ k s', I k s' ↔ (∃ e i L, s' = ⟨e, .opn [(cRad R).map .c] false :: L⟩ ∧ e 1 = .one (.c (cSs told)) ∧ e 2 = .one (.ptr ⟨0, 0, 0, 1⟩) ∧ e 6 = vI .i64 (i : Nat) ∧ (i + k = R.rows.length) ∧ (∀ j, j < i → pureR R told j = none)) := ⟨_, fun _ _ => Iff.rfl⟩
  refine wpL_ind I ?_ R.rows.length _ ((hI _ _).2 ⟨_, 0, [], (by first | rfl | (simp [cRad, cRws, cRw]; done) | (simp [cRad, cRws, cRw]; rfl) | (simp [cRad, cRws, cRw]; and_intros <;> rfl)), by simp, by simp, by simp, by omega, by omega⟩)
  intro k stI hstI
  obtain ⟨e, i, L, rfl, e1, e2, e6, hk, hno⟩ := (hI _ _).1 hstI
  by_cases c : i < R.rows.length
  rotate_left
  · have hi : i = R.rows.length := by omega
    subst hi
    rw [hfin hno]
    simp -implicitDefEqProofs [e2, e6, cRad, cRws, cRw, pureA]
    try rfl
  have hrw := q5 R.rows[i] (List.getElem_mem c)
  have w_i : IntKind.i64.wrap ((i : Int) + 1) = ((i + 1 : Nat) : Int) := by rw [w64_id (by omega) (by omega)]; omega
  have hgi : R.rows.getD i [] = R.rows[i] := by rw [List.getD_eq_getElem?_getD, List.getElem?_eq_getElem c]; rfl
  have hrn : pureR R told i = (List.range R.rows[i].length).findSome? fun p => if okC R told i R.rows[i].length p (R.rows[i].getD p zC) = true then some (R.rows[i].getD p zC).1 else none := by unfold pureR; rw [hgi]
  simp -implicitDefEqProofs [-fzc, e2, e6, c, cRws, cRw, vmove, isNil, cRad]
  obtain ⟨J, hJ⟩ : ∃ J : Nat → St → Prop, ∀ k' s', J k' s' ↔ (∃ e p L, s' = ⟨e, .opn [(cRad R).map .c] false :: L⟩ ∧ e 1 = .one (.c (cSs told)) ∧ e 2 = .one (.ptr ⟨0, 0, 0, 1⟩) ∧ e 6 = vI .i64 (i : Nat) ∧ e 7 = vI .i64 (p : Nat) ∧ (p + k' = R.rows[i].length) ∧ (∀ j, j < p → okC R told i R.rows[i].length j (R.rows[i].getD j zC) = false)) := ⟨_, fun _ _ => Iff.rfl⟩
  refine wpL_ind J ?_ R.rows[i].length _ ((hJ _ _).2 ⟨_, 0, L, (by first | rfl | (simp [e1, e2, e6, cRad, cRws, cRw]; done) | (simp [e1, e2, e6, cRad, cRws, cRw]; rfl) | (simp [e1, e2, e6, cRad, cRws, cRw]; and_intros <;> rfl)), by simp [e1], by simp [e2], by simp [e6], by simp, by omega, by omega⟩)
  clear e1 e2 e6
  intro k' stJ hstJ
  obtain ⟨e, p, L, rfl, e1, e2, e6, e7, hk', hnp⟩ := (hJ _ _).1 hstJ
  by_cases d : p < R.rows[i].length
  rotate_left
  · have hrnone : pureR R told i = none := by rw [hrn]; exact fs_none fun j hj => by rw [if_neg (by rw [hnp j (by omega)]; decide)]
    simp -implicitDefEqProofs [e2, e6, e7, c, d, w_i, cRad, cRws, cRw]
    refine ⟨k - 1, by omega, (hI _ _).2 ⟨_, i + 1, _, (by first | rfl | (simp [cRad, cRws, cRw]; done) | (simp [cRad, cRws, cRw]; rfl) | (simp [cRad, cRws, cRw]; and_intros <;> rfl)), by simp [e1], by simp [e2], by simp, by omega, fun j hj => ?_⟩⟩
    by_cases hji : j = i
    · subst hji; exact hrnone
    · exact hno j (by omega)
  have w_p : IntKind.i64.wrap ((p : Int) + 1) = ((p + 1 : Nat) : Int) := by rw [w64_id (by omega) (by omega)]; omega
  have hgp : R.rows[i].getD p zC = R.rows[i][p] := by rw [List.getD_eq_getElem?_getD, List.getElem?_eq_getElem d]; rfl
  have hw := (wrongB_iff _).1 (hrw.2.2.2 R.rows[i][p] (List.getElem_mem d))
  have hskip : okC R told i R.rows[i].length p R.rows[i][p] = false → ∀ j, j < p + 1 → okC R told i R.rows[i].length j (R.rows[i].getD j zC) = false := fun hg j hj => by
    by_cases hjp : j = p
    · subst hjp
      rw [hgp]; exact hg
    · exact hnp j (by omega)
  have hhit : okC R told i R.rows[i].length p R.rows[i][p] = true → res = pureA (some R.rows[i][p].1) := fun hg => hgot i _ c hno (by
    rw [hrn]
    exact fs_at d (fun j hj => by rw [if_neg (by rw [hnp j hj]; decide)]) (by rw [hgp, if_pos hg]))
  have hp := hpl R.rows[i][p].1 i c (by omega)
  have hh := hH R.rows[i][p].1 (by omega)
  have hcs := rr_In (l := told) (v := R.rows[i][p].1) ht
  obtain ⟨y, hy⟩ : ∃ y, R.rows[i][p] = y := ⟨_, rfl⟩
  rw [hy] at hw hskip hhit hp hh hcs
  obtain ⟨x, fl, pk, bb⟩ := y
  have hcl : cCl R.rows[i][p] = [.v (.string x), .v (.int .i64 fl), .v (.int .i64 pk), .v (.int .i64 bb)] := by rw [hy]; rfl
  dsimp only at hw hhit hp hh hcs
  simp only [cSs] at hcs
  unfold okC at hskip hhit
  dsimp only at hskip hhit
  by_cases g1 : fl = 1
  rotate_left
  · have hsk := hskip (by simp [g1])
    simp -implicitDefEqProofs [-fzc, e2, e6, e7, c, d, w_p, cRws, cRw, vmove, isNil, cRad, hcl, vstore, cellsOf?, Ent.wrO, wr, g1]
    exact ⟨k' - 1, by omega, (hJ _ _).2 ⟨_, p + 1, _, (by first | rfl | (simp [cRad, cRws, cRw]; done) | (simp [cRad, cRws, cRw]; rfl) | (simp [cRad, cRws, cRw]; and_intros <;> rfl)), by simp [e1], by simp [e2], by simp [e6], by simp, by omega, hsk⟩⟩
  cases g4 : told.any (sEq x) with
  | true =>
    rw [g4] at hcs
    have hsk := hskip (by simp [g4])
    simp -implicitDefEqProofs [-fzc, fz_v, fz_arr, e1, e2, e6, e7, c, d, w_p, cRws, cRw, vmove, isNil, cRad, hcl, vstore, cellsOf?, Ent.wrO, wr, g1, hcs, cSs]
    exact ⟨k' - 1, by omega, (hJ _ _).2 ⟨_, p + 1, _, (by first | rfl | (simp [cRad, cRws, cRw, cSs]; done) | (simp [cRad, cRws, cRw, cSs]; rfl) | (simp [cRad, cRws, cRw, cSs]; and_intros <;> rfl)), by simp [e1, cSs], by simp [e2], by simp [e6], by simp, by omega, hsk⟩⟩
  | false =>
  rw [g4] at hcs
  by_cases g2 : rplc R x i R.rows[i].length = (p : Int)
  rotate_left
  · obtain ⟨z, hz⟩ : ∃ z, rplc R x i R.rows[i].length = z := ⟨_, rfl⟩
    rw [hz] at hp g2
    have hsk := hskip (by rw [hz]; simp [g2])
    simp -implicitDefEqProofs [-fzc, fz_v, fz_arr, e1, e2, e6, e7, c, d, w_p, cRws, cRw, vmove, isNil, cRad, hcl, vstore, cellsOf?, Ent.wrO, wr, g1, hcs, cSs, hp, g2]
    exact ⟨k' - 1, by omega, (hJ _ _).2 ⟨_, p + 1, _, (by first | rfl | (simp [cRad, cRws, cRw, cSs]; done) | (simp [cRad, cRws, cRw, cSs]; rfl) | (simp [cRad, cRws, cRw, cSs]; and_intros <;> rfl)), by simp [e1, cSs], by simp [e2], by simp [e6], by simp, by omega, hsk⟩⟩
  rw [g2] at hp
  cases g3 : hasB R.fs R.h R.bits x with
  | true =>
    rw [g3] at hh
    rw [hhit (by simp [g1, g2, g3, g4])]
    simp -implicitDefEqProofs [-fzc, fz_v, fz_arr, e1, e2, e6, e7, c, d, cRws, cRw, vmove, isNil, cRad, hcl, vstore, cellsOf?, Ent.wrO, wr, g1, hcs, cSs, hp, hh, pureA]
  | false =>
    rw [g3] at hh
    have hsk := hskip (by simp [g3])
    simp -implicitDefEqProofs [-fzc, fz_v, fz_arr, e1, e2, e6, e7, c, d, w_p, cRws, cRw, vmove, isNil, cRad, hcl, vstore, cellsOf?, Ent.wrO, wr, g1, hcs, cSs, hp, hh]
    exact ⟨k' - 1, by omega, (hJ _ _).2 ⟨_, p + 1, _, (by first | rfl | (simp [cRad, cRws, cRw, cSs]; done) | (simp [cRad, cRws, cRw, cSs]; rfl) | (simp [cRad, cRws, cRw, cSs]; and_intros <;> rfl)), by simp [e1, cSs], by simp [e2], by simp [e6], by simp, by omega, hsk⟩⟩
end Go.Proofs.YtmgnmnogiajlgaaGreatF
end

section
/- Strings in order: put among rising ones, sorted. -/
namespace Go.Proofs.YtmgnmnogiajlgaaGreatF
open Go Go.Proofs.Vm

abbrev bl (a : ByteArray) : List UInt8 := a.data.toList
theorem bl_inj {a b : ByteArray} (h : bl a = bl b) : a = b := by
  cases a; cases b; congr; exact Array.toList_inj.1 h
theorem ltS_iff {a b : ByteArray} : ltS a b = true ↔ bl a < bl b := by
  unfold ltS
  rw [toList_eq, toList_eq, bytesLess_eq]
  simp
theorem bl_trans (a b c : ByteArray) (h : bl a ≤ bl b) (g : bl b ≤ bl c) : bl a ≤ bl c := List.le_trans h g
theorem bl_total (a b : ByteArray) : bl a ≤ bl b ∨ bl b ≤ bl a := List.le_total ..
theorem bl_anti (a b : ByteArray) (h : bl a ≤ bl b) (g : bl b ≤ bl a) : a = b := bl_inj (List.le_antisymm h g)
theorem bl_nlt {a b : ByteArray} : ¬ bl a < bl b ↔ bl b ≤ bl a := List.not_lt
theorem ltS_false {a b : ByteArray} : ltS a b = false ↔ bl b ≤ bl a := by
  rw [← bl_nlt, ← ltS_iff]; simp
def Srt (l : List ByteArray) : Prop := l.Pairwise fun a b => bl a ≤ bl b
theorem ssort_srt (l : List ByteArray) : Srt (ssort l) := by
  have h := List.pairwise_mergeSort (le := fun x y : ByteArray => decide (x.data.toList ≤ y.data.toList)) (fun a b c h1 h2 => decide_eq_true (bl_trans a b c (of_decide_eq_true h1) (of_decide_eq_true h2))) (fun a b => by
    rcases bl_total a b with h | h
    · rw [decide_eq_true h]; rfl
    · rw [decide_eq_true h]; simp) l
  exact h.imp fun h => of_decide_eq_true h
theorem ssort_perm (l : List ByteArray) : (ssort l).Perm l := List.mergeSort_perm ..
theorem srt_eq {l m : List ByteArray} (hl : Srt l) (hm : Srt m) (h : l.Perm m) : l = m := List.Perm.eq_of_pairwise (le := fun a b => bl a ≤ bl b) (fun a b _ _ h g => bl_anti a b h g) hl hm h
theorem insS_perm (k : ByteArray) : ∀ l, (insS k l).Perm (k :: l)
  | [] => .refl _
  | x :: l => by
    unfold insS
    split
    · exact .refl _
    · exact ((insS_perm k l).cons x).trans (.swap ..)
theorem insS_mem {k x : ByteArray} {l : List ByteArray} : x ∈ insS k l ↔ x = k ∨ x ∈ l := by
  rw [(insS_perm k l).mem_iff, List.mem_cons]
theorem insS_len (k : ByteArray) (l : List ByteArray) : (insS k l).length = l.length + 1 := (insS_perm k l).length_eq
theorem insS_srt {k : ByteArray} : ∀ {l : List ByteArray}, Srt l → Srt (insS k l)
  | [], _ => List.pairwise_singleton _ _
  | x :: l, h => by
    unfold insS
    obtain ⟨h1, h2⟩ := List.pairwise_cons.1 h
    cases c : ltS k x with
    | true =>
      rw [if_pos rfl]
      have hkx : bl k ≤ bl x := List.le_of_lt (ltS_iff.1 c)
      refine List.pairwise_cons.2 ⟨fun y hy => ?_, h⟩
      rcases List.mem_cons.1 hy with rfl | hy
      · exact hkx
      · exact bl_trans _ _ _ hkx (h1 y hy)
    | false =>
      rw [if_neg (by decide)]
      refine List.pairwise_cons.2 ⟨fun y hy => ?_, insS_srt h2⟩
      rcases insS_mem.1 hy with rfl | hy
      · exact ltS_false.1 c
      · exact h1 y hy
theorem insS_ssort (k : ByteArray) (l : List ByteArray) : insS k (ssort l) = ssort (l ++ [k]) :=
  srt_eq (insS_srt (ssort_srt l)) (ssort_srt _) (((insS_perm k _).trans ((ssort_perm l).cons k)).trans (List.perm_append_singleton k l |>.symm.trans (ssort_perm _).symm))
theorem ssort_mem {x : ByteArray} {l : List ByteArray} : x ∈ ssort l ↔ x ∈ l := (ssort_perm l).mem_iff
theorem ssort_nil : ssort [] = [] := by unfold ssort; simp
theorem ssort_of_srt {l : List ByteArray} (h : Srt l) : ssort l = l := srt_eq (ssort_srt l) h (ssort_perm l)
end Go.Proofs.YtmgnmnogiajlgaaGreatF
end

section
/- The document's radar: all that is peeled. -/
set_option maxRecDepth 8192
set_option maxHeartbeats 1000000
namespace Go.Proofs.YtmgnmnogiajlgaaGreatF
open Go Go.Proofs.Vm

theorem pureOf_mem {R : Rad} {l m : List ByteArray} (h : ∀ x, x ∈ l ↔ x ∈ m) : pureOf R l = pureOf R m := by
  have hany : ∀ x, l.any (sEq x) = m.any (sEq x) := fun x => by
    rw [Bool.eq_iff_iff, List.any_eq_true, List.any_eq_true]
    exact ⟨fun ⟨y, hy, e⟩ => ⟨y, (h y).1 hy, e⟩, fun ⟨y, hy, e⟩ => ⟨y, (h y).2 hy, e⟩⟩
  have : pureR R l = pureR R m := by
    funext i
    unfold pureR okC
    simp only [hany]
  unfold pureOf
  rw [this]
theorem pureOf_ssort {R : Rad} {l : List ByteArray} : pureOf R (ssort l) = pureOf R l := pureOf_mem fun _ => ssort_mem
end Go.Proofs.YtmgnmnogiajlgaaGreatF
end

section
/- Joint: rounds, of radars and what was told of them. -/
set_option maxRecDepth 8192
set_option maxHeartbeats 1000000
namespace Go.Proofs.YtmgnmnogiajlgaaGreatF
open Go Go.Proofs.Vm

/-- A switch: what is left of its radar, and what was told of it. -/
abbrev Sw := Rad × List ByteArray
def jHit (i : Nat) (key : ByteArray) (k : Nat) (x : Sw) : Bool := decide (k = i) || (!x.2.any (sEq key) && hasB x.1.fs x.1.h x.1.bits key)
def jtake (i : Nat) (key : ByteArray) (k : Nat) (x : Sw) : Sw := if jHit i key k x = true then (remR x.1 key, x.2 ++ [key]) else x
def jfind (L : List Sw) : Option (Nat × ByteArray) := (List.range L.length).findSome? fun i => (L[i]?).bind fun x => (pureOf x.1 x.2).map fun k => (i, k)
def jround (L : List Sw) : Option (List Sw) := (jfind L).map fun r => L.mapIdx (jtake r.1 r.2)
def jall : Nat → List Sw → List Sw
  | 0, L => L
  | n + 1, L => match jround L with
    | some L' => jall n L'
    | none => L
def jpos (L : List Sw) : Nat := (L.map fun x => posN x.1).sum
def jdec (l : List Rad) : List Sw := jall (jpos (l.map fun r => (r, []))) (l.map fun r => (r, []))
theorem jfind_some {L : List Sw} {i : Nat} {key : ByteArray} (h : jfind L = some (i, key)) : ∃ h : i < L.length, pureOf L[i].1 L[i].2 = some key ∧ ∀ j (hj : j < L.length), j < i → pureOf L[j].1 L[j].2 = none := by
  unfold jfind at h
  obtain ⟨l1, a, l2, e, h1, h2⟩ := List.findSome?_eq_some_iff.1 h
  have hr : ∀ j (hj : j < (List.range L.length).length), (List.range L.length)[j] = j := fun j hj => List.getElem_range hj
  have ha : a = l1.length := by
    have hl : l1.length < (List.range L.length).length := by rw [e]; simp
    have h3 := hr _ hl
    have h4 : (List.range L.length)[l1.length] = a := by simp [e]
    omega
  have hal : a < L.length := by
    have : a ∈ List.range L.length := by rw [e]; simp
    exact List.mem_range.1 this
  rw [List.getElem?_eq_getElem hal] at h1
  simp only [Option.bind_some, Option.map_eq_some_iff, Prod.mk.injEq] at h1
  obtain ⟨k, g1, g2, g3⟩ := h1
  subst g2 g3
  refine ⟨hal, g1, fun j hj hji => ?_⟩
  have hjm : j ∈ l1 := by
    have hl : j < (List.range L.length).length := by simpa using hj
    have h3 := hr j hl
    have h4 : (List.range L.length)[j] = l1[j]'(by omega) := by simp only [e]; exact List.getElem_append_left (by omega)
    rw [h3] at h4
    rw [h4]
    exact List.getElem_mem _
  have := h2 j hjm
  rw [List.getElem?_eq_getElem hj] at this
  simpa using this
theorem jfind_none {L : List Sw} (h : jfind L = none) : ∀ j (hj : j < L.length), pureOf L[j].1 L[j].2 = none := fun j hj => by
  unfold jfind at h
  rw [List.findSome?_eq_none_iff] at h
  have := h j (List.mem_range.2 hj)
  rw [List.getElem?_eq_getElem hj] at this
  simpa using this
theorem jfind_eq {L : List Sw} {i : Nat} {key : ByteArray} (hi : i < L.length) (h1 : pureOf L[i].1 L[i].2 = some key) (h2 : ∀ j (hj : j < L.length), j < i → pureOf L[j].1 L[j].2 = none) : jfind L = some (i, key) := by
  unfold jfind
  refine fs_at hi (fun j hj => ?_) ?_
  · rw [List.getElem?_eq_getElem (show j < L.length by omega)]
    simp [h2 j (by omega) hj]
  · rw [List.getElem?_eq_getElem hi]
    simp [h1]
theorem jfind_eq_none {L : List Sw} (h : ∀ j (hj : j < L.length), pureOf L[j].1 L[j].2 = none) : jfind L = none := by
  unfold jfind
  refine fs_none fun j hj => ?_
  rw [List.getElem?_eq_getElem hj]
  simp [h j hj]
/-- Fit switches. -/
def JOk (L : List Sw) : Prop := ∀ x ∈ L, Seeds x.1 ∧ Lens x.1 ∧ rOk x.1 = true
theorem jtake_ok {i k : Nat} {key : ByteArray} {x : Sw} (h : Seeds x.1 ∧ Lens x.1 ∧ rOk x.1 = true) : Seeds (jtake i key k x).1 ∧ Lens (jtake i key k x).1 ∧ rOk (jtake i key k x).1 = true := by
  unfold jtake
  split
  · exact ⟨h.1, remR_lens h.2.1, remR_ok h.2.2⟩
  · exact h
theorem jmap_ok {L : List Sw} {i : Nat} {key : ByteArray} (h : JOk L) : JOk (L.mapIdx (jtake i key)) := fun x hx => by
  obtain ⟨j, hj, rfl⟩ := List.getElem_of_mem hx
  rw [List.getElem_mapIdx]
  exact jtake_ok (h _ (List.getElem_mem _))
theorem posN_remR (R : Rad) (key : ByteArray) : posN (remR R key) ≤ posN R := by
  unfold posN
  have hl : ((remR R key).rows.map (·.countP pos)).length = (R.rows.map (·.countP pos)).length := by simp [remR, updA_len]
  have key2 : ∀ (l m : List Nat), l.length = m.length → (∀ j (h : j < l.length) (h' : j < m.length), l[j] ≤ m[j]) → l.sum ≤ m.sum := fun l => by
    induction l with
    | nil => intro m hm _; cases m with | nil => exact Nat.le_refl _ | cons a b => simp at hm
    | cons a l ih =>
      intro m hm h
      cases m with
      | nil => simp at hm
      | cons b m =>
        have h0 := h 0 (by simp) (by simp)
        have h1 := ih m (by simpa using hm) fun j hj hj' => h (j + 1) (by simp; omega) (by simp; omega)
        have h0' : a ≤ b := h0
        simp only [List.sum_cons]
        omega
  refine key2 _ _ hl fun j h h' => ?_
  simp only [List.getElem_map]
  have hj : j < R.rows.length := by simpa using h'
  have := updA_at (remC key) R.s key R.rows j (by rw [updA_len]; exact hj)
  simp only [remR]
  rw [this]
  unfold updR
  exact countP_modify (fun x hx => by
    have hx : 1 ≤ max (x.2.1 - 1) (-1099511627776) := of_decide_eq_true hx
    exact decide_eq_true (by omega)) _ _
theorem jpos_lt {L : List Sw} {i : Nat} {key : ByteArray} (h : jfind L = some (i, key)) : jpos (L.mapIdx (jtake i key)) < jpos L := by
  obtain ⟨hi, h1, _⟩ := jfind_some h
  unfold jpos
  refine sum_lt _ _ (by simp) (fun j hj hj' => ?_) i (by simpa using hi) (by simpa using hi) ?_
  · simp only [List.getElem_map, List.getElem_mapIdx]
    unfold jtake
    split
    · exact posN_remR _ _
    · exact Nat.le_refl _
  · simp only [List.getElem_map, List.getElem_mapIdx]
    unfold jtake
    rw [if_pos (by simp [jHit])]
    exact posN_rem h1
theorem jall_none {L : List Sw} (h : jfind L = none) : ∀ n, jall n L = L
  | 0 => rfl
  | n + 1 => by rw [jall, jround, h]; rfl
theorem jall_some {L : List Sw} {i : Nat} {key : ByteArray} (h : jfind L = some (i, key)) (n : Nat) : jall (n + 1) L = jall n (L.mapIdx (jtake i key)) := by rw [jall, jround, h]; rfl
end Go.Proofs.YtmgnmnogiajlgaaGreatF
end

section
/- Keys joined: the order does not matter, a key twice is none. -/
namespace Go.Proofs.YtmgnmnogiajlgaaGreatF
open Go Go.Proofs.Vm

instance : LawfulBEq ByteArray where
  eq_of_beq h := (Go.MapKept.bytes_beq _ _).1 h
  rfl := (Go.MapKept.bytes_beq _ _).2 rfl
theorem ofInt_u8 (a : Nat) (ha : a < 256) : (BitVec.ofInt 8 (a : Int)).toNat = a := by
  rw [BitVec.ofInt_natCast, BitVec.toNat_ofNat]; exact Nat.mod_eq_of_lt (by omega)
theorem u8_xor (a b : Nat) (ha : a < 256) (hb : b < 256) : Go.bits .xor .u8 (a : Int) (b : Int) = ((a ^^^ b : Nat) : Int) := by
  have hx : a ^^^ b < 2 ^ 8 := Nat.xor_lt_two_pow (by omega) (by omega)
  show IntKind.u8.wrap ((BitVec.ofInt 8 (a : Int) ^^^ BitVec.ofInt 8 (b : Int)).toNat : Int) = _
  rw [BitVec.toNat_xor, ofInt_u8 a ha, ofInt_u8 b hb, IntKind.wrap_u8]
  omega
/-- A string's byte as a number. -/
def nb (s : ByteArray) (i : Nat) : Nat := (byt s (i : Int)).toNat
theorem nb_lt (s : ByteArray) (i : Nat) : nb s i < 256 := by have := byt_range s (i : Int); unfold nb; omega
theorem byt_nb (s : ByteArray) (i : Nat) : byt s (i : Int) = (nb s i : Int) := by have := byt_range s (i : Int); unfold nb; omega
theorem nb_get {s : ByteArray} {i : Nat} (h : i < s.size) : nb s i = (s[i]'h).toNat := by
  unfold nb byt
  rw [Int.toNat_natCast, getElem?_pos s i h]
  rfl
theorem nb_ext {a b : ByteArray} (hs : a.size = b.size) (h : ∀ i, i < a.size → nb a i = nb b i) : a = b := by
  apply ByteArray.ext
  apply Array.ext
  · exact hs
  · intro i h1 h2
    have h3 := h i h1
    rw [nb_get h1, nb_get (s := b) (by exact h2)] at h3
    exact UInt8.toNat_inj.1 h3
theorem strOf_cons_data : ∀ (l : List Int) (acc : ByteArray), (l.foldl (fun r n => r.push (UInt8.ofNat n.toNat)) acc).data.toList = acc.data.toList ++ l.map fun n => UInt8.ofNat n.toNat
  | [], acc => by simp
  | x :: l, acc => by
    rw [List.foldl_cons, strOf_cons_data l, List.map_cons]
    simp
theorem strOf_data (l : List Int) : (strOf l).data.toList = l.map fun n => UInt8.ofNat n.toNat := by
  unfold strOf
  rw [strOf_cons_data]
  rfl
theorem nb_xor {a b : ByteArray} {i : Nat} (h : i < a.size) : nb (xorK a b) i = nb a i ^^^ nb b i := by
  have hs : i < (xorK a b).size := by rw [xorK_size]; exact h
  rw [nb_get hs]
  have hd := strOf_data (xorL a b)
  have h1 : (strOf (xorL a b)).data.toList[i]? = some ((xorK a b)[i]'hs) := by
    rw [List.getElem?_eq_getElem (by rw [Array.length_toList]; exact hs), Array.getElem_toList]; rfl
  have hv : nb a i ^^^ nb b i < 2 ^ 8 := Nat.xor_lt_two_pow (nb_lt _ _) (nb_lt _ _)
  have h2 : (xorL a b)[i]? = some (((nb a i ^^^ nb b i : Nat)) : Int) := by
    unfold xorL
    rw [List.getElem?_map, List.getElem?_range h, Option.map_some, xb, byt_nb, byt_nb, u8_xor _ _ (nb_lt _ _) (nb_lt _ _)]
  rw [hd, List.getElem?_map, h2, Option.map_some, Option.some.injEq, Int.toNat_natCast] at h1
  rw [← h1, UInt8.toNat_ofNat']
  omega
theorem xor_swap {a b c : ByteArray} : xorK (xorK a b) c = xorK (xorK a c) b := by
  apply nb_ext
  · simp only [xorK_size]
  · intro i h
    simp only [xorK_size] at h
    rw [nb_xor (a := xorK a b) (by rw [xorK_size]; exact h), nb_xor (a := xorK a c) (by rw [xorK_size]; exact h), nb_xor (a := a) h, nb_xor (a := a) h, Nat.xor_assoc, Nat.xor_assoc, Nat.xor_comm (nb b i)]
theorem xor_twice {a b : ByteArray} : xorK (xorK a b) b = a := by
  apply nb_ext
  · simp only [xorK_size]
  · intro i h
    simp only [xorK_size] at h
    rw [nb_xor (a := xorK a b) (by rw [xorK_size]; exact h), nb_xor (a := a) h, Nat.xor_assoc, Nat.xor_self, Nat.xor_zero]
theorem nought_size : nought.size = 37 := rfl
theorem nb_nought (i : Nat) : nb nought i = 0 := by
  by_cases h : i < 37
  · have : ∀ j : Fin 37, nb nought j.1 = 0 := by decide
    exact this ⟨i, h⟩
  · unfold nb
    rw [byt_out _ _ (by omega) (by rw [nought_size]; omega)]
    rfl
theorem xor_nought {k : ByteArray} (h : k.size = 37) : xorK nought k = k := by
  apply nb_ext
  · rw [xorK_size, h]; rfl
  · intro i hi
    rw [xorK_size] at hi
    rw [nb_xor hi, nb_nought, Nat.zero_xor]

/-- So many keys joined. -/
def xorA (l : List ByteArray) : ByteArray := l.foldl xorK nought
theorem foldl_size (l : List ByteArray) : ∀ a : ByteArray, (l.foldl xorK a).size = a.size := by
  induction l with
  | nil => intro a; rfl
  | cons x l ih => intro a; rw [List.foldl_cons, ih, xorK_size]
theorem xorA_size (l : List ByteArray) : (xorA l).size = 37 := by rw [xorA, foldl_size]; rfl
theorem xorA_snoc (l : List ByteArray) (k : ByteArray) : xorA (l ++ [k]) = xorK (xorA l) k := by simp [xorA]
theorem xorA_perm {l m : List ByteArray} (h : l.Perm m) : xorA l = xorA m := by
  unfold xorA
  exact h.foldl_eq' (fun x _ y _ z => xor_swap (a := z) (b := x) (c := y)) nought
theorem xorA_one {k : ByteArray} (h : k.size = 37) : xorA [k] = k := by unfold xorA; rw [List.foldl_cons, List.foldl_nil, xor_nought h]
theorem xorA_erase {l : List ByteArray} {k : ByteArray} (h : k ∈ l) : xorK (xorA l) k = xorA (l.erase k) := by
  have hp : l.Perm (l.erase k ++ [k]) := (List.perm_cons_erase h).trans (List.perm_append_singleton k _).symm
  rw [xorA_perm hp, xorA_snoc, xor_twice]
end Go.Proofs.YtmgnmnogiajlgaaGreatF
end

section
/- Structs of a string and some numbers, compared. -/
namespace Go.Proofs.Vm
open Go

set_option maxHeartbeats 4000000
variable {P : Program} {H : Hp}

/-- Of one string and three numbers. -/
theorem eq_st4 {t : TypeId} {f0 f1 f2 f3 : Field} {k : IntKind} (hu : pv P (underlying t) = some (.struct #[f0, f1, f2, f3])) (hs : P.stoodInHeld t = false) (n0 : (f0.name == "_") = false) (n1 : (f1.name == "_") = false) (n2 : (f2.name == "_") = false) (n3 : (f3.name == "_") = false) (o0 : f0.offset = 0) (o1 : f1.offset = 1) (o2 : f2.offset = 2) (o3 : f3.offset = 3)
    (a0 : pv P (isAgg f0.type) = some false) (a1 : pv P (isAgg f1.type) = some false) (a2 : pv P (isAgg f2.type) = some false) (a3 : pv P (isAgg f3.type) = some false) (u0 : pv P (underlying f0.type) = some .string) (u1 : pv P (underlying f1.type) = some (.int k)) (u2 : pv P (underlying f2.type) = some (.int k)) (u3 : pv P (underlying f3.type) = some (.int k)) (a b : ByteArray) (x y x2 y2 x3 y3 : Int) (d : Nat) :
    pv P (Op.equalIn (d + 2) t (.agg #[.string a, .int k x, .int k x2, .int k x3]) (.agg #[.string b, .int k y, .int k y2, .int k y3])) = some (a == b && x == y && x2 == y2 && x3 == y3) := by
  have m0 : ¬ f0.name = "_" := fun h => by rw [h] at n0; simp at n0
  have m1 : ¬ f1.name = "_" := fun h => by rw [h] at n1; simp at n1
  have m2 : ¬ f2.name = "_" := fun h => by rw [h] at n2; simp at n2
  have m3 : ¬ f3.name = "_" := fun h => by rw [h] at n3; simp at n3
  unfold Op.equalIn
  cases h0 : a == b <;> cases h1 : x == y <;> cases h2 : x2 == y2 <;> cases h3 : x3 == y3 <;> simp [hu, hs, m0, m1, m2, m3, o0, o1, o2, o3, part, a0, a1, a2, a3, eq_strD u0, eq_intD u1, eq_intD u2, eq_intD u3, h0, h1, h2, h3]
theorem bin_st4 {t : TypeId} {f0 f1 f2 f3 : Field} {k : IntKind} (hu : pv P (underlying t) = some (.struct #[f0, f1, f2, f3])) (hs : P.stoodInHeld t = false) (hg : P.eqGuardType P.depth t = false) (n0 : (f0.name == "_") = false) (n1 : (f1.name == "_") = false) (n2 : (f2.name == "_") = false) (n3 : (f3.name == "_") = false) (o0 : f0.offset = 0) (o1 : f1.offset = 1) (o2 : f2.offset = 2) (o3 : f3.offset = 3)
    (a0 : pv P (isAgg f0.type) = some false) (a1 : pv P (isAgg f1.type) = some false) (a2 : pv P (isAgg f2.type) = some false) (a3 : pv P (isAgg f3.type) = some false) (u0 : pv P (underlying f0.type) = some .string) (u1 : pv P (underlying f1.type) = some (.int k)) (u2 : pv P (underlying f2.type) = some (.int k)) (u3 : pv P (underlying f3.type) = some (.int k)) {a b : ByteArray} {x y x2 y2 x3 y3 : Int} {p q : Operand} :
    vbin P H .eql t p q (.agg [.c (.v (.string a)), .c (.v (.int k x)), .c (.v (.int k x2)), .c (.v (.int k x3))]) (.agg [.c (.v (.string b)), .c (.v (.int k y)), .c (.v (.int k y2)), .c (.v (.int k y3))]) = qa (vB (a == b && x == y && x2 == y2 && x3 == y3)) ∧
    vbin P H .neq t p q (.agg [.c (.v (.string a)), .c (.v (.int k x)), .c (.v (.int k x2)), .c (.v (.int k x3))]) (.agg [.c (.v (.string b)), .c (.v (.int k y)), .c (.v (.int k y2)), .c (.v (.int k y3))]) = qa (vB (!(a == b && x == y && x2 == y2 && x3 == y3))) := by
  have h := eq_st4 hu hs n0 n1 n2 n3 o0 o1 o2 o3 a0 a1 a2 a3 u0 u1 u2 u3 a b x y x2 y2 x3 y3 9998
  constructor <;> simp [vbin, vbin0, neSl, isNils, isPtr, isNilp, fresh, AV.sc, scs, Cell.sc, eqGuard, hg, binOp, ofPv, one?, Value.oneCell', Op.equal, Op.maxDepth, h]
/-- Of one string and two numbers. -/
theorem eq_st3 {t : TypeId} {f0 f1 f2 : Field} {k : IntKind} (hu : pv P (underlying t) = some (.struct #[f0, f1, f2])) (hs : P.stoodInHeld t = false) (n0 : (f0.name == "_") = false) (n1 : (f1.name == "_") = false) (n2 : (f2.name == "_") = false) (o0 : f0.offset = 0) (o1 : f1.offset = 1) (o2 : f2.offset = 2)
    (a0 : pv P (isAgg f0.type) = some false) (a1 : pv P (isAgg f1.type) = some false) (a2 : pv P (isAgg f2.type) = some false) (u0 : pv P (underlying f0.type) = some .string) (u1 : pv P (underlying f1.type) = some (.int k)) (u2 : pv P (underlying f2.type) = some (.int k)) (a b : ByteArray) (x y x2 y2 : Int) (d : Nat) :
    pv P (Op.equalIn (d + 2) t (.agg #[.string a, .int k x, .int k x2]) (.agg #[.string b, .int k y, .int k y2])) = some (a == b && x == y && x2 == y2) := by
  have m0 : ¬ f0.name = "_" := fun h => by rw [h] at n0; simp at n0
  have m1 : ¬ f1.name = "_" := fun h => by rw [h] at n1; simp at n1
  have m2 : ¬ f2.name = "_" := fun h => by rw [h] at n2; simp at n2
  unfold Op.equalIn
  cases h0 : a == b <;> cases h1 : x == y <;> cases h2 : x2 == y2 <;> simp [hu, hs, m0, m1, m2, o0, o1, o2, part, a0, a1, a2, eq_strD u0, eq_intD u1, eq_intD u2, h0, h1, h2]
theorem bin_st3 {t : TypeId} {f0 f1 f2 : Field} {k : IntKind} (hu : pv P (underlying t) = some (.struct #[f0, f1, f2])) (hs : P.stoodInHeld t = false) (hg : P.eqGuardType P.depth t = false) (n0 : (f0.name == "_") = false) (n1 : (f1.name == "_") = false) (n2 : (f2.name == "_") = false) (o0 : f0.offset = 0) (o1 : f1.offset = 1) (o2 : f2.offset = 2)
    (a0 : pv P (isAgg f0.type) = some false) (a1 : pv P (isAgg f1.type) = some false) (a2 : pv P (isAgg f2.type) = some false) (u0 : pv P (underlying f0.type) = some .string) (u1 : pv P (underlying f1.type) = some (.int k)) (u2 : pv P (underlying f2.type) = some (.int k)) {a b : ByteArray} {x y x2 y2 : Int} {p q : Operand} :
    vbin P H .eql t p q (.agg [.c (.v (.string a)), .c (.v (.int k x)), .c (.v (.int k x2))]) (.agg [.c (.v (.string b)), .c (.v (.int k y)), .c (.v (.int k y2))]) = qa (vB (a == b && x == y && x2 == y2)) ∧
    vbin P H .neq t p q (.agg [.c (.v (.string a)), .c (.v (.int k x)), .c (.v (.int k x2))]) (.agg [.c (.v (.string b)), .c (.v (.int k y)), .c (.v (.int k y2))]) = qa (vB (!(a == b && x == y && x2 == y2))) := by
  have h := eq_st3 hu hs n0 n1 n2 o0 o1 o2 a0 a1 a2 u0 u1 u2 a b x y x2 y2 9998
  constructor <;> simp [vbin, vbin0, neSl, isNils, isPtr, isNilp, fresh, AV.sc, scs, Cell.sc, eqGuard, hg, binOp, ofPv, one?, Value.oneCell', Op.equal, Op.maxDepth, h]
end Go.Proofs.Vm
end

section
/- The document's radar: is it empty, the same, short enough? -/
set_option maxRecDepth 8192
set_option maxHeartbeats 1000000
namespace Go.Proofs.YtmgnmnogiajlgaaGreatF
open Go Go.Proofs.Vm

def smallB (R : Rad) : Bool := decide (R.bits.length ≤ 300) && decide (R.rows.length ≤ 20) && decide (R.h ≤ 100) && R.rows.all fun r => decide (r.length ≤ 40) && r.all fun c => decide (c.1.size ≤ 100)
theorem rr_Small {R : Rad} (hl : Lens R) : TV.pu 22 [.agg (cRad R)] = some (cB (smallB R)) := by
  refine run22 (by simp) ?_
  obtain ⟨s, fs, h, bits, rows⟩ := R
  obtain ⟨l1, l2, l3⟩ := hl
  dsimp only at l1 l2 l3
  obtain ⟨res, hres⟩ : ∃ res, smallB ⟨s, fs, h, bits, rows⟩ = res := ⟨_, rfl⟩
  rw [hres]
  unfold smallB at hres
  dsimp only at hres
  by_cases c1 : bits.length ≤ 300
  rotate_left
  · have : res = false := by rw [← hres]; simp [c1]
    have c1' : 300 < (bits.length : Int) := by omega
    simp -implicitDefEqProofs [Tryz.f22, cRad, cRws, c1', this]
  have c1' : ¬ 300 < (bits.length : Int) := by omega
  by_cases c2 : rows.length ≤ 20
  rotate_left
  · have : res = false := by rw [← hres]; simp [c2]
    have c2' : 20 < (rows.length : Int) := by omega
    simp -implicitDefEqProofs [Tryz.f22, cRad, cRws, c1', c2', this]
  have c2' : ¬ 20 < (rows.length : Int) := by omega
  by_cases c3 : h ≤ 100
  rotate_left
  · have : res = false := by rw [← hres]; simp [c3]
    have c3' : 100 < h := by omega
    simp -implicitDefEqProofs [Tryz.f22, cRad, cRws, c1', c2', c3', this]
  have c3' : ¬ 100 < h := by omega
  rw [decide_eq_true c1, decide_eq_true c2, decide_eq_true c3, Bool.true_and, Bool.true_and, Bool.true_and] at hres
  have hbad : ∀ i (hi : i < rows.length), (decide (rows[i].length ≤ 40) && rows[i].all fun c => decide (c.1.size ≤ 100)) = false → res = false := fun i hi hw => by
    rw [← hres, List.all_eq_false]
    exact ⟨_, List.getElem_mem hi, by rw [hw]; decide⟩
  simp -implicitDefEqProofs [Tryz.f22, cRad, cRws, cRw, c1', c2', c3']
  obtain ⟨I, hI⟩ : ∃ I : Nat → St → Prop, ∀ k s', I k s' ↔ (∃ e i L, s' = ⟨e, .opn [(cRad ⟨s, fs, h, bits, rows⟩).map .c] false :: L⟩ ∧ e 1 = .one (.ptr ⟨0, 0, 0, 1⟩) ∧ e 3 = vI .i64 (i : Nat) ∧ (i + k = rows.length) ∧ (∀ j (h : j < rows.length), j < i → (decide (rows[j].length ≤ 40) && rows[j].all fun c => decide (c.1.size ≤ 100)) = true)) := ⟨_, fun _ _ => Iff.rfl⟩
  refine wpL_ind I ?_ rows.length _ ((hI _ _).2 ⟨_, 0, _, (by first | rfl | (simp [cRad, cRws, cRw]; done) | (simp [cRad, cRws, cRw]; rfl) | (simp [cRad, cRws, cRw]; and_intros <;> rfl)), by simp, by simp, by simp, by omega⟩)
  intro k stI hstI
  obtain ⟨e, i, L, rfl, e1, e3, hk, hno⟩ := (hI _ _).1 hstI
  by_cases c : i < rows.length
  rotate_left
  · have : res = true := by
      rw [← hres, List.all_eq_true]
      intro x hx
      obtain ⟨q, hq, rfl⟩ := List.getElem_of_mem hx
      exact hno q hq (by omega)
    simp -implicitDefEqProofs [e1, e3, cRad, cRws, cRw, c, this]
  have w_i : IntKind.i64.wrap ((i : Int) + 1) = ((i + 1 : Nat) : Int) := by rw [w64_id (by omega) (by omega)]; omega
  have hlr := l2 _ (List.getElem_mem c)
  have hbi := hbad i c
  by_cases d1 : rows[i].length ≤ 40
  rotate_left
  · rw [hbi (by simp [d1])]
    have d1' : 40 < (rows[i].length : Int) := by omega
    simp -implicitDefEqProofs [e1, e3, cRad, cRws, cRw, c, d1', vmove, isNil]
  have d1' : ¬ 40 < (rows[i].length : Int) := by omega
  rw [decide_eq_true d1, Bool.true_and] at hbi
  simp -implicitDefEqProofs [e1, e3, cRad, cRws, cRw, c, d1', vmove, isNil]
  obtain ⟨J, hJ⟩ : ∃ J : Nat → St → Prop, ∀ k' s', J k' s' ↔ (∃ e p L, s' = ⟨e, .opn [(cRad ⟨s, fs, h, bits, rows⟩).map .c] false :: L⟩ ∧ e 1 = .one (.ptr ⟨0, 0, 0, 1⟩) ∧ e 3 = vI .i64 (i : Nat) ∧ e 41 = .one (.c (cRw rows[i])) ∧ e 42 = vI .i64 rows[i].length ∧ e 43 = vI .i64 (p : Nat) ∧ (p + k' = rows[i].length) ∧ (∀ q (h : q < rows[i].length), q < p → rows[i][q].1.size ≤ 100)) := ⟨_, fun _ _ => Iff.rfl⟩
  refine wpL_ind J ?_ rows[i].length _ ((hJ _ _).2 ⟨_, 0, _, (by first | rfl | (simp [e1, e3, cRad, cRws, cRw]; done) | (simp [e1, e3, cRad, cRws, cRw]; rfl) | (simp [e1, e3, cRad, cRws, cRw]; and_intros <;> rfl)), by simp [e1], by simp [e3], by simp [cRw], by simp, by simp, by omega, by omega⟩)
  clear e1 e3
  intro k' stJ hstJ
  obtain ⟨e, p, L, rfl, e1, e3, e41, e42, e43, hk', hnp⟩ := (hJ _ _).1 hstJ
  by_cases d : p < rows[i].length
  rotate_left
  · simp -implicitDefEqProofs [e3, e42, e43, d, w_i, cRad, cRws, cRw]
    refine ⟨k - 1, by omega, (hI _ _).2 ⟨_, i + 1, _, (by first | rfl | (simp [cRad, cRws, cRw]; done) | (simp [cRad, cRws, cRw]; rfl) | (simp [cRad, cRws, cRw]; and_intros <;> rfl)), by simp [e1], by simp, by omega, fun q hq hq2 => ?_⟩⟩
    by_cases hqi : q = i
    · subst hqi
      rw [decide_eq_true d1, Bool.true_and, List.all_eq_true]
      intro x hx
      obtain ⟨z, hz, rfl⟩ := List.getElem_of_mem hx
      exact decide_eq_true (hnp z hz (by omega))
    · exact hno q hq (by omega)
  have w_p : IntKind.i64.wrap ((p : Int) + 1) = ((p + 1 : Nat) : Int) := by rw [w64_id (by omega) (by omega)]; omega
  obtain ⟨y, hy⟩ : ∃ y, rows[i][p] = y := ⟨_, rfl⟩
  obtain ⟨x, fl, pk, bb⟩ := y
  have hcl : cCl rows[i][p] = [.v (.string x), .v (.int .i64 fl), .v (.int .i64 pk), .v (.int .i64 bb)] := by rw [hy]; rfl
  by_cases g : x.size ≤ 100
  · have g' : ¬ 100 < (x.size : Int) := by omega
    simp -implicitDefEqProofs [e41, e42, e43, d, w_p, cRad, cRws, cRw, hcl, g', vmove, isNil, vstore, cellsOf?, Ent.wrO, wr]
    refine ⟨k' - 1, by omega, (hJ _ _).2 ⟨_, p + 1, _, (by first | rfl | (simp [cRad, cRws, cRw]; done) | (simp [cRad, cRws, cRw]; rfl) | (simp [cRad, cRws, cRw]; and_intros <;> rfl)), by simp [e1], by simp [e3], by simp [e41, cRw], by simp [e42], by simp, by omega, fun q hq hq2 => ?_⟩⟩
    by_cases hqp : q = p
    · subst hqp; rw [hy]; exact g
    · exact hnp q hq (by omega)
  · have g' : 100 < (x.size : Int) := by omega
    rw [hbi (by rw [List.all_eq_false]; exact ⟨_, List.getElem_mem d, by rw [hy]; simpa using g⟩)]
    simp -implicitDefEqProofs [e41, e42, e43, d, cRad, cRws, cRw, hcl, g', vmove, isNil, vstore, cellsOf?, Ent.wrO, wr]

theorem rr_Empty {R : Rad} (hl : Lens R) : TV.pu 21 [.agg (cRad R)] = some (cB (!R.rows.any (·.any fullC))) := by
  refine run21 (by simp) ?_
  obtain ⟨s, fs, h, bits, rows⟩ := R
  obtain ⟨l1, l2, l3⟩ := hl
  dsimp only at l1 l2 l3 ⊢
  obtain ⟨res, hres⟩ : ∃ res, (!rows.any (·.any fullC)) = res := ⟨_, rfl⟩
  rw [hres]
  have hbad : ∀ i (hi : i < rows.length) p (hp : p < rows[i].length), fullC rows[i][p] = true → res = false := fun i hi p hp hw => by
    have h1 : rows[i].any fullC = true := List.any_eq_true.2 ⟨_, List.getElem_mem hp, hw⟩
    have h2 : rows.any (·.any fullC) = true := List.any_eq_true.2 ⟨_, List.getElem_mem hi, h1⟩
    rw [← hres, h2]; rfl
  simp -implicitDefEqProofs [Tryz.f21, cRad, cRws, cRw]
  obtain ⟨I, hI⟩ : ∃ I : Nat → St → Prop, ∀ k s', I k s' ↔ (∃ e i L, s' = ⟨e, .opn [(cRad ⟨s, fs, h, bits, rows⟩).map .c] false :: L⟩ ∧ e 1 = .one (.ptr ⟨0, 0, 0, 1⟩) ∧ e 3 = vI .i64 (i : Nat) ∧ (i + k = rows.length) ∧ (∀ j (h : j < rows.length), j < i → rows[j].any fullC = false)) := ⟨_, fun _ _ => Iff.rfl⟩
  refine wpL_ind I ?_ rows.length _ ((hI _ _).2 ⟨_, 0, _, (by first | rfl | (simp [cRad, cRws, cRw]; done) | (simp [cRad, cRws, cRw]; rfl) | (simp [cRad, cRws, cRw]; and_intros <;> rfl)), by simp, by simp, by simp, by omega⟩)
  intro k stI hstI
  obtain ⟨e, i, L, rfl, e1, e3, hk, hno⟩ := (hI _ _).1 hstI
  by_cases c : i < rows.length
  rotate_left
  · have : res = true := by
      have : rows.any (·.any fullC) = false := List.any_eq_false.2 fun x hx => by
        obtain ⟨q, hq, rfl⟩ := List.getElem_of_mem hx
        rw [hno q hq (by omega)]; decide
      rw [← hres, this]; rfl
    simp -implicitDefEqProofs [e1, e3, cRad, cRws, cRw, c, this]
  have w_i : IntKind.i64.wrap ((i : Int) + 1) = ((i + 1 : Nat) : Int) := by rw [w64_id (by omega) (by omega)]; omega
  have hlr := l2 _ (List.getElem_mem c)
  simp -implicitDefEqProofs [e1, e3, cRad, cRws, cRw, c, vmove, isNil]
  obtain ⟨J, hJ⟩ : ∃ J : Nat → St → Prop, ∀ k' s', J k' s' ↔ (∃ e p L, s' = ⟨e, .opn [(cRad ⟨s, fs, h, bits, rows⟩).map .c] false :: L⟩ ∧ e 1 = .one (.ptr ⟨0, 0, 0, 1⟩) ∧ e 3 = vI .i64 (i : Nat) ∧ e 4 = vI .i64 (p : Nat) ∧ (p + k' = rows[i].length) ∧ (∀ q (h : q < rows[i].length), q < p → fullC rows[i][q] = false)) := ⟨_, fun _ _ => Iff.rfl⟩
  refine wpL_ind J ?_ rows[i].length _ ((hJ _ _).2 ⟨_, 0, _, (by first | rfl | (simp [e1, e3, cRad, cRws, cRw]; done) | (simp [e1, e3, cRad, cRws, cRw]; rfl) | (simp [e1, e3, cRad, cRws, cRw]; and_intros <;> rfl)), by simp [e1], by simp [e3], by simp, by omega, by omega⟩)
  clear e1 e3
  intro k' stJ hstJ
  obtain ⟨e, p, L, rfl, e1, e3, e4, hk', hnp⟩ := (hJ _ _).1 hstJ
  by_cases d : p < rows[i].length
  rotate_left
  · simp -implicitDefEqProofs [e1, e3, e4, c, d, w_i, cRad, cRws, cRw]
    refine ⟨k - 1, by omega, (hI _ _).2 ⟨_, i + 1, _, (by first | rfl | (simp [cRad, cRws, cRw]; done) | (simp [cRad, cRws, cRw]; rfl) | (simp [cRad, cRws, cRw]; and_intros <;> rfl)), by simp [e1], by simp, by omega, fun q hq hq2 => ?_⟩⟩
    by_cases hqi : q = i
    · subst hqi
      exact List.any_eq_false.2 fun x hx => by
        obtain ⟨z, hz, rfl⟩ := List.getElem_of_mem hx
        rw [hnp z hz (by omega)]; decide
    · exact hno q hq (by omega)
  have w_p : IntKind.i64.wrap ((p : Int) + 1) = ((p + 1 : Nat) : Int) := by rw [w64_id (by omega) (by omega)]; omega
  have hbp := hbad i c p d
  have hnx : fullC rows[i][p] = false → ∀ q (h : q < rows[i].length), q < p + 1 → fullC rows[i][q] = false := fun hg q hq hq2 => by
    by_cases hqp : q = p
    · subst hqp; exact hg
    · exact hnp q hq (by omega)
  obtain ⟨y, hy⟩ : ∃ y, rows[i][p] = y := ⟨_, rfl⟩
  rw [hy] at hbp hnx
  obtain ⟨x, fl, pk, bb⟩ := y
  have hcl : cCl rows[i][p] = [.v (.string x), .v (.int .i64 fl), .v (.int .i64 pk), .v (.int .i64 bb)] := by rw [hy]; rfl
  unfold fullC at hbp hnx
  dsimp only at hbp hnx
  by_cases g : fl = 0
  rotate_left
  · rw [hbp (by simp [g])]
    simp -implicitDefEqProofs [e1, e3, e4, c, d, cRad, cRws, cRw, hcl, g, vmove, isNil, vstore, cellsOf?, Ent.wrO, wr]
  subst g
  have hbz : bytesRow' (List.replicate 37 [CV.v (.int .u8 0)]) = some (List.replicate 37 0) := rfl
  have hz0 : strOf (List.replicate 37 0) = nought := rfl
  simp -implicitDefEqProofs [-List.reduceReplicate, elemsOf, e1, e3, e4, c, d, w_p, cRad, cRws, cRw, hcl, vmove, isNil, vstore, cellsOf?, Ent.wrO, wr, vmakeSlice_eq es100 el5, small, vconvW, hbz, hz0, toList_inj]
  by_cases hx : x = nought
  · rw [if_pos hx]
    exact ⟨k' - 1, by omega, (hJ _ _).2 ⟨_, p + 1, _, (by first | rfl | (simp [cRad, cRws, cRw]; done) | (simp [cRad, cRws, cRw]; rfl) | (simp [cRad, cRws, cRw]; and_intros <;> rfl)), by simp [e1], by simp [e3], by simp, by omega, hnx (by rw [hx, sEq_iff.2 rfl]; rfl)⟩⟩
  · rw [if_neg hx]
    have hxn : sEq x nought = false := by
      cases h : sEq x nought with
      | false => rfl
      | true => exact absurd (sEq_iff.1 h) hx
    rw [hbp (by rw [hxn]; rfl)]

def eqRad (A B : Rad) : Bool := decide (A.s = B.s ∧ A.fs = B.fs ∧ A.h = B.h ∧ A.bits = B.bits ∧ A.rows = B.rows)
theorem eqRad_iff {A B : Rad} : eqRad A B = true ↔ A = B := by
  unfold eqRad
  rw [decide_eq_true_iff]
  constructor
  · rintro ⟨h1, h2, h3, h4, h5⟩
    cases A; cases B; simp_all
  · rintro rfl; simp
theorem rc_neq {H : Hp} {a b : ByteArray} {x y x2 y2 x3 y3 : Int} {p q : Operand} : vbin Tryz.prog H .neq 73 p q (.agg [.c (.v (.string a)), .c (.v (.int .i64 x)), .c (.v (.int .i64 x2)), .c (.v (.int .i64 x3))]) (.agg [.c (.v (.string b)), .c (.v (.int .i64 y)), .c (.v (.int .i64 y2)), .c (.v (.int .i64 y3))]) = qa (vB (!(a == b && x == y && x2 == y2 && x3 == y3))) :=
  (bin_st4 (P := Tryz.prog) (t := 73) (pv_of Tryz.underlying73) (by kernel_rfl) (by kernel_rfl) (by kernel_rfl) (by kernel_rfl) (by kernel_rfl) (by kernel_rfl) (by kernel_rfl) (by kernel_rfl) (by kernel_rfl) (by kernel_rfl) (by kernel_rfl) (by kernel_rfl) (by kernel_rfl) (by kernel_rfl) us9 (by kernel_rfl) (by kernel_rfl) (by kernel_rfl)).2
theorem rr_Equal {A B : Rad} (ha : Lens A) : TV.pu 12 [.agg (cRad A), .agg (cRad B)] = some (cB (eqRad A B)) := by
  refine run12 (by simp) ?_
  obtain ⟨res, hres⟩ : ∃ res, eqRad A B = res := ⟨_, rfl⟩
  rw [hres]
  have hT : A = B → res = true := fun h => by rw [← hres]; exact eqRad_iff.2 h
  have hF : A ≠ B → res = false := fun h => by
    cases h2 : res with
    | false => rfl
    | true => rw [h2] at hres; exact absurd (eqRad_iff.1 hres) h
  clear hres
  obtain ⟨s, fs, h, bits, rows⟩ := A
  obtain ⟨s', fs', h', bits', rows'⟩ := B
  obtain ⟨l1, l2, l3⟩ := ha
  dsimp only at l1 l2 l3
  have hf := ref10_Equal (s := fs) (h := h) (b := bits) (s' := fs') (h' := h') (b' := bits') l3
  simp only [cF] at hf
  by_cases c1 : s = s'
  rotate_left
  · have := hF (by rintro ⟨⟩; exact c1 rfl)
    simp -implicitDefEqProofs [Tryz.f12, cRad, cRws, cRw, c1, this]
  subst c1
  cases c2 : eqF fs h bits fs' h' bits' with
  | false =>
    rw [c2] at hf
    have := hF (by rintro ⟨⟩; simp [eqF] at c2)
    simp -implicitDefEqProofs [Tryz.f12, cRad, cRws, cRw, hf, this]
  | true =>
  rw [c2] at hf
  obtain ⟨rfl, rfl, rfl⟩ := of_decide_eq_true c2
  by_cases c3 : rows.length = rows'.length
  rotate_left
  · have := hF (by rintro ⟨⟩; exact c3 rfl)
    have c3' : ¬ (rows.length : Int) = rows'.length := by omega
    simp -implicitDefEqProofs [Tryz.f12, cRad, cRws, cRw, hf, c3', this]
  have c3' : ((rows.length : Int) != (rows'.length : Int)) = false := by simp [c3]
  simp -implicitDefEqProofs [Tryz.f12, cRad, cRws, cRw, hf, c3']
  obtain ⟨I, hI⟩ : ∃ I : Nat → St → Prop, ∀ k s', I k s' ↔ (∃ e i L, s' = ⟨e, .opn [(cRad ⟨s, fs, h, bits, rows⟩).map .c] false :: .opn [(cRad ⟨s, fs, h, bits, rows'⟩).map .c] false :: L⟩ ∧ e 2 = .one (.ptr ⟨0, 0, 0, 1⟩) ∧ e 3 = .one (.ptr ⟨1, 0, 0, 1⟩) ∧ e 5 = vI .i64 (i : Nat) ∧ (i + k = rows.length) ∧ (∀ j (h : j < rows.length) (h' : j < rows'.length), j < i → rows[j] = rows'[j])) := ⟨_, fun _ _ => Iff.rfl⟩
  refine wpL_ind I ?_ rows.length _ ((hI _ _).2 ⟨_, 0, _, (by first | rfl | (simp [cRad, cRws, cRw]; done) | (simp [cRad, cRws, cRw]; rfl) | (simp [cRad, cRws, cRw]; and_intros <;> rfl)), by simp, by simp, by simp, by simp, by omega⟩)
  intro k stI hstI
  obtain ⟨e, i, L, rfl, e2, e3, e5, hk, hno⟩ := (hI _ _).1 hstI
  by_cases c : i < rows.length
  rotate_left
  · have hrr : rows = rows' := List.ext_getElem c3 fun j q1 q2 => hno j q1 q2 (by omega)
    have := hT (by rw [hrr])
    simp -implicitDefEqProofs [e2, e5, cRad, cRws, cRw, c, this]
  have w_i : IntKind.i64.wrap ((i : Int) + 1) = ((i + 1 : Nat) : Int) := by rw [w64_id (by omega) (by omega)]; omega
  have co : i < rows'.length := by omega
  by_cases d1 : rows[i].length = rows'[i].length
  rotate_left
  · have := hF (by rintro ⟨⟩; exact d1 rfl)
    have d1' : ¬ (rows[i].length : Int) = rows'[i].length := by omega
    simp -implicitDefEqProofs [e2, e3, e5, cRad, cRws, cRw, c, co, d1', vmove, isNil, this]
  have d1' : ((rows[i].length : Int) != (rows'[i].length : Int)) = false := by simp [d1]
  have hlr := l2 _ (List.getElem_mem c)
  simp -implicitDefEqProofs [e2, e3, e5, cRad, cRws, cRw, c, co, d1', vmove, isNil]
  obtain ⟨J, hJ⟩ : ∃ J : Nat → St → Prop, ∀ k' s', J k' s' ↔ (∃ e p L, s' = ⟨e, .opn [(cRad ⟨s, fs, h, bits, rows⟩).map .c] false :: .opn [(cRad ⟨s, fs, h, bits, rows'⟩).map .c] false :: L⟩ ∧ e 2 = .one (.ptr ⟨0, 0, 0, 1⟩) ∧ e 3 = .one (.ptr ⟨1, 0, 0, 1⟩) ∧ e 5 = vI .i64 (i : Nat) ∧ e 6 = vI .i64 (p : Nat) ∧ (p + k' = rows[i].length) ∧ (∀ q (h : q < rows[i].length) (h' : q < rows'[i].length), q < p → rows[i][q] = rows'[i][q])) := ⟨_, fun _ _ => Iff.rfl⟩
  refine wpL_ind J ?_ rows[i].length _ ((hJ _ _).2 ⟨_, 0, _, (by first | rfl | (simp [e2, e3, e5, cRad, cRws, cRw]; done) | (simp [e2, e3, e5, cRad, cRws, cRw]; rfl) | (simp [e2, e3, e5, cRad, cRws, cRw]; and_intros <;> rfl)), by simp [e2], by simp [e3], by simp [e5], by simp, by omega, by omega⟩)
  clear e2 e3 e5
  intro k' stJ hstJ
  obtain ⟨e, p, L, rfl, e2, e3, e5, e6, hk', hnp⟩ := (hJ _ _).1 hstJ
  by_cases d : p < rows[i].length
  rotate_left
  · simp -implicitDefEqProofs [e2, e5, e6, c, d, w_i, cRad, cRws, cRw]
    refine ⟨k - 1, by omega, (hI _ _).2 ⟨_, i + 1, _, (by first | rfl | (simp [cRad, cRws, cRw]; done) | (simp [cRad, cRws, cRw]; rfl) | (simp [cRad, cRws, cRw]; and_intros <;> rfl)), by simp [e2], by simp [e3], by simp, by omega, fun q hq hq2 hq3 => ?_⟩⟩
    by_cases hqi : q = i
    · subst hqi
      exact List.ext_getElem d1 fun z q1 q2 => hnp z q1 q2 (by omega)
    · exact hno q hq hq2 (by omega)
  have w_p : IntKind.i64.wrap ((p : Int) + 1) = ((p + 1 : Nat) : Int) := by rw [w64_id (by omega) (by omega)]; omega
  have do' : p < rows'[i].length := by omega
  obtain ⟨y, hy⟩ : ∃ y, rows[i][p] = y := ⟨_, rfl⟩
  obtain ⟨z, hz⟩ : ∃ z, rows'[i][p] = z := ⟨_, rfl⟩
  have hne : y ≠ z → res = false := fun h => hF (by rintro ⟨⟩; exact h (hy.symm.trans hz))
  have hnx : y = z → ∀ q (h : q < rows[i].length) (h' : q < rows'[i].length), q < p + 1 → rows[i][q] = rows'[i][q] := fun hg q hq hq' hq2 => by
    by_cases hqp : q = p
    · subst hqp; rw [hy, hz]; exact hg
    · exact hnp q hq hq' (by omega)
  obtain ⟨x, fl, pk, bb⟩ := y
  obtain ⟨x', fl', pk', bb'⟩ := z
  have hcl : cCl rows[i][p] = [.v (.string x), .v (.int .i64 fl), .v (.int .i64 pk), .v (.int .i64 bb)] := by rw [hy]; rfl
  have hcl' : cCl rows'[i][p] = [.v (.string x'), .v (.int .i64 fl'), .v (.int .i64 pk'), .v (.int .i64 bb')] := by rw [hz]; rfl
  obtain ⟨B, hB⟩ : ∃ B, (x == x' && fl == fl' && pk == pk' && bb == bb') = B := ⟨_, rfl⟩
  have hn := fun (H : Hp) (p q : Operand) => rc_neq (H := H) (a := x) (b := x') (x := fl) (y := fl') (x2 := pk) (y2 := pk') (x3 := bb) (y3 := bb') (p := p) (q := q)
  rw [hB] at hn
  cases B with
  | true =>
    have hyz : (x, fl, pk, bb) = (x', fl', pk', bb') := by
      simp only [Bool.and_eq_true, Go.MapKept.bytes_beq, beq_iff_eq] at hB
      obtain ⟨⟨⟨h1, h2⟩, h3⟩, h4⟩ := hB
      rw [h1, h2, h3, h4]
    simp -implicitDefEqProofs [e2, e3, e5, e6, c, co, d, do', w_p, cRad, cRws, cRw, hcl, hcl', hn, vmove, isNil]
    exact ⟨k' - 1, by omega, (hJ _ _).2 ⟨_, p + 1, _, (by first | rfl | (simp [cRad, cRws, cRw]; done) | (simp [cRad, cRws, cRw]; rfl) | (simp [cRad, cRws, cRw]; and_intros <;> rfl)), by simp [e2], by simp [e3], by simp [e5], by simp, by omega, hnx hyz⟩⟩
  | false =>
    have := hne (by rintro ⟨⟩; rw [(Go.MapKept.bytes_beq _ _).2 rfl] at hB; simp at hB)
    simp -implicitDefEqProofs [e2, e3, e5, e6, c, co, d, do', cRad, cRws, cRw, hcl, hcl', hn, vmove, isNil, this]
end Go.Proofs.YtmgnmnogiajlgaaGreatF
end

section
/- A radar's cells as the encoding of what came. -/
namespace Go.Proofs.YtmgnmnogiajlgaaGreatF
open Go Go.Proofs.Vm

abbrev Pkt := ByteArray × Int
/-- A key's place in a row. -/
def pln (s : Int) (i cols : Nat) (k : ByteArray) : Nat := (hcell (hrow s ((i : Int) + 1)) k (cols : Int)).toNat
theorem pln_lt {s : Int} {i cols : Nat} (h : 1 ≤ cols) (k : ByteArray) : pln s i cols k < cols := by
  have := hcell_range (hrow s ((i : Int) + 1)) k (cols : Int) (by omega)
  unfold pln; omega
def encC (pl : ByteArray → Nat) (K : List ByteArray) (L : List Pkt) (p : Nat) : RCl :=
  (xorA (K.filter fun k => pl k == p), ((K.countP fun k => pl k == p : Nat) : Int), ((L.countP fun x => pl x.1 == p : Nat) : Int), ((L.filter fun x => pl x.1 == p).map (·.2)).sum)
def encRow (pl : ByteArray → Nat) (K : List ByteArray) (L : List Pkt) (n : Nat) : List RCl := (List.range n).map (encC pl K L)
def encRows (s : Int) (rows cols : Nat) (K : List ByteArray) (L : List Pkt) : List (List RCl) := (List.range rows).map fun i => encRow (pln s i cols) K L cols
theorem sum_perm {l m : List Int} (h : l.Perm m) : l.sum = m.sum := by
  induction h with
  | nil => rfl
  | cons x _ ih => rw [List.sum_cons, List.sum_cons, ih]
  | swap x y l => rw [List.sum_cons, List.sum_cons, List.sum_cons, List.sum_cons]; omega
  | trans _ _ h1 h2 => rw [h1, h2]
theorem encC_perm {pl : ByteArray → Nat} {K K' : List ByteArray} {L L' : List Pkt} (hK : K.Perm K') (hL : L.Perm L') (p : Nat) : encC pl K L p = encC pl K' L' p := by
  unfold encC
  rw [xorA_perm (hK.filter _), hK.countP_eq, hL.countP_eq, sum_perm ((hL.filter _).map _)]
theorem encRow_perm {pl : ByteArray → Nat} {K K' : List ByteArray} {L L' : List Pkt} (hK : K.Perm K') (hL : L.Perm L') (n : Nat) : encRow pl K L n = encRow pl K' L' n := by
  unfold encRow
  exact List.map_congr_left fun p _ => encC_perm hK hL p
theorem encRows_perm {s : Int} {rows cols : Nat} {K K' : List ByteArray} {L L' : List Pkt} (hK : K.Perm K') (hL : L.Perm L') : encRows s rows cols K L = encRows s rows cols K' L' := by
  unfold encRows
  exact List.map_congr_left fun p _ => encRow_perm hK hL _
theorem encRow_len (pl : ByteArray → Nat) (K : List ByteArray) (L : List Pkt) (n : Nat) : (encRow pl K L n).length = n := by simp [encRow]
theorem encRows_len (s : Int) (rows cols : Nat) (K : List ByteArray) (L : List Pkt) : (encRows s rows cols K L).length = rows := by simp [encRows]
theorem encRow_get {pl : ByteArray → Nat} {K : List ByteArray} {L : List Pkt} {n p : Nat} (h : p < (encRow pl K L n).length) : (encRow pl K L n)[p] = encC pl K L p := by simp [encRow]
theorem encRows_get {s : Int} {rows cols : Nat} {K : List ByteArray} {L : List Pkt} {i : Nat} (h : i < (encRows s rows cols K L).length) : (encRows s rows cols K L)[i] = encRow (pln s i cols) K L cols := by simp [encRows]
/-- A packet more. -/
theorem encC_add {pl : ByteArray → Nat} {K : List ByteArray} {L : List Pkt} {k : ByteArray} {b : Int} {fr : Bool} : encC pl (if fr then K ++ [k] else K) (L ++ [(k, b)]) (pl k) = addC fr k b (encC pl K L (pl k)) := by
  unfold encC addC
  cases fr with
  | true =>
    simp only [if_true, List.filter_append, List.countP_append, List.map_append, List.sum_append]
    simp [xorA_snoc]
  | false =>
    simp only [Bool.false_eq_true, if_false, List.filter_append, List.countP_append, List.map_append, List.sum_append]
    simp
theorem encC_add_ne {pl : ByteArray → Nat} {K : List ByteArray} {L : List Pkt} {k : ByteArray} {b : Int} {fr : Bool} {p : Nat} (h : pl k ≠ p) : encC pl (if fr then K ++ [k] else K) (L ++ [(k, b)]) p = encC pl K L p := by
  have h' : (pl k == p) = false := by simpa using h
  unfold encC
  cases fr <;> simp [List.filter_append, List.countP_append, h']
theorem encRow_add {pl : ByteArray → Nat} {K : List ByteArray} {L : List Pkt} {n : Nat} {k : ByteArray} {b : Int} {fr : Bool} : (encRow pl K L n).modify (pl k) (addC fr k b) = encRow pl (if fr then K ++ [k] else K) (L ++ [(k, b)]) n := by
  apply List.ext_getElem
  · simp [encRow_len]
  · intro p h1 h2
    rw [List.getElem_modify, encRow_get, encRow_get]
    split
    · rename_i h; subst h; exact encC_add.symm
    · rename_i h; exact (encC_add_ne h).symm
theorem encRows_add {s : Int} {rows cols : Nat} {K : List ByteArray} {L : List Pkt} {k : ByteArray} {b : Int} {fr : Bool} : updA (addC fr k b) s k (encRows s rows cols K L) = encRows s rows cols (if fr then K ++ [k] else K) (L ++ [(k, b)]) := by
  apply List.ext_getElem
  · rw [updA_len, encRows_len, encRows_len]
  · intro i h1 h2
    rw [updA_at, encRows_get, encRows_get, updR, encRow_len]
    exact encRow_add
/-- A flow less. -/
theorem encC_rem {pl : ByteArray → Nat} {K K' : List ByteArray} {L : List Pkt} {k : ByteArray} (h : K.Perm (k :: K')) : encC pl K' L (pl k) = remC k (encC pl K L (pl k)) := by
  rw [encC_perm h (.refl L)]
  unfold encC remC
  have h1 : xorA ((k :: K').filter fun x => pl x == pl k) = xorK (xorA (K'.filter fun x => pl x == pl k)) k := by
    rw [List.filter_cons, if_pos (by simp), xorA_perm (List.perm_append_singleton k _).symm, xorA_snoc]
  have h2 : (k :: K').countP (fun x => pl x == pl k) = K'.countP (fun x => pl x == pl k) + 1 := by simp
  simp only [h1, h2, xor_twice]
  have h3 : max ((((K'.countP (fun x => pl x == pl k) + 1 : Nat)) : Int) - 1) (-1099511627776) = ((K'.countP (fun x => pl x == pl k) : Nat) : Int) := by omega
  rw [h3]
theorem encC_rem_ne {pl : ByteArray → Nat} {K K' : List ByteArray} {L : List Pkt} {k : ByteArray} {p : Nat} (h : K.Perm (k :: K')) (hp : pl k ≠ p) : encC pl K' L p = encC pl K L p := by
  rw [encC_perm h (.refl L)]
  have h' : (pl k == p) = false := by simpa using hp
  unfold encC
  simp [h']
theorem encRows_rem {s : Int} {rows cols : Nat} {K K' : List ByteArray} {L : List Pkt} {k : ByteArray} (h : K.Perm (k :: K')) : updA (remC k) s k (encRows s rows cols K L) = encRows s rows cols K' L := by
  apply List.ext_getElem
  · rw [updA_len, encRows_len, encRows_len]
  · intro i h1 h2
    rw [updA_at, encRows_get, encRows_get, updR, encRow_len]
    apply List.ext_getElem
    · simp [encRow_len]
    · intro p g1 g2
      rw [List.getElem_modify, encRow_get, encRow_get]
      have hq : (hcell (hrow s ((i : Int) + 1)) k (cols : Int)).toNat = pln s i cols k := rfl
      rw [hq]
      split
      · rename_i e; subst e; exact (encC_rem h).symm
      · rename_i e; exact (encC_rem_ne h e).symm

/-! the filter's bits -/
def bitsOf (fs h : Int) (n : Nat) (L : List Pkt) : List Bool := (List.range n).map fun (j : Nat) => L.any fun x => (plc fs h x.1 n).any fun p => decide (p = (j : Int))
theorem bitsOf_len (fs h : Int) (n : Nat) (L : List Pkt) : (bitsOf fs h n L).length = n := by simp [bitsOf]
theorem bitsOf_nil (fs h : Int) (n : Nat) : bitsOf fs h n [] = List.replicate n false := by
  apply List.ext_getElem
  · simp [bitsOf]
  · intro j h1 h2; simp [bitsOf]
theorem bitsOf_add {fs h : Int} {n : Nat} (hn : 1 ≤ n) {L : List Pkt} {k : ByteArray} {b : Int} : addB (bitsOf fs h n L) (plc fs h k n) = bitsOf fs h n (L ++ [(k, b)]) := by
  apply List.ext_getElem
  · rw [addB_len, bitsOf_len, bitsOf_len]
  · intro j h1 h2
    have hj : j < (bitsOf fs h n L).length := by rw [addB_len] at h1; exact h1
    have := addB_get (plc fs h k n) (fun p hp => (plc_mem hn hp).1) (bitsOf fs h n L) j hj
    rw [List.getElem?_eq_getElem h1] at this
    rw [Option.some.inj this]
    simp [bitsOf]
theorem bitsOf_perm {fs h : Int} {n : Nat} {L L' : List Pkt} (hL : L.Perm L') : bitsOf fs h n L = bitsOf fs h n L' := by
  unfold bitsOf
  exact List.map_congr_left fun j _ => hL.any_eq
theorem hasB_of {fs h : Int} {n : Nat} (hn : 1 ≤ n) {L : List Pkt} {k : ByteArray} (hk : ∃ b, (k, b) ∈ L) : hasB fs h (bitsOf fs h n L) k = true := by
  obtain ⟨b, hb⟩ := hk
  unfold hasB
  rw [bitsOf_len, List.all_eq_true]
  intro p hp
  have hr := plc_mem hn hp
  have hq : p.toNat < (bitsOf fs h n L).length := by rw [bitsOf_len]; omega
  rw [List.getD_eq_getElem?_getD, List.getElem?_eq_getElem hq, Option.getD_some]
  simp only [bitsOf, List.getElem_map, List.getElem_range]
  exact List.any_eq_true.2 ⟨_, hb, List.any_eq_true.2 ⟨p, hp, by simp; omega⟩⟩
theorem hasB_nil {fs h : Int} {n : Nat} (_hn : 1 ≤ n) (hh : 1 ≤ h) (k : ByteArray) : hasB fs h (bitsOf fs h n []) k = false := by
  unfold hasB
  rw [List.all_eq_false]
  have hl : 0 < (plc fs h k (bitsOf fs h n []).length).length := by rw [plc_len]; omega
  refine ⟨_, List.getElem_mem hl, ?_⟩
  generalize ((plc fs h k (bitsOf fs h n []).length)[0]'hl).toNat = j
  rw [bitsOf_nil, List.getD_eq_getElem?_getD, List.getElem?_replicate]
  split <;> simp

def encRad (s h : Int) (bits rows cols : Nat) (K : List ByteArray) (L : List Pkt) : Rad := ⟨s, hrow s 0, h, bitsOf (hrow s 0) h bits L, encRows s rows cols K L⟩
theorem encRad_nil (s h : Int) (bits rows cols : Nat) : encRad s h bits rows cols [] [] = newRad s bits h rows cols := by
  unfold encRad newRad
  rw [bitsOf_nil]
  congr 1
  apply List.ext_getElem
  · simp [encRows]
  · intro i h1 h2
    apply List.ext_getElem
    · simp [encRows, encRow]
    · intro p g1 g2
      simp [encRows, encRow, encC, nC, xorA]
theorem encRad_add {s h : Int} {bits rows cols : Nat} {K : List ByteArray} {L : List Pkt} {k : ByteArray} {b : Int} (hb : 1 ≤ bits) : addRad (encRad s h bits rows cols K L) k b = encRad s h bits rows cols (if freshB (encRad s h bits rows cols K L) k then K ++ [k] else K) (L ++ [(k, b)]) := by
  have h1 : (encRad s h bits rows cols K L).bits.length = bits := bitsOf_len ..
  unfold addRad
  rw [h1]
  show (⟨s, hrow s 0, h, addB (bitsOf (hrow s 0) h bits L) (plc (hrow s 0) h k bits), updA (addC (freshB (encRad s h bits rows cols K L) k) k b) s k (encRows s rows cols K L)⟩ : Rad) = _
  rw [bitsOf_add hb (b := b), encRows_add]
  rfl
theorem encRad_rem {s h : Int} {bits rows cols : Nat} {K K' : List ByteArray} {L : List Pkt} {k : ByteArray} (hp : K.Perm (k :: K')) : remR (encRad s h bits rows cols K L) k = encRad s h bits rows cols K' L := by
  unfold remR encRad
  congr 1
  exact encRows_rem hp
end Go.Proofs.YtmgnmnogiajlgaaGreatF
end

section
/- A radar's encoding is right; what is peeled of it. -/
namespace Go.Proofs.YtmgnmnogiajlgaaGreatF
open Go Go.Proofs.Vm

def Dim (h : Int) (bits rows cols : Nat) : Prop := 1 ≤ bits ∧ bits ≤ 256 ∧ 1 ≤ h ∧ h ≤ 7 ∧ 1 ≤ rows ∧ rows ≤ 7 ∧ 1 ≤ cols ∧ cols ≤ 256
theorem sum_bound {b : Int} : ∀ {l : List Int}, (∀ x ∈ l, 0 ≤ x ∧ x ≤ b) → 0 ≤ l.sum ∧ l.sum ≤ (l.length : Int) * b
  | [], _ => by simp
  | x :: l, h => by
    have h1 := h x List.mem_cons_self
    have h2 := sum_bound (l := l) fun y hy => h y (List.mem_cons_of_mem _ hy)
    rw [List.sum_cons, List.length_cons, Int.natCast_add, Int.add_mul]
    omega
theorem encC_ok {pl : ByteArray → Nat} {K : List ByteArray} {L : List Pkt} {p : Nat} (hK : K.length ≤ 1000) (hL : L.length ≤ 1000) (hb : ∀ x ∈ L, 0 ≤ x.2 ∧ x.2 ≤ 1073741824) : wrongB (encC pl K L p) = false := by
  rw [wrongB_iff]
  have h1 := List.countP_le_length (p := fun k => pl k == p) (l := K)
  have h2 := List.countP_le_length (p := fun x : Pkt => pl x.1 == p) (l := L)
  have h3 := sum_bound (b := 1073741824) (l := (L.filter fun x => pl x.1 == p).map (·.2)) fun y hy => by
    obtain ⟨x, hx, rfl⟩ := List.mem_map.1 hy
    exact hb x (List.mem_filter.1 hx).1
  have h4 := List.length_filter_le (fun x : Pkt => pl x.1 == p) L
  rw [List.length_map] at h3
  refine ⟨xorA_size _, ?_, ?_, ?_, ?_, h3.1, ?_⟩ <;> simp only [encC] <;> omega
theorem encRad_ok {s h : Int} {bits rows cols : Nat} {K : List ByteArray} {L : List Pkt} (hd : Dim h bits rows cols) (hK : K.length ≤ 1000) (hL : L.length ≤ 1000) (hb : ∀ x ∈ L, 0 ≤ x.2 ∧ x.2 ≤ 1073741824) : rOk (encRad s h bits rows cols K L) = true := by
  obtain ⟨d1, d2, d3, d4, d5, d6, d7, d8⟩ := hd
  have hr : ∀ x ∈ encRows s rows cols K L, x.length = cols ∧ ∀ c ∈ x, wrongB c = false := by
    intro x hx
    obtain ⟨i, _, rfl⟩ := List.mem_map.1 hx
    refine ⟨encRow_len .., fun c hc => ?_⟩
    obtain ⟨p, _, rfl⟩ := List.mem_map.1 hc
    exact encC_ok hK hL hb
  have hhd : ((encRows s rows cols K L).headD []).length = cols := by
    have : 0 < (encRows s rows cols K L).length := by rw [encRows_len]; omega
    cases he : encRows s rows cols K L with
    | nil => rw [he] at this; simp at this
    | cons x t => exact (hr x (by rw [he]; exact List.mem_cons_self)).1
  refine rOk_of ?_ rfl (by show 1 ≤ (encRows s rows cols K L).length; rw [encRows_len]; exact d5) (by show (encRows s rows cols K L).length ≤ 7; rw [encRows_len]; exact d6) fun x hx => ?_
  · rw [fOk_iff]
    show 1 ≤ h ∧ h ≤ 7 ∧ 1 ≤ (bitsOf (hrow s 0) h bits L).length ∧ (bitsOf (hrow s 0) h bits L).length ≤ 256
    rw [bitsOf_len]
    exact ⟨d3, d4, d1, d2⟩
  · obtain ⟨h1, h2⟩ := hr x hx
    refine ⟨by omega, by omega, ?_, h2⟩
    show x.length = ((encRows s rows cols K L).headD []).length
    rw [h1, hhd]
theorem encRad_seeds {s h : Int} {bits rows cols : Nat} {K : List ByteArray} {L : List Pkt} (h0 : 0 ≤ s) (h1 : s < 18446744073709551616) : Seeds (encRad s h bits rows cols K L) := by
  have := hrow_range s 0
  refine ⟨h0, h1, ?_, ?_⟩ <;> simp only [encRad] <;> omega
theorem encRad_lens {s h : Int} {bits rows cols : Nat} {K : List ByteArray} {L : List Pkt} (hd : Dim h bits rows cols) : Lens (encRad s h bits rows cols K L) := by
  obtain ⟨d1, d2, d3, d4, d5, d6, d7, d8⟩ := hd
  refine ⟨?_, fun x hx => ?_, ?_⟩
  · show (encRows s rows cols K L).length < _
    rw [encRows_len]; omega
  · obtain ⟨i, _, rfl⟩ := List.mem_map.1 (show x ∈ encRows s rows cols K L from hx)
    rw [encRow_len]; omega
  · show (bitsOf (hrow s 0) h bits L).length < _
    rw [bitsOf_len]; omega

theorem countP_one {α : Type} {q : α → Bool} {l : List α} (h : l.countP q = 1) : ∃ x ∈ l, l.filter q = [x] ∧ q x = true := by
  rw [List.countP_eq_length_filter] at h
  obtain ⟨x, hx⟩ := List.length_eq_one_iff.1 h
  have : x ∈ l.filter q := by rw [hx]; exact List.mem_singleton.2 rfl
  obtain ⟨h1, h2⟩ := List.mem_filter.1 this
  exact ⟨x, h1, hx, h2⟩
theorem pure_enc {s h : Int} {bits rows cols : Nat} {K : List ByteArray} {L : List Pkt} (hK : ∀ k ∈ K, k.size = 37) {told : List ByteArray} {k : ByteArray} (hp : pureOf (encRad s h bits rows cols K L) told = some k) : k ∈ K := by
  obtain ⟨i, p, hi, hpp, hc, rfl⟩ := pureOf_some hp
  obtain ⟨h1, -, -, -⟩ := okC_facts hc
  have hi' : i < (encRows s rows cols K L).length := hi
  have e : (encRad s h bits rows cols K L).rows[i] = encRow (pln s i cols) K L cols := encRows_get hi'
  have hp2 : p < (encRow (pln s i cols) K L cols).length := by rw [← e]; exact hpp
  have e2 : (encRad s h bits rows cols K L).rows[i][p] = encC (pln s i cols) K L p := by simp only [e]; exact encRow_get hp2
  have h1 : (encC (pln s i cols) K L p).2.1 = 1 := by rw [← e2]; exact h1
  have h1 : (((K.countP fun k => pln s i cols k == p) : Nat) : Int) = 1 := h1
  have e3 : (encRad s h bits rows cols K L).rows[i][p].1 = (encC (pln s i cols) K L p).1 := congrArg (·.1) e2
  refine e3 ▸ ?_
  obtain ⟨x, hx, hf, -⟩ := countP_one (q := fun k => pln s i cols k == p) (l := K) (by omega)
  show xorA (K.filter fun k => pln s i cols k == p) ∈ K
  rw [hf, xorA_one (hK x hx)]
  exact hx
theorem peelN_enc {s h : Int} {bits rows cols : Nat} {L : List Pkt} : ∀ (n : Nat) (K out : List ByteArray), (∀ k ∈ K, k.size = 37) → posN (encRad s h bits rows cols K L) ≤ n →
    ∃ T K', peelN n (encRad s h bits rows cols K L) out = (ssort (out ++ T), encRad s h bits rows cols K' L) ∧ K.Perm (T ++ K') ∧ pureOf (encRad s h bits rows cols K' L) (out ++ T) = none
  | 0, K, out, hK, hn => by
    refine ⟨[], K, by rw [List.append_nil]; rfl, .refl _, ?_⟩
    rw [List.append_nil]
    cases hp : pureOf (encRad s h bits rows cols K L) out with
    | none => rfl
    | some k => have := posN_rem hp; omega
  | n + 1, K, out, hK, hn => by
    cases hp : pureOf (encRad s h bits rows cols K L) out with
    | none =>
      refine ⟨[], K, ?_, .refl _, by rw [List.append_nil]; exact hp⟩
      rw [peelN_none hp, List.append_nil]
    | some k =>
      have hk := pure_enc hK hp
      have hpe : K.Perm (k :: K.erase k) := List.perm_cons_erase hk
      have hlt := posN_rem hp
      rw [encRad_rem hpe] at hlt
      obtain ⟨T, K', h1, h2, h3⟩ := peelN_enc (s := s) (h := h) (bits := bits) (rows := rows) (cols := cols) (L := L) n (K.erase k) (out ++ [k]) (fun x hx => hK x (List.mem_of_mem_erase hx)) (by omega)
      refine ⟨k :: T, K', ?_, hpe.trans (h2.cons k), ?_⟩
      · rw [peelN, hp]
        show peelN n (remR (encRad s h bits rows cols K L) k) (out ++ [k]) = _
        rw [encRad_rem hpe, h1, List.append_assoc]
        rfl
      · rw [← h3, List.append_assoc]; rfl
theorem peel_enc {s h : Int} {bits rows cols : Nat} {L : List Pkt} {K : List ByteArray} (hK : ∀ k ∈ K, k.size = 37) :
    ∃ T K', peel (encRad s h bits rows cols K L) = (ssort T, encRad s h bits rows cols K' L) ∧ K.Perm (T ++ K') ∧ pureOf (encRad s h bits rows cols K' L) T = none := peelN_enc _ K [] hK (Nat.le_refl _)
/-- A radar with a flow is not empty; one without is. -/
theorem enc_full {s h : Int} {bits rows cols : Nat} {L : List Pkt} {K : List ByteArray} (hd : Dim h bits rows cols) (hK : K ≠ []) : ((encRad s h bits rows cols K L).rows.any (·.any fullC)) = true := by
  obtain ⟨d1, d2, d3, d4, d5, d6, d7, d8⟩ := hd
  obtain ⟨k, t, rfl⟩ : ∃ k t, K = k :: t := by cases K with | nil => exact absurd rfl hK | cons k t => exact ⟨k, t, rfl⟩
  have hp := pln_lt (s := s) (i := 0) d7 k
  refine List.any_eq_true.2 ⟨encRow (pln s 0 cols) (k :: t) L cols, List.mem_map.2 ⟨0, List.mem_range.2 (by omega), rfl⟩, List.any_eq_true.2 ⟨encC (pln s 0 cols) (k :: t) L (pln s 0 cols k), List.mem_map.2 ⟨_, List.mem_range.2 hp, rfl⟩, ?_⟩⟩
  unfold fullC
  have : (encC (pln s 0 cols) (k :: t) L (pln s 0 cols k)).2.1 ≠ 0 := by
    simp only [encC, List.countP_cons]
    simp
    omega
  rw [decide_eq_true this, Bool.true_or]
theorem enc_empty {s h : Int} {bits rows cols : Nat} {L : List Pkt} : ((encRad s h bits rows cols [] L).rows.any (·.any fullC)) = false := by
  refine List.any_eq_false.2 fun x hx => ?_
  obtain ⟨i, _, rfl⟩ := List.mem_map.1 hx
  rw [Bool.not_eq_true]
  refine List.any_eq_false.2 fun c hc => ?_
  obtain ⟨p, _, rfl⟩ := List.mem_map.1 hc
  have : sEq nought nought = true := sEq_iff.2 rfl
  simp [fullC, encC, xorA, this]
end Go.Proofs.YtmgnmnogiajlgaaGreatF
end

section
/- Packets that came, and the flows that the filter tells apart. -/
set_option maxRecDepth 8192
set_option maxHeartbeats 1000000
namespace Go.Proofs.YtmgnmnogiajlgaaGreatF
open Go Go.Proofs.Vm

def fedStep (fs h : Int) (n : Nat) (st : List ByteArray × List Pkt × Bool) (p : Pkt) : List ByteArray × List Pkt × Bool :=
  if hasB fs h (bitsOf fs h n st.2.1) p.1 = true then (st.1, st.2.1 ++ [p], st.2.2 && st.1.any (sEq p.1)) else (st.1 ++ [p.1], st.2.1 ++ [p], st.2.2)
def fedS (fs h : Int) (n : Nat) (l : List Pkt) : List ByteArray × List Pkt × Bool := l.foldl (fedStep fs h n) ([], [], true)
theorem fedS_snoc (fs h : Int) (n : Nat) (l : List Pkt) (p : Pkt) : fedS fs h n (l ++ [p]) = fedStep fs h n (fedS fs h n l) p := by simp [fedS]
theorem list_rev {α : Type} {motive : List α → Prop} (h0 : motive []) (h1 : ∀ l x, motive l → motive (l ++ [x])) : ∀ l, motive l := by
  have key : ∀ n l, l.length = n → motive l := by
    intro n
    induction n with
    | zero => intro l hl; rw [List.length_eq_zero_iff.1 hl]; exact h0
    | succ n ih =>
      intro l hl
      have hne : l ≠ [] := by rintro rfl; simp at hl
      rw [← List.dropLast_concat_getLast hne]
      exact h1 _ _ (ih _ (by simp; omega))
  exact fun l => key _ l rfl
theorem fedS_L (fs h : Int) (n : Nat) : ∀ l, (fedS fs h n l).2.1 = l := by
  refine list_rev rfl fun l x ih => ?_
  rw [fedS_snoc]
  unfold fedStep
  split <;> simp only [ih]
theorem fedS_facts {fs h : Int} {n : Nat} (hn : 1 ≤ n) : ∀ l, (fedS fs h n l).1.Nodup ∧ (∀ k ∈ (fedS fs h n l).1, ∃ b, (k, b) ∈ l) ∧ (fedS fs h n l).1.length ≤ l.length ∧ ((fedS fs h n l).2.2 = true → ∀ x ∈ l, x.1 ∈ (fedS fs h n l).1) ∧ (l ≠ [] → 1 ≤ h → (fedS fs h n l).1 ≠ []) := by
  refine list_rev ?_ fun l x ih => ?_
  · simp [fedS]
  · obtain ⟨h1, h2, h3, h4, h5⟩ := ih
    have hL := fedS_L fs h n l
    rw [fedS_snoc]
    unfold fedStep
    by_cases c : hasB fs h (bitsOf fs h n (fedS fs h n l).2.1) x.1 = true
    · rw [if_pos c]
      refine ⟨h1, fun k hk => ?_, by simp; omega, fun ha y hy => ?_, fun _ hh => ?_⟩
      · obtain ⟨b, hb⟩ := h2 k hk
        exact ⟨b, List.mem_append_left _ hb⟩
      · simp only [Bool.and_eq_true] at ha
        rcases List.mem_append.1 hy with hy | hy
        · exact h4 ha.1 y hy
        · rw [List.mem_singleton.1 hy]
          obtain ⟨z, hz, e⟩ := List.any_eq_true.1 ha.2
          rw [sEq_iff.1 e]; exact hz
      · by_cases hl : l = []
        · subst hl
          rw [show (fedS fs h n []).2.1 = [] from rfl, hasB_nil hn hh] at c
          cases c
        · exact h5 hl hh
    · rw [if_neg c]
      have hnew : x.1 ∉ (fedS fs h n l).1 := fun hx => c (by rw [hL]; exact hasB_of hn (h2 _ hx))
      refine ⟨?_, fun k hk => ?_, by simp; omega, fun ha y hy => ?_, fun _ _ => by simp⟩
      · exact List.nodup_append.2 ⟨h1, List.nodup_cons.2 ⟨by simp, List.nodup_nil⟩, fun a ha b hb => by rw [List.mem_singleton.1 hb]; rintro rfl; exact hnew ha⟩
      · rcases List.mem_append.1 hk with hk | hk
        · obtain ⟨b, hb⟩ := h2 k hk
          exact ⟨b, List.mem_append_left _ hb⟩
        · rw [List.mem_singleton.1 hk]
          exact ⟨x.2, List.mem_append_right _ (List.mem_singleton.2 rfl)⟩
      · rcases List.mem_append.1 hy with hy | hy
        · exact List.mem_append_left _ (h4 ha y hy)
        · rw [List.mem_singleton.1 hy]; exact List.mem_append_right _ (List.mem_singleton.2 rfl)
end Go.Proofs.YtmgnmnogiajlgaaGreatF
end

section
/- Joint: where filters tell flows apart, what is taken came, and is taken where it came. -/
set_option maxRecDepth 8192
set_option maxHeartbeats 1000000
namespace Go.Proofs.YtmgnmnogiajlgaaGreatF
open Go Go.Proofs.Vm

def Came (L : List Pkt) (k : ByteArray) : Prop := ∃ b, (k, b) ∈ L
theorem bits_at {fs h : Int} {n : Nat} (hn : 1 ≤ n) {L : List Pkt} {k : ByteArray} {p : Int} (hp : p ∈ plc fs h k n) : (bitsOf fs h n L).getD p.toNat false = L.any fun x => (plc fs h x.1 n).any fun q => decide (q = p) := by
  have hr := plc_mem hn hp
  have hq : p.toNat < (bitsOf fs h n L).length := by rw [bitsOf_len]; omega
  rw [List.getD_eq_getElem?_getD, List.getElem?_eq_getElem hq, Option.getD_some]
  simp only [bitsOf, List.getElem_map, List.getElem_range]
  rw [show ((p.toNat : Nat) : Int) = p by omega]
theorem hasB_mono {fs h : Int} {n : Nat} (hn : 1 ≤ n) {L L' : List Pkt} {k : ByteArray} (hs : ∀ x, Came L x → Came L' x) (hb : hasB fs h (bitsOf fs h n L) k = true) : hasB fs h (bitsOf fs h n L') k = true := by
  unfold hasB at hb ⊢
  rw [bitsOf_len, List.all_eq_true] at hb ⊢
  intro p hp
  have := hb p hp
  rw [bits_at hn hp] at this ⊢
  obtain ⟨x, hx, h2⟩ := List.any_eq_true.1 this
  obtain ⟨b, hb'⟩ := hs x.1 ⟨x.2, hx⟩
  exact List.any_eq_true.2 ⟨_, hb', h2⟩
/-- No flow of these is covered by the other ones that came. -/
def Apart (fs h : Int) (n : Nat) (ks : List ByteArray) (L : List Pkt) : Prop := ∀ k ∈ ks, hasB fs h (bitsOf fs h n (L.filter fun x => decide (x.1 ≠ k))) k = false
theorem Apart.iff {fs h : Int} {n : Nat} (hn : 1 ≤ n) {ks : List ByteArray} {L : List Pkt} (hA : Apart fs h n ks L) {k : ByteArray} (hk : k ∈ ks) : hasB fs h (bitsOf fs h n L) k = true ↔ Came L k := by
  constructor
  · intro hb
    apply Classical.byContradiction
    intro hno
    have : L.filter (fun x => decide (x.1 ≠ k)) = L := List.filter_eq_self.2 fun x hx => decide_eq_true fun e => hno ⟨x.2, by rw [← e]; exact hx⟩
    have h2 := hA k hk
    rw [this, hb] at h2
    cases h2
  · exact hasB_of hn
theorem Apart.mono {fs h : Int} {n : Nat} (hn : 1 ≤ n) {ks : List ByteArray} {L L' : List Pkt} (hA : Apart fs h n ks L') (hs : ∀ x ∈ L, x ∈ L') : Apart fs h n ks L := fun k hk => by
  cases hb : hasB fs h (bitsOf fs h n (L.filter fun x => decide (x.1 ≠ k))) k with
  | false => rfl
  | true =>
    have := hasB_mono (L' := L'.filter fun x => decide (x.1 ≠ k)) hn (fun x ⟨b, hx⟩ => by
      obtain ⟨h1, h2⟩ := List.mem_filter.1 hx
      exact ⟨b, List.mem_filter.2 ⟨hs _ h1, h2⟩⟩) hb
    rw [hA k hk] at this
    cases this
theorem Apart.fed {fs h : Int} {n : Nat} (hn : 1 ≤ n) {ks : List ByteArray} : ∀ L : List Pkt, (∀ x ∈ L, x.1 ∈ ks) → Apart fs h n ks L → (fedS fs h n L).2.2 = true := by
  refine list_rev (fun _ _ => rfl) fun l x ih hks hA => ?_
  have hA' := hA.mono hn (L := l) fun y hy => List.mem_append_left _ hy
  have h1 := ih (fun y hy => hks y (List.mem_append_left _ hy)) hA'
  have hx := hks x (by simp)
  rw [fedS_snoc]
  unfold fedStep
  rw [fedS_L]
  by_cases c : hasB fs h (bitsOf fs h n l) x.1 = true
  · rw [if_pos c, h1, Bool.true_and]
    obtain ⟨b, hb⟩ := (hA'.iff hn hx).1 c
    have := (fedS_facts (h := h) (fs := fs) hn l).2.2.2.1 h1 _ hb
    exact List.any_eq_true.2 ⟨_, this, sEq_iff.2 rfl⟩
  · rw [if_neg c]; exact h1
/-- The flows that came. -/
def flows (s h : Int) (bits : Nat) (L : List Pkt) : List ByteArray := (fedS (hrow s 0) h bits L).1
theorem flows_mem {s h : Int} {bits : Nat} (hn : 1 ≤ bits) {ks : List ByteArray} {L : List Pkt} (hks : ∀ x ∈ L, x.1 ∈ ks) (hA : Apart (hrow s 0) h bits ks L) (k : ByteArray) : k ∈ flows s h bits L ↔ Came L k := by
  obtain ⟨h1, h2, h3, h4, h5⟩ := fedS_facts (fs := hrow s 0) (h := h) hn L
  exact ⟨h2 k, fun ⟨b, hb⟩ => h4 (hA.fed hn L hks) _ hb⟩
/-- The rest of each switch is what came there, less what was told of it. -/
structure JInv (s h : Int) (bits rows cols : Nat) (Ls : List (List Pkt)) (L : List Sw) : Prop where
  len : L.length = Ls.length
  enc : ∀ j (h1 : j < L.length) (h2 : j < Ls.length), ∃ K', L[j].1 = encRad s h bits rows cols K' Ls[j] ∧ (flows s h bits Ls[j]).Perm (L[j].2 ++ K')
theorem jinv_step {s h : Int} {bits rows cols : Nat} (hn : 1 ≤ bits) {Ls : List (List Pkt)} {L : List Sw} {ks : List ByteArray} (hks : ∀ l ∈ Ls, ∀ x ∈ l, x.1 ∈ ks) (h37 : ∀ k ∈ ks, k.size = 37) (hA : ∀ l ∈ Ls, Apart (hrow s 0) h bits ks l) (hJ : JInv s h bits rows cols Ls L) {i : Nat} {key : ByteArray} (hf : jfind L = some (i, key)) : JInv s h bits rows cols Ls (L.mapIdx (jtake i key)) := by
  obtain ⟨hi, hp, _⟩ := jfind_some hf
  have hsub : ∀ j (h2 : j < Ls.length), ∀ k ∈ flows s h bits Ls[j], k ∈ ks := fun j h2 k hk => by
    have hm := List.getElem_mem h2
    obtain ⟨b, hb⟩ := (flows_mem hn (hks _ hm) (hA _ hm) k).1 hk
    exact hks _ hm _ hb
  have hi2 : i < Ls.length := by rw [← hJ.len]; exact hi
  obtain ⟨Ki, e1, e2⟩ := hJ.enc i hi hi2
  have hKi : ∀ k ∈ Ki, k ∈ flows s h bits Ls[i] := fun k hk => e2.mem_iff.2 (List.mem_append_right _ hk)
  rw [e1] at hp
  have hkey := pure_enc (fun k hk => h37 k (hsub i hi2 k (hKi k hk))) hp
  have hkks := hsub i hi2 _ (hKi _ hkey)
  refine ⟨by simp [hJ.len], fun j h1 h2 => ?_⟩
  have h1' : j < L.length := by simpa using h1
  obtain ⟨K', g1, g2⟩ := hJ.enc j h1' h2
  rw [List.getElem_mapIdx]
  unfold jtake
  have take : key ∈ K' → ∃ K'', remR L[j].1 key = encRad s h bits rows cols K'' Ls[j] ∧ (flows s h bits Ls[j]).Perm ((L[j].2 ++ [key]) ++ K'') := fun hk => by
    have hpe : K'.Perm (key :: K'.erase key) := List.perm_cons_erase hk
    refine ⟨K'.erase key, by rw [g1, encRad_rem hpe], g2.trans ?_⟩
    rw [List.append_assoc]
    exact (List.Perm.refl _).append hpe
  by_cases hji : j = i
  · subst hji
    rw [if_pos (by simp [jHit])]
    refine take ?_
    have : K' = Ki ∨ key ∈ K' := by
      right
      have h3 : encRad s h bits rows cols K' Ls[j] = encRad s h bits rows cols Ki Ls[j] := by rw [← g1, ← e1]
      have hp' := hp
      rw [← h3] at hp'
      exact pure_enc (fun k hk => h37 k (hsub j hi2 k (g2.mem_iff.2 (List.mem_append_right _ hk)))) hp'
    rcases this with e | e
    · rw [e]; exact hkey
    · exact e
  · have hm := List.getElem_mem h2
    have hbits : hasB L[j].1.fs L[j].1.h L[j].1.bits key = hasB (hrow s 0) h (bitsOf (hrow s 0) h bits Ls[j]) key := by rw [g1]; rfl
    by_cases hh : jHit i key j L[j] = true
    · rw [if_pos hh]
      refine take ?_
      unfold jHit at hh
      rw [decide_eq_false hji, Bool.false_or, Bool.and_eq_true, Bool.not_eq_true'] at hh
      rw [hbits] at hh
      have hc := (flows_mem hn (hks _ hm) (hA _ hm) key).2 (((hA _ hm).iff hn hkks).1 hh.2)
      rcases List.mem_append.1 (g2.mem_iff.1 hc) with ht | ht
      · have := List.any_eq_false.1 hh.1 key ht
        exact absurd (sEq_iff.2 rfl) this
      · exact ht
    · rw [if_neg hh]
      exact ⟨K', g1, g2⟩
theorem jinv_all {s h : Int} {bits rows cols : Nat} (hn : 1 ≤ bits) {Ls : List (List Pkt)} {ks : List ByteArray} (hks : ∀ l ∈ Ls, ∀ x ∈ l, x.1 ∈ ks) (h37 : ∀ k ∈ ks, k.size = 37) (hA : ∀ l ∈ Ls, Apart (hrow s 0) h bits ks l) : ∀ (n : Nat) {L : List Sw}, JInv s h bits rows cols Ls L → JInv s h bits rows cols Ls (jall n L)
  | 0, _, hJ => hJ
  | n + 1, L, hJ => by
    cases hf : jfind L with
    | none => rw [jall_none hf]; exact hJ
    | some r => rw [jall_some hf]; exact jinv_all hn hks h37 hA n (jinv_step hn hks h37 hA hJ hf)
/-- Of a switch that is left empty all flows are told. -/
theorem jinv_end {s h : Int} {bits rows cols : Nat} (hd : Dim h bits rows cols) {Ls : List (List Pkt)} {L : List Sw} (hJ : JInv s h bits rows cols Ls L) {j : Nat} (h1 : j < L.length) (h2 : j < Ls.length) (he : (L[j].1.rows.any (·.any fullC)) = false) : ssort L[j].2 = ssort (flows s h bits Ls[j]) := by
  obtain ⟨K', g1, g2⟩ := hJ.enc j h1 h2
  have hK : K' = [] := by
    apply Classical.byContradiction
    intro hne
    have := enc_full (s := s) (L := Ls[j]) hd hne
    rw [← g1, he] at this
    cases this
  rw [hK, List.append_nil] at g2
  exact srt_eq (ssort_srt _) (ssort_srt _) (((ssort_perm _).trans g2.symm).trans (ssort_perm _).symm)
end Go.Proofs.YtmgnmnogiajlgaaGreatF
end

section
/- Powers modulo a prime, and that 2^61 - 1 is one (no program here). -/
namespace Go.Proofs.Vm.Fld

def Prm (q : Nat) : Prop := 2 ≤ q ∧ ∀ d, d ∣ q → d = 1 ∨ d = q
theorem Prm.cop {q a : Nat} (h : Prm q) (ha : ¬ q ∣ a) : Nat.Coprime q a := by
  have hd := h.2 (Nat.gcd q a) (Nat.gcd_dvd_left q a)
  rcases hd with e | e
  · exact e
  · exact absurd (e ▸ Nat.gcd_dvd_right q a) ha
theorem Prm.dvd_mul {q a b : Nat} (h : Prm q) (hd : q ∣ a * b) : q ∣ a ∨ q ∣ b := by
  by_cases ha : q ∣ a
  · exact .inl ha
  · exact .inr ((h.cop ha).dvd_of_dvd_mul_left hd)
theorem prm_div : ∀ (n : Nat), 2 ≤ n → ∃ q, Prm q ∧ q ∣ n := fun n => by
  induction n using Nat.strongRecOn with
  | ind n ih =>
    intro hn
    by_cases h : ∃ d, d ∣ n ∧ d ≠ 1 ∧ d ≠ n
    · obtain ⟨d, h1, h2, h3⟩ := h
      have hle := Nat.le_of_dvd (by omega) h1
      have h0 : d ≠ 0 := fun e => by subst e; have := Nat.eq_zero_of_zero_dvd h1; omega
      obtain ⟨q, hq, hd⟩ := ih d (by omega) (by omega)
      exact ⟨q, hq, Nat.dvd_trans hd h1⟩
    · refine ⟨n, ⟨hn, fun d hd => ?_⟩, Nat.dvd_refl n⟩
      by_cases e : d = 1
      · exact .inl e
      · by_cases e' : d = n
        · exact .inr e'
        · exact absurd ⟨d, hd, e, e'⟩ h

/- Lists of numbers, and their products. -/
def prd (l : List Nat) : Nat := l.foldr (· * ·) 1
theorem prd_perm {l m : List Nat} (h : l.Perm m) : prd l = prd m := by
  induction h with
  | nil => rfl
  | cons x _ ih => show x * prd _ = x * prd _; rw [ih]
  | swap x y l => show y * (x * prd l) = x * (y * prd l); rw [Nat.mul_left_comm]
  | trans _ _ h1 h2 => exact h1.trans h2
theorem perm_of_nodup : ∀ {l m : List Nat}, l.Nodup → (∀ x ∈ l, x ∈ m) → m.length ≤ l.length → l.Perm m
  | [], m, _, _, hl => by
    rw [List.length_nil] at hl
    have : m = [] := List.eq_nil_of_length_eq_zero (by omega)
    rw [this]
  | x :: l, m, hn, hm, hl => by
    have hx := hm x List.mem_cons_self
    have hn' := List.nodup_cons.1 hn
    have hp := List.perm_cons_erase hx
    have h1 : l.Perm (m.erase x) := by
      refine perm_of_nodup hn'.2 (fun y hy => ?_) ?_
      · have := hp.mem_iff.1 (hm y (List.mem_cons_of_mem _ hy))
        rcases List.mem_cons.1 this with e | e
        · subst e; exact absurd hy hn'.1
        · exact e
      · have := hp.length_eq
        rw [List.length_cons] at this hl
        omega
    exact (h1.cons x).trans hp.symm
theorem mod_mul_mod {a b q : Nat} : a % q * (b % q) % q = a * b % q := (Nat.mul_mod a b q).symm
theorem prd_map (a q : Nat) : ∀ l : List Nat, prd (l.map fun i => a * i % q) % q = a ^ l.length * prd l % q
  | [] => by simp [prd]
  | x :: l => by
    show a * x % q * prd (l.map _) % q = a ^ (l.length + 1) * (x * prd l) % q
    rw [Nat.mul_mod, Nat.mod_mod, prd_map a q l, ← Nat.mul_mod]
    congr 1
    rw [Nat.pow_succ]
    ac_rfl
theorem prd_cop {q : Nat} (h : Prm q) : ∀ {l : List Nat}, (∀ x ∈ l, ¬ q ∣ x) → ¬ q ∣ prd l
  | [], _ => fun hd => by have := Nat.le_of_dvd (by decide) (show q ∣ 1 from hd); have := h.1; omega
  | x :: l, hl => fun hd => by
    rcases h.dvd_mul (show q ∣ x * prd l from hd) with e | e
    · exact hl x List.mem_cons_self e
    · exact prd_cop h (fun y hy => hl y (List.mem_cons_of_mem _ hy)) e
theorem dvd_of_mod_eq {q a b : Nat} (h : a % q = b % q) : q ∣ b - a := by
  have h1 := Nat.div_add_mod a q
  have h2 := Nat.div_add_mod b q
  refine ⟨b / q - a / q, ?_⟩
  rw [Nat.mul_sub]
  omega
theorem fermat {q a : Nat} (h : Prm q) (ha : ¬ q ∣ a) : a ^ (q - 1) % q = 1 := by
  have h2 := h.1
  let L := List.range' 1 (q - 1)
  have hL : ∀ x, x ∈ L ↔ 1 ≤ x ∧ x < q := fun x => by
    simp only [L, List.mem_range'_1]; omega
  have hdv : ∀ x, x ∈ L → ¬ q ∣ x := fun x hx hd => by
    have := (hL x).1 hx
    have := Nat.le_of_dvd (by omega) hd
    omega
  have hinj : ∀ x y, x ∈ L → y ∈ L → x ≤ y → a * x % q = a * y % q → x = y := fun x y hx hy hle e => by
    have hd := dvd_of_mod_eq e
    rw [← Nat.mul_sub] at hd
    rcases h.dvd_mul hd with e | e
    · exact absurd e ha
    · have := (hL y).1 hy
      by_cases c : y - x = 0
      · omega
      · have := Nat.le_of_dvd (by omega) e
        omega
  have hnd : (L.map fun i => a * i % q).Nodup := by
    rw [List.nodup_iff_pairwise_ne, List.pairwise_map]
    have hln : L.Nodup := List.nodup_range'
    rw [List.nodup_iff_pairwise_ne] at hln
    refine List.Pairwise.imp_of_mem ?_ hln
    intro x y hx hy hne e
    rcases Nat.le_total x y with hle | hle
    · exact hne (hinj x y hx hy hle e)
    · exact hne (hinj y x hy hx hle e.symm).symm
  have hp : (L.map fun i => a * i % q).Perm L := by
    refine perm_of_nodup hnd (fun x hx => ?_) (by simp)
    obtain ⟨i, hi, rfl⟩ := List.mem_map.1 hx
    rw [hL]
    refine ⟨?_, Nat.mod_lt _ (by omega)⟩
    have : a * i % q ≠ 0 := fun e => by
      rcases h.dvd_mul (Nat.dvd_of_mod_eq_zero e) with e | e
      · exact ha e
      · exact hdv i hi e
    omega
  have h1 := prd_map a q L
  rw [prd_perm hp] at h1
  have hlen : L.length = q - 1 := by simp [L]
  rw [hlen] at h1
  have hc : ¬ q ∣ prd L := prd_cop h hdv
  obtain ⟨k, hk⟩ : ∃ k, a ^ (q - 1) = k := ⟨_, rfl⟩
  rw [hk] at h1 ⊢
  have hk0 : 1 ≤ k := by
    rcases Nat.eq_zero_or_pos k with e | e
    · rw [e, Nat.zero_mul, Nat.zero_mod] at h1
      exact absurd (Nat.dvd_of_mod_eq_zero h1) hc
    · exact e
  have hd := dvd_of_mod_eq h1
  have e1 : k * prd L - prd L = (k - 1) * prd L := by rw [Nat.sub_mul, Nat.one_mul]
  rw [e1] at hd
  rcases h.dvd_mul hd with e | e
  · obtain ⟨c, hc⟩ := e
    have : k = q * c + 1 := by omega
    rw [this, Nat.mul_add_mod, Nat.mod_eq_of_lt h2]
  · exact absurd e hc

/- Powers that are 1. -/
theorem pow_mod' (a n q : Nat) : (a % q) ^ n % q = a ^ n % q := (Nat.pow_mod a n q).symm
theorem one_pow_mod {a m q : Nat} (h2 : 2 ≤ q) (h : a ^ m % q = 1) (k : Nat) : a ^ (m * k) % q = 1 := by
  rw [Nat.pow_mul, ← pow_mod', h, Nat.one_pow, Nat.mod_eq_of_lt h2]
theorem pow_gcd {a q : Nat} (h2 : 2 ≤ q) (m n : Nat) : a ^ m % q = 1 → a ^ n % q = 1 → a ^ (Nat.gcd m n) % q = 1 := by
  induction m, n using Nat.gcd.induction with
  | H0 n => intro _ h; rw [Nat.gcd_zero_left]; exact h
  | H1 m n hm ih =>
    intro h h'
    rw [Nat.gcd_rec]
    refine ih ?_ h
    have e := Nat.div_add_mod n m
    rw [← e, Nat.pow_add, Nat.mul_mod, one_pow_mod h2 h, Nat.one_mul, Nat.mod_mod] at h'
    exact h'
/-- Each prime divisor of one to whose power a number is 1, though not to this part of it, is 1 modulo a prime. -/
theorem pock {p r b q : Nat} (hr : Prm r) (hq : Prm q) (hqp : q ∣ p) (h1 : b ^ r % p = 1) (hg : Nat.gcd (b - 1) p = 1) (hb : 1 ≤ b) : r ∣ q - 1 := by
  have h2 := hq.1
  have e1 : b ^ r % q = 1 := by
    have : b ^ r % p % q = b ^ r % q := Nat.mod_mod_of_dvd _ hqp
    rw [h1, Nat.mod_eq_of_lt h2] at this
    exact this.symm
  have hqb : ¬ q ∣ b := fun hd => by
    have : b ^ r % q = 0 := by
      obtain ⟨s, hs⟩ : ∃ s, r = s + 1 := ⟨r - 1, by have := hr.1; omega⟩
      rw [hs, Nat.pow_succ, Nat.mul_mod, Nat.mod_eq_zero_of_dvd hd, Nat.mul_zero, Nat.zero_mod]
    omega
  have e2 := fermat hq hqb
  have e3 := pow_gcd h2 r (q - 1) e1 e2
  rcases hr.2 _ (Nat.gcd_dvd_left r (q - 1)) with e | e
  · rw [e, Nat.pow_one] at e3
    have hd : q ∣ b - 1 := by
      obtain ⟨c, hc⟩ : ∃ c, b = q * c + 1 := ⟨b / q, by have := Nat.div_add_mod b q; omega⟩
      exact ⟨c, by omega⟩
    have : q ∣ 1 := hg ▸ Nat.dvd_gcd hd hqp
    have := Nat.le_of_dvd (by decide) this
    omega
  · exact e ▸ Nat.gcd_dvd_right r (q - 1)

/- Powers by squares: for the kernel. -/
def pw (q : Nat) : Nat → Nat → Nat → Nat → Nat
  | 0, _, _, out => out
  | f + 1, a, n, out => pw q f (a * a % q) (n / 2) (if n % 2 = 1 then out * a % q else out)
theorem pw_eq (q : Nat) : ∀ (f a n out : Nat), n < 2 ^ f → out < q → pw q f a n out % q = out * a ^ n % q
  | 0, a, n, out, h, _ => by
    have : n = 0 := by simpa using h
    subst this
    simp [pw]
  | f + 1, a, n, out, h, ho => by
    have hn : n / 2 < 2 ^ f := by rw [Nat.pow_succ] at h; omega
    have hq : 0 < q := by omega
    unfold pw
    have ho' : (if n % 2 = 1 then out * a % q else out) < q := by
      by_cases c : n % 2 = 1
      · rw [if_pos c]; exact Nat.mod_lt _ hq
      · rw [if_neg c]; exact ho
    rw [pw_eq q f _ _ _ hn ho']
    have e : a ^ n = (a * a) ^ (n / 2) * a ^ (n % 2) := by
      rw [← Nat.pow_two, ← Nat.pow_mul, ← Nat.pow_add, Nat.div_add_mod]
    rw [Nat.mul_mod, pow_mod', e]
    by_cases c : n % 2 = 1
    · rw [if_pos c, c, Nat.pow_one, Nat.mod_mod, ← Nat.mul_mod]
      congr 1
      ac_rfl
    · rw [if_neg c, show n % 2 = 0 by omega, Nat.pow_zero, Nat.mul_one, ← Nat.mul_mod]
theorem pw_one {q a n : Nat} (f : Nat) (h2 : 2 ≤ q) (h : n < 2 ^ f) {v : Nat} (hv : pw q f a n 1 = v) (hlt : v < q) : a ^ n % q = v := by
  have := pw_eq q f a n 1 h (by omega)
  rw [hv, Nat.one_mul, Nat.mod_eq_of_lt hlt] at this
  exact this.symm
def P61 : Nat := 2305843009213693951
theorem prm_of {r : Nat} (h2 : 2 ≤ r) (h : ((List.range r).all fun d => decide (d < 2) || decide (r % d ≠ 0)) = true) : Prm r := by
  refine ⟨h2, fun d hd => ?_⟩
  have hle := Nat.le_of_dvd (by omega) hd
  by_cases c : d = r
  · exact .inr c
  · have := List.all_eq_true.1 h d (List.mem_range.2 (by omega))
    simp only [Bool.or_eq_true, decide_eq_true_eq] at this
    rcases this with e | e
    · have h0 : d ≠ 0 := fun e => by subst e; have := Nat.eq_zero_of_zero_dvd hd; omega
      exact .inl (by omega)
    · exact absurd (Nat.mod_eq_zero_of_dvd hd) e
theorem cop_mul {a b n : Nat} (ha : a ∣ n) (hb : b ∣ n) (h : Nat.gcd a b = 1) : a * b ∣ n := Nat.Coprime.mul_dvd_of_dvd_of_dvd h ha hb
theorem pock61 {r b q : Nat} (hr : Prm r) (hq : Prm q) (hd : q ∣ P61) (hl : r < 2 ^ 61) (e : pw P61 61 b r 1 = 1) (hg : Nat.gcd (b - 1) P61 = 1) (hb : 1 ≤ b) : r ∣ q - 1 := by
  have h2 : 2 ≤ P61 := by decide
  have h3 : 1 < P61 := by decide
  generalize P61 = p at *
  exact pock hr hq hd (pw_one 61 h2 hl e h3) hg hb
theorem prm61 : Prm P61 := by
  have key : ∀ q, Prm q → q ∣ P61 → 4027518962 ≤ q := fun q hq hd => by
    have d1 : 61 ∣ q - 1 := pock61 (b := pw P61 61 3 ((P61 - 1) / 61) 1) (prm_of (by decide) (by decide +kernel)) hq hd (by decide) (by decide +kernel) (by decide +kernel) (by decide +kernel)
    have d2 : 151 ∣ q - 1 := pock61 (b := pw P61 61 3 ((P61 - 1) / 151) 1) (prm_of (by decide) (by decide +kernel)) hq hd (by decide) (by decide +kernel) (by decide +kernel) (by decide +kernel)
    have d3 : 331 ∣ q - 1 := pock61 (b := pw P61 61 3 ((P61 - 1) / 331) 1) (prm_of (by decide) (by decide +kernel)) hq hd (by decide) (by decide +kernel) (by decide +kernel) (by decide +kernel)
    have d4 : 1321 ∣ q - 1 := pock61 (b := pw P61 61 3 ((P61 - 1) / 1321) 1) (prm_of (by decide) (by decide +kernel)) hq hd (by decide) (by decide +kernel) (by decide +kernel) (by decide +kernel)
    have d5 := cop_mul (cop_mul (cop_mul d1 d2 (by decide +kernel)) d3 (by decide +kernel)) d4 (by decide +kernel)
    have h2 := hq.1
    clear d1 d2 d3 d4 hd hq
    have h3 := Nat.le_of_dvd (by omega) d5
    clear d5
    omega
  refine ⟨by decide, fun d hd => ?_⟩
  by_cases h1 : d = 1
  · exact .inl h1
  by_cases hp : d = P61
  · exact .inr hp
  exfalso
  obtain ⟨m, hm⟩ := hd
  have hd0 : d ≠ 0 := fun e => by subst e; rw [Nat.zero_mul] at hm; exact absurd hm (by decide)
  have hm1 : m ≠ 1 := fun e => by subst e; rw [Nat.mul_one] at hm; exact hp hm.symm
  have hm0 : m ≠ 0 := fun e => by subst e; rw [Nat.mul_zero] at hm; exact absurd hm (by decide)
  obtain ⟨q, hq, hqd⟩ := prm_div d (by omega)
  obtain ⟨r, hr, hrm⟩ := prm_div m (by omega)
  have k1 := key q hq (Nat.dvd_trans hqd ⟨m, hm⟩)
  have k2 := key r hr (Nat.dvd_trans hrm ⟨d, by rw [Nat.mul_comm]; exact hm⟩)
  have l1 := Nat.le_of_dvd (by omega) hqd
  have l2 := Nat.le_of_dvd (by omega) hrm
  have : 4027518962 * 4027518962 ≤ d * m := Nat.mul_le_mul (by omega) (by omega)
  rw [← hm] at this
  exact absurd this (by decide)
/-- The inverse by a power. -/
theorem inv61 {a : Nat} (h : a % P61 ≠ 0) : a * a ^ (P61 - 2) % P61 = 1 := by
  have hd : ¬ P61 ∣ a := fun hd => h (Nat.mod_eq_zero_of_dvd hd)
  have := fermat prm61 hd
  rw [show P61 - 1 = (P61 - 2) + 1 by decide, Nat.pow_succ, Nat.mul_comm] at this
  exact this
end Go.Proofs.Vm.Fld
end

section
/- Equations modulo a number in which what is not nought has an inverse: brought into steps (no program here). -/
namespace Go.Proofs.Vm.Fld

def dot : List Int → List Int → Int
  | a :: r, b :: y => a * b + dot r y
  | _, _ => 0
theorem dot_nil (y : List Int) : dot [] y = 0 := by cases y <;> rfl
theorem dot_nil' (r : List Int) : dot r [] = 0 := by cases r <;> rfl
def Ann (p : Int) (m : List (List Int)) (y : List Int) : Prop := ∀ r ∈ m, p ∣ dot r y
def scl (p v : Int) (r : List Int) : List Int := r.map fun x => x * v % p
def elm (p f : Int) (b r : List Int) : List Int := r.zipWith (fun x y => (x - f * y % p) % p) b
theorem dvd_emod (p a : Int) : p ∣ a % p - a := by
  have := Int.emod_add_mul_ediv a p
  exact ⟨-(a / p), by rw [Int.mul_neg]; omega⟩
theorem dot_scl (p v : Int) : ∀ (r y : List Int), p ∣ dot (scl p v r) y - v * dot r y
  | [], y => by simp [scl, dot_nil]
  | a :: r, [] => by simp [dot_nil']
  | a :: r, b :: y => by
    obtain ⟨k1, h1⟩ := dot_scl p v r y
    obtain ⟨k2, h2⟩ := dvd_emod p (a * v)
    have e : dot (scl p v (a :: r)) (b :: y) = (a * v % p) * b + dot (scl p v r) y := rfl
    have e2 : dot (a :: r) (b :: y) = a * b + dot r y := rfl
    have h3 : a * v % p = p * k2 + a * v := by omega
    have e5 : a * v * b = v * (a * b) := by rw [Int.mul_comm a v, Int.mul_assoc]
    refine ⟨k2 * b + k1, ?_⟩
    rw [e, e2, h3, Int.mul_add p, ← h1, Int.mul_add v, Int.add_mul, e5, Int.mul_assoc p]
    omega
theorem elm_cons (p f x y : Int) (b r : List Int) : elm p f (y :: b) (x :: r) = (x - f * y % p) % p :: elm p f b r := rfl
theorem dot_elm (p f : Int) : ∀ (b r y : List Int), r.length = b.length → p ∣ dot (elm p f b r) y - (dot r y - f * dot b y)
  | [], [], y, _ => by simp [elm, dot_nil]
  | [], _ :: _, _, h => by simp at h
  | _ :: _, [], _, h => by simp at h
  | u :: b, x :: r, [], _ => by simp [dot_nil']
  | u :: b, x :: r, z :: y, h => by
    obtain ⟨k1, h1⟩ := dot_elm p f b r y (by simpa using h)
    obtain ⟨k2, h2⟩ := dvd_emod p (x - f * u % p)
    obtain ⟨k3, h3⟩ := dvd_emod p (f * u)
    have e : dot (elm p f (u :: b) (x :: r)) (z :: y) = ((x - f * u % p) % p) * z + dot (elm p f b r) y := rfl
    have e2 : dot (x :: r) (z :: y) = x * z + dot r y := rfl
    have e3 : dot (u :: b) (z :: y) = u * z + dot b y := rfl
    have h4 : (x - f * u % p) % p = p * k2 + (x - (p * k3 + f * u)) := by omega
    refine ⟨k2 * z - k3 * z + k1, ?_⟩
    rw [e, e2, e3, h4, Int.mul_add, Int.mul_add, Int.mul_sub, ← h1]
    simp only [Int.add_mul, Int.sub_mul, Int.mul_assoc]
    omega
def row (m : List (List Int)) (r : Nat) : List Int := m.getD r []
def at0 (r : List Int) (j : Nat) : Int := r.getD j 0
theorem row_mem {m : List (List Int)} {r : Nat} (h : r < m.length) : row m r ∈ m := by
  unfold row
  rw [List.getD_eq_getElem?_getD, List.getElem?_eq_getElem h]
  exact List.getElem_mem h
theorem row_eq {m : List (List Int)} {r : Nat} (h : r < m.length) : row m r = m[r] := by
  unfold row
  rw [List.getD_eq_getElem?_getD, List.getElem?_eq_getElem h]
  rfl
theorem mem_row {m : List (List Int)} {x : List Int} (h : x ∈ m) : ∃ r, r < m.length ∧ row m r = x := by
  obtain ⟨r, hr, rfl⟩ := List.getElem_of_mem h
  exact ⟨r, hr, row_eq hr⟩
theorem scl_at (p v : Int) (r : List Int) (j : Nat) : at0 (scl p v r) j = at0 r j * v % p := by
  unfold at0 scl
  rw [List.getD_eq_getElem?_getD, List.getD_eq_getElem?_getD, List.getElem?_map]
  cases r[j]? <;> simp
theorem elm_at (p f : Int) {b r : List Int} (h : r.length = b.length) (j : Nat) : at0 (elm p f b r) j = (at0 r j - f * at0 b j % p) % p := by
  unfold at0 elm
  rw [List.getD_eq_getElem?_getD, List.getD_eq_getElem?_getD, List.getD_eq_getElem?_getD, List.getElem?_zipWith]
  by_cases hj : j < r.length
  · rw [List.getElem?_eq_getElem hj, List.getElem?_eq_getElem (show j < b.length by omega)]
    rfl
  · rw [List.getElem?_eq_none (by omega), List.getElem?_eq_none (show b.length ≤ j by omega)]
    simp
theorem scl_len (p v : Int) (r : List Int) : (scl p v r).length = r.length := by simp [scl]
theorem elm_len (p f : Int) {b r : List Int} (h : r.length = b.length) : (elm p f b r).length = r.length := by simp [elm, h]
/-- Two rows change places. -/
def swp (m : List (List Int)) (i j : Nat) : List (List Int) := (m.set i (row m j)).set j (row m i)
theorem swp_len (m : List (List Int)) (i j : Nat) : (swp m i j).length = m.length := by simp [swp]
theorem swp_row {m : List (List Int)} {i j : Nat} (hi : i < m.length) (hj : j < m.length) (r : Nat) : row (swp m i j) r = if r = j then row m i else if r = i then row m j else row m r := by
  unfold row swp row
  simp only [List.getD_eq_getElem?_getD, List.getElem?_set, List.length_set]
  by_cases h1 : j = r
  · subst h1; simp [hj]
  · have h1' : ¬ r = j := fun e => h1 e.symm
    by_cases h2 : i = r
    · subst h2; simp [h1, h1', hi]
    · have h2' : ¬ r = i := fun e => h2 e.symm
      simp [h1, h1', h2, h2']
theorem swp_mem {m : List (List Int)} {i j : Nat} (hi : i < m.length) (hj : j < m.length) (x : List Int) : x ∈ swp m i j ↔ x ∈ m := by
  constructor
  · intro h
    obtain ⟨r, hr, rfl⟩ := mem_row h
    rw [swp_len] at hr
    rw [swp_row hi hj]
    split
    · exact row_mem hi
    · split
      · exact row_mem hj
      · exact row_mem hr
  · intro h
    obtain ⟨r, hr, rfl⟩ := mem_row h
    have key : ∀ t, t < m.length → row (swp m i j) t = row m r → row m r ∈ swp m i j := fun t ht e => e ▸ row_mem (by rw [swp_len]; exact ht)
    by_cases h1 : r = i
    · subst h1; exact key j hj (by rw [swp_row hi hj, if_pos rfl])
    · by_cases h2 : r = j
      · subst h2
        refine key i hi ?_
        rw [swp_row hi hj, if_neg (fun e => h1 e.symm), if_pos rfl]
      · exact key r hr (by rw [swp_row hi hj, if_neg h2, if_neg h1])
/-- A step: the row q comes to the place k, its number in the column c becomes 1, and 0 in all other rows. -/
def bas (p : Int) (inv : Int → Int) (m : List (List Int)) (_k q c : Nat) : List Int := scl p (inv (at0 (row m q) c)) (row m q)
def elims (p : Int) (b : List Int) (m : List (List Int)) (k c : Nat) : List (List Int) := (m.set k b).mapIdx fun r x => if r = k then x else elm p (at0 x c) b x
def stp (p : Int) (inv : Int → Int) (m : List (List Int)) (k q c : Nat) : List (List Int) := elims p (bas p inv m k q c) (swp m k q) k c
theorem elims_len (p : Int) (b : List Int) (m : List (List Int)) (k c : Nat) : (elims p b m k c).length = m.length := by simp [elims]
theorem stp_len (p : Int) (inv : Int → Int) (m : List (List Int)) (k q c : Nat) : (stp p inv m k q c).length = m.length := by rw [stp, elims_len, swp_len]
theorem elims_row {p : Int} {b : List Int} {m : List (List Int)} {k c r : Nat} (hr : r < m.length) : row (elims p b m k c) r = if r = k then b else elm p (at0 (row m r) c) b (row m r) := by
  rw [row_eq (by rw [elims_len]; exact hr), row_eq hr]
  simp only [elims, List.getElem_mapIdx, List.getElem_set]
  by_cases h : k = r
  · subst h; simp
  · have h' : ¬ r = k := fun e => h e.symm
    simp [h, h']
theorem elims_ann {p : Int} {b : List Int} {m : List (List Int)} {k c w : Nat} (hk : k < m.length) (hb : b.length = w) (hw : ∀ r ∈ m, r.length = w) (y : List Int) (hby : p ∣ dot b y ↔ p ∣ dot (row m k) y) : Ann p (elims p b m k c) y ↔ Ann p m y := by
  have key : ∀ r, r < m.length → r ≠ k → p ∣ dot b y → (p ∣ dot (row (elims p b m k c) r) y ↔ p ∣ dot (row m r) y) := fun r hr hrk hb0 => by
    rw [elims_row hr, if_neg hrk]
    obtain ⟨t, ht⟩ := dot_elm p (at0 (row m r) c) b (row m r) y (by rw [hw _ (row_mem hr), hb])
    obtain ⟨s, hs⟩ := hb0
    constructor
    · rintro ⟨u, hu⟩
      refine ⟨u - t + at0 (row m r) c * s, ?_⟩
      rw [hu, hs] at ht
      rw [Int.mul_add, Int.mul_sub, ← ht, Int.mul_left_comm]
      omega
    · rintro ⟨u, hu⟩
      refine ⟨t + u - at0 (row m r) c * s, ?_⟩
      rw [hu, hs] at ht
      rw [Int.mul_sub, Int.mul_add, ← ht, Int.mul_left_comm p]
      omega
  have hkk : row (elims p b m k c) k = b := by rw [elims_row hk, if_pos rfl]
  constructor
  · intro h x hx
    obtain ⟨r, hr, rfl⟩ := mem_row hx
    have h0 : p ∣ dot b y := by rw [← hkk]; exact h _ (row_mem (by rw [elims_len]; exact hk))
    by_cases hrk : r = k
    · subst hrk; exact hby.1 h0
    · exact (key r hr hrk h0).1 (h _ (row_mem (by rw [elims_len]; exact hr)))
  · intro h x hx
    obtain ⟨r, hr, rfl⟩ := mem_row hx
    rw [elims_len] at hr
    have h0 : p ∣ dot b y := hby.2 (h _ (row_mem hk))
    by_cases hrk : r = k
    · subst hrk; rw [hkk]; exact h0
    · exact (key r hr hrk h0).2 (h _ (row_mem hr))
/-- Inverses. -/
def Inv (p : Int) (inv : Int → Int) : Prop := 1 < p ∧ ∀ a, 0 ≤ a → a < p → a ≠ 0 → a * inv a % p = 1
theorem dvd_scale {p v u : Int} (h : v * u % p = 1) (_hp : 1 < p) {d e : Int} (he : p ∣ e - u * d) : p ∣ e ↔ p ∣ d := by
  obtain ⟨k, hk⟩ := he
  constructor
  · rintro ⟨s, hs⟩
    -- d = (v u) d - p .. : v u = 1 + p t
    have ht : v * u = p * (v * u / p) + 1 := by have := Int.emod_add_mul_ediv (v * u) p; omega
    refine ⟨v * (s - k) - v * u / p * d, ?_⟩
    have h1 : u * d = p * s - p * k := by omega
    have h2 : v * (u * d) = (p * (v * u / p) + 1) * d := by rw [← ht, Int.mul_assoc]
    rw [h1] at h2
    rw [Int.mul_sub, Int.mul_sub]
    rw [Int.add_mul, Int.one_mul, Int.mul_sub, Int.mul_assoc] at h2
    rw [Int.mul_left_comm v p s, Int.mul_left_comm v p k] at h2
    rw [Int.mul_sub]
    omega
  · rintro ⟨s, hs⟩
    refine ⟨k + u * s, ?_⟩
    rw [Int.mul_add, ← hk, hs, Int.mul_left_comm]
    omega
theorem stp_ann {p : Int} {inv : Int → Int} (hI : Inv p inv) {m : List (List Int)} {k q c w : Nat} (hk : k < m.length) (hq : q < m.length) (hw : ∀ r ∈ m, r.length = w) (h0 : 0 ≤ at0 (row m q) c) (h1 : at0 (row m q) c < p) (hn : at0 (row m q) c ≠ 0) (y : List Int) : Ann p (stp p inv m k q c) y ↔ Ann p m y := by
  unfold stp
  have hrk : row (swp m k q) k = row m q := by
    rw [swp_row hk hq]
    by_cases e : k = q
    · rw [if_pos e, e]
    · rw [if_neg e, if_pos rfl]
  have hb : p ∣ dot (bas p inv m k q c) y ↔ p ∣ dot (row (swp m k q) k) y := by
    rw [hrk]
    exact dvd_scale (hI.2 _ h0 h1 hn) hI.1 (dot_scl p _ _ y)
  rw [elims_ann (w := w) (by rw [swp_len]; exact hk) (by rw [bas, scl_len]; exact hw _ (row_mem hq)) (fun r hr => hw r ((swp_mem hk hq r).1 hr)) y hb]
  unfold Ann
  simp only [swp_mem hk hq]
end Go.Proofs.Vm.Fld
end
