/- Steps shared by the proofs of this seat's statements (part 3). -/
import Derived.Test.YtmgnmnogiajlgaaK2
import Derived.Sort.Walk0
section
/- A radar's cells changed, one in each row: a flow that goes, a packet that comes. -/
set_option maxRecDepth 8192
set_option maxHeartbeats 1000000
namespace Go.Proofs.YtmgnmnogiajlgaaF
open Go Go.Proofs.Vm

/-- A row with the key's cell changed. -/
def updR (f : RCl → RCl) (s : Int) (key : ByteArray) (j : Int) (r : List RCl) : List RCl := r.modify (hcell (hrow s (j + 1)) key (r.length : Int)).toNat f
theorem updR_len (f : RCl → RCl) (s : Int) (key : ByteArray) (j : Int) (r : List RCl) : (updR f s key j r).length = r.length := by simp [updR]
def updTo (f : RCl → RCl) (s : Int) (key : ByteArray) (k : Nat) (rows : List (List RCl)) : List (List RCl) := rows.mapIdx fun j r => if j < k then updR f s key (j : Int) r else r
section
variable (f : RCl → RCl) (s : Int) (key : ByteArray)
theorem updTo_zero (rows : List (List RCl)) : updTo f s key 0 rows = rows := by
  apply List.ext_getElem
  · simp [updTo]
  · intro j h1 h2
    simp [updTo]
theorem updTo_len (k : Nat) (rows : List (List RCl)) : (updTo f s key k rows).length = rows.length := by simp [updTo]
theorem updTo_at (k : Nat) (rows : List (List RCl)) (h : k < (updTo f s key k rows).length) : (updTo f s key k rows)[k] = rows[k]'(by rw [updTo_len] at h; exact h) := by simp [updTo]
theorem updTo_at1 (k : Nat) (rows : List (List RCl)) (h : k < (updTo f s key (k + 1) rows).length) : (updTo f s key (k + 1) rows)[k] = updR f s key (k : Int) (rows[k]'(by rw [updTo_len] at h; exact h)) := by simp [updTo]
theorem updTo_set (k : Nat) (rows : List (List RCl)) (h : k < rows.length) : (updTo f s key k rows).set k (updR f s key (k : Int) rows[k]) = updTo f s key (k + 1) rows := by
  apply List.ext_getElem
  · simp [updTo]
  · intro j h1 h2
    rw [List.getElem_set]
    simp only [updTo, List.getElem_mapIdx]
    by_cases hj : k = j
    · subst hj; simp
    · rw [if_neg hj]
      by_cases hj2 : j < k
      · rw [if_pos hj2, if_pos (by omega)]
      · rw [if_neg hj2, if_neg (by omega)]
theorem updTo_rowlen (k : Nat) (rows : List (List RCl)) (j : Nat) (h : j < rows.length) (h2 : j < (updTo f s key k rows).length) : (updTo f s key k rows)[j].length = rows[j].length := by
  simp only [updTo, List.getElem_mapIdx]
  split
  · simp [updR]
  · rfl
def updA (rows : List (List RCl)) : List (List RCl) := updTo f s key rows.length rows

/-- The memory of a loop over the rows, behind the two boxes ahead. -/
def zH (C : Rad) (rows : List (List RCl)) (i : Nat) (L : List Ent) : List Ent :=
  .clo [] false :: .clo [] false :: .opn [oRad C 8] false :: .opn [oRad C 8] false :: .clo [] false :: .clo [] false :: .opn (clRows 4 rows rows.length) false :: (cl (updTo f s key i rows) ++ L)
theorem cl_getA (rows : List (List RCl)) (j : Nat) (h : j < rows.length) (L : List Ent) : (cl rows ++ L)[2 * j + 1]? = some (.clo (rows[j].map cCl) false) := by
  rw [List.getElem?_append_left (by rw [cl_len]; omega), cl_get, List.getElem?_eq_getElem h]; rfl
theorem cl_setA (rows : List (List RCl)) (j : Nat) (h : j < rows.length) (x : List RCl) (L : List Ent) : (cl rows ++ L).set (2 * j + 1) (.clo (x.map cCl) false) = cl (rows.set j x) ++ L := by
  rw [List.set_append_left _ _ (by rw [cl_len]; omega), cl_set]
theorem zH_app (C : Rad) (rows : List (List RCl)) (i : Nat) (L M : List Ent) : zH f s key C rows i L ++ M = zH f s key C rows i (L ++ M) := by simp [zH]
theorem zH_row (C : Rad) (rows : List (List RCl)) (i : Nat) (L : List Ent) (j : Nat) (h : j < (updTo f s key i rows).length) (X Y : Ent) : (X :: Y :: zH f s key C rows i L)[4 + (6 + 2 * j)]? = some (.clo ((updTo f s key i rows)[j].map cCl) false) := by
  show (X :: Y :: _ :: _ :: _ :: _ :: _ :: _ :: _ :: (cl (updTo f s key i rows) ++ L))[4 + (6 + 2 * j)]? = _
  rw [show 4 + (6 + 2 * j) = (2 * j + 1) + 9 by omega]
  simp only [List.getElem?_cons_succ]
  rw [cl_getA _ _ h]
theorem zH_fz (C : Rad) (rows : List (List RCl)) (i : Nat) (L : List Ent) (X Y : Ent) : fzc 5 (X :: Y :: zH f s key C rows i L) (.sl 8 0 rows.length rows.length) = some (cRws (updTo f s key i rows)) := by
  refine fz_crows (b := 4) (updTo_len ..) rfl (fun j hj hj2 => ⟨zH_row f s key C rows i L j hj2 X Y, updTo_rowlen _ _ _ _ _ _ hj hj2⟩) 3
theorem zH_set (C : Rad) (rows : List (List RCl)) (i : Nat) (L : List Ent) (c : i < rows.length) (X Y : Ent) : (X :: Y :: zH f s key C rows i L).set (4 + (6 + 2 * i)) (.clo ((updR f s key (i : Int) rows[i]).map cCl) false) = X :: Y :: zH f s key C rows (i + 1) L := by
  show (X :: Y :: _ :: _ :: _ :: _ :: _ :: _ :: _ :: (cl (updTo f s key i rows) ++ L)).set (4 + (6 + 2 * i)) _ = _
  rw [show 4 + (6 + 2 * i) = (2 * i + 1) + 9 by omega]
  simp only [List.set_cons_succ]
  rw [cl_setA _ _ (by rw [updTo_len]; exact c), updTo_set _ _ _ _ _ c]
  rfl
end

def remC (key : ByteArray) (c : RCl) : RCl := (xorK c.1 key, max (c.2.1 - 1) (-1099511627776), c.2.2.1, c.2.2.2)
theorem rd_Remove_no {R : Rad} {key : ByteArray} (hs : Seeds R) (hl : Lens R) (h : rOk R = false ∨ key.size ≠ 37) : TV.pu 42 [.agg (cRad R), cS key] = some (.agg (cRad R)) := by
  refine run42 (by simp) ?_
  have hR := rd_Right hs hl
  simp only [cRad, cRws, cRw] at hR
  by_cases c1 : rOk R = true
  · rw [c1] at hR
    have c2 : ¬ key.size = 37 := by rcases h with h | h; · rw [c1] at h; cases h
                                    · exact h
    have c2' : ¬ (key.size : Int) = 37 := by omega
    simp -implicitDefEqProofs [Try.f42, cRad, cRws, cRw, hR, c2', vstore, cellsOf?, Ent.wrO, wr, vmove, isNil]
    simp [qa]
  · have c1 : rOk R = false := by simpa using c1
    rw [c1] at hR
    simp -implicitDefEqProofs [Try.f42, cRad, cRws, cRw, hR, vstore, cellsOf?, Ent.wrO, wr, vmove, isNil]
    simp [qa]
theorem rd_Remove {R : Rad} {key : ByteArray} (hs : Seeds R) (hl : Lens R) (hok : rOk R = true) (hk37 : key.size = 37) : TV.pu 42 [.agg (cRad R), cS key] = some (.agg (cRad { R with rows := updA (remC key) R.s key R.rows })) := by
  refine run42 (by simp) ?_
  obtain ⟨q1, q2, q3, q4, q5⟩ := rOk_facts hok
  have hR := rd_Right hs hl
  rw [hok] at hR
  have hc := rd_clone (R := R) (H := [.opn [(cRad R).map .c] false, .opn [[.c (.v (.int .u64 0)), .c (.v (.int .u64 0)), .c (.v (.int .i64 0)), .sl 2 0 0 0, .sl 3 0 0 0]] false, .clo [] false, .clo [] false]) (by rintro h; rw [h] at q3; simp at q3) (by omega) (fun r hr => ⟨by have := (q5 r hr).1; rintro rfl; simp at this, by have := (q5 r hr).2.1; omega⟩)
  have hpl : ∀ (i : Nat) (rows : List (List RCl)), rows.length = R.rows.length → (∀ x ∈ rows, x.length < 4611686018427387904) → ∀ h : i < rows.length, TV.pu 24 [.agg (cRad { R with rows := rows }), cS key, cI .i64 i] = some (cI .i64 (rplc R key i rows[i].length)) := fun i rows h1 h2 h3 => by
    rw [rd_place (R := { R with rows := rows }) hs ⟨by rw [h1]; exact hl.1, h2, hl.2.2⟩ h3 (by omega)]; rfl
  obtain ⟨s, fs, hh, bits, rows⟩ := R
  dsimp only at q1 q2 q3 q4 q5 hpl ⊢
  simp only [cRad, cRws, cRw, List.map_cons, List.map_nil] at hR hc
  simp only [cRad] at hpl
  have hk37' : (key.size : Int) = 37 := by omega
  simp [Try.f42, cRad, cRws, cRw, hR, hc, hk37, vstore, cellsOf?, Ent.wrO, wr, vmove, isNil, clH, clRows_len, oRad]
  obtain ⟨I, hI⟩ : ∃ I : Nat → St → Prop, ∀ k s', I k s' ↔ (∃ e h i L, s' = ⟨e, h⟩ ∧ h = .opn [oRad ⟨s, fs, hh, bits, rows⟩ 8] false :: .opn [[.c (.v (.int .u64 0)), .c (.v (.int .u64 0)), .c (.v (.int .i64 0)), .sl 2 0 0 0, .sl 3 0 0 0]] false :: zH (remC key) s key ⟨s, fs, hh, bits, rows⟩ rows i L ∧
      e 1 = vS key ∧ e 2 = .one (.ptr ⟨0, 0, 0, 1⟩) ∧ e 4 = .one (.ptr ⟨1, 0, 0, 1⟩) ∧ e 21 = vI .i64 rows.length ∧ e 22 = vI .i64 (i : Nat) ∧ i + k = rows.length) := ⟨_, fun _ _ => Iff.rfl⟩
  refine wpL_ind I ?_ rows.length _ ((hI _ _).2 ⟨_, _, 0, [], rfl, by simp [zH, updTo_zero, oRad], by simp, by simp, by simp, by simp, by simp, by omega⟩)
  intro k st hst
  obtain ⟨e, h, i, L, rfl, rfl, e1, e2, e4, e21, e22, hk⟩ := (hI _ _).1 hst
  have hz := zH_fz (remC key) s key ⟨s, fs, hh, bits, rows⟩ rows
  have ha := zH_app (remC key) s key ⟨s, fs, hh, bits, rows⟩ rows
  by_cases c : i < rows.length
  · have c' : (i : Int) < rows.length := by omega
    have hrw := q5 rows[i] (List.getElem_mem c)
    have hul : i < (updTo (remC key) s key i rows).length := by rw [updTo_len]; exact c
    have hat := updTo_at (remC key) s key i rows hul
    have hp := hpl i (updTo (remC key) s key i rows) (updTo_len ..) (fun x hx => by
      obtain ⟨j, hj, rfl⟩ := List.getElem_of_mem hx
      have hj' : j < rows.length := by rw [updTo_len] at hj; exact hj
      rw [updTo_rowlen _ _ _ _ _ _ hj' hj]
      have := (q5 _ (List.getElem_mem hj')).2.1
      omega) hul
    rw [hat] at hp
    have hcr := rplc_range (r := ⟨s, fs, hh, bits, rows⟩) (key := key) (i := i) (n := rows[i].length) (by omega)
    obtain ⟨q, hq⟩ : ∃ q : Nat, rplc ⟨s, fs, hh, bits, rows⟩ key i rows[i].length = (q : Int) := ⟨_, (Int.toNat_of_nonneg hcr.1).symm⟩
    rw [hq] at hp hcr
    have hql : q < rows[i].length := by omega
    have hw := hrw.2.2.2 rows[i][q] (List.getElem_mem hql)
    have hrwz := fun L => zH_row (remC key) s key ⟨s, fs, hh, bits, rows⟩ rows i L i hul
    have hset := fun L => zH_set (remC key) s key ⟨s, fs, hh, bits, rows⟩ rows i L c
    simp only [hat] at hrwz
    have h6 : ∀ L, (zH (remC key) s key ⟨s, fs, hh, bits, rows⟩ rows i L)[6]? = some (.opn (clRows 4 rows rows.length) false) := fun L => rfl
    have hra : ∀ h : i < (clRows 4 rows rows.length).length, (clRows 4 rows rows.length)[i]'h = [.sl (4 + (6 + 2 * i)) 0 rows[i].length rows[i].length] := by simp [clRows]
    have hzM : ∀ L M X Y, fzc 5 (X :: Y :: (zH (remC key) s key ⟨s, fs, hh, bits, rows⟩ rows i L ++ M)) (.sl 8 0 rows.length rows.length) = some (cRws (updTo (remC key) s key i rows)) := fun L M X Y => by rw [ha]; exact hz _ _ _ _
    have hrwzM : ∀ L M X Y, (X :: Y :: (zH (remC key) s key ⟨s, fs, hh, bits, rows⟩ rows i L ++ M))[4 + (6 + 2 * i)]? = some (.clo (rows[i].map cCl) false) := fun L M X Y => by rw [ha]; exact hrwz _ _ _
    have h6M : ∀ L M, (zH (remC key) s key ⟨s, fs, hh, bits, rows⟩ rows i L ++ M)[6]? = some (.opn (clRows 4 rows rows.length) false) := fun L M => rfl
    have hsetM : ∀ L M X Y, (X :: Y :: (zH (remC key) s key ⟨s, fs, hh, bits, rows⟩ rows i L ++ M)).set (4 + (6 + 2 * i)) (.clo ((updR (remC key) s key (i : Int) rows[i]).map cCl) false) = X :: Y :: (zH (remC key) s key ⟨s, fs, hh, bits, rows⟩ rows (i + 1) L ++ M) := fun L M X Y => by rw [ha, ha]; exact hset _ _ _
    have hwr : Ent.wrC (rows[i].map cCl) q 0 (cCl (remC key rows[i][q])) = (updR (remC key) s key (i : Int) rows[i]).map cCl := by
      have hqq : (hcell (hrow s ((i : Int) + 1)) key (rows[i].length : Int)).toNat = q := by
        have : hcell (hrow s ((i : Int) + 1)) key (rows[i].length : Int) = (q : Int) := hq
        rw [this]; rfl
      rw [updR, hqq]
      apply List.ext_getElem
      · simp [Ent.wrC]
      · intro j h1 h2
        simp only [Ent.wrC, List.getElem_modify, List.getElem_map]
        by_cases hj : q = j
        · subst hj; simp [wr, cCl]
        · rw [if_neg hj, if_neg hj]
    obtain ⟨y, hy⟩ : ∃ y, rows[i][q] = y := ⟨_, rfl⟩
    rw [hy] at hwr hw
    obtain ⟨x, fl, pk, bb⟩ := y
    have hcl : cCl rows[i][q] = [.v (.string x), .v (.int .i64 fl), .v (.int .i64 pk), .v (.int .i64 bb)] := by rw [hy]; rfl
    obtain ⟨w1, w2, w3⟩ : x.size = 37 ∧ -1099511627776 ≤ fl ∧ fl ≤ 1099511627776 := by
      unfold wrongB at hw
      simp only [Bool.or_eq_false_iff, decide_eq_false_iff_not] at hw
      obtain ⟨⟨⟨⟨a1, a2⟩, a3⟩, -⟩, -⟩ := hw
      exact ⟨by omega, by omega, by omega⟩
    have hx := rd_xor (a := x) (b := key) (by omega) (by omega) (by omega)
    have u1 : IntKind.i64.wrap (fl - 1) = fl - 1 := w64_id (by omega) (by omega)
    have u2 : IntKind.i64.wrap ((i : Int) + 1) = ((i + 1 : Nat) : Int) := by rw [w64_id (by omega) (by omega)]; omega
    have hmx : (if fl - 1 < -1099511627776 then -1099511627776 else fl - 1) = max (fl - 1) (-1099511627776) := by omega
    simp only [cCl, remC] at hwr
    simp -implicitDefEqProofs [-fzc, fz_v, fz_arr, e1, e2, e21, e22, c, c', vmove, isNil, h6, hra, clRows_len, hz, hp, hql, hrwz, vstore, cellsOf?, oRad, hcl, hrwzM, h6M, hsetM, hwr, hx, u1, u2, hmx, Ent.wrO, wr, max_int]
    exact ⟨k - 1, by omega, (hI _ _).2 ⟨_, _, i + 1, _, rfl, by rw [zH_app]; rfl, by simp [e1], by simp [e2], by simp [e4], by simp [e21], by simp, by omega⟩⟩
  · have c' : ¬ (i : Int) < rows.length := by omega
    have hi : i = rows.length := by omega
    subst hi
    simp -implicitDefEqProofs [-fzc, e2, e4, e21, e22, c', vstore, cellsOf?, Ent.wrO, wr, oRad]
    simp [-fzc, fz_v, fz_arr, qa, hz, updA, cRws, cRw]
/-- A packet in a cell. -/
def addC (fr : Bool) (key : ByteArray) (n : Int) (c : RCl) : RCl := (if fr then xorK c.1 key else c.1, if fr then c.2.1 + 1 else c.2.1, c.2.2.1 + 1, c.2.2.2 + n)
/-- A key's cell in a row. -/
def curC (s : Int) (key : ByteArray) (j : Int) (r : List RCl) : RCl := r.getD (hcell (hrow s (j + 1)) key (r.length : Int)).toNat (ByteArray.empty, 0, 0, 0)
def freshB (R : Rad) (key : ByteArray) : Bool := !hasB R.fs R.h R.bits key
def zRad : Rad := ⟨0, 0, 0, [], []⟩
def addRad (R : Rad) (key : ByteArray) (n : Int) : Rad := { R with bits := addB R.bits (plc R.fs R.h key R.bits.length), rows := updA (addC (freshB R key) key n) R.s key R.rows }
theorem wrongB_iff (c : RCl) : wrongB c = false ↔ c.1.size = 37 ∧ -1099511627776 ≤ c.2.1 ∧ c.2.1 ≤ 1099511627776 ∧ 0 ≤ c.2.2.1 ∧ c.2.2.1 ≤ 1099511627776 ∧ 0 ≤ c.2.2.2 ∧ c.2.2.2 ≤ 1099511627776 := by
  unfold wrongB fitB
  simp only [Bool.or_eq_false_iff, decide_eq_false_iff_not, Bool.not_eq_false', Bool.and_eq_true, decide_eq_true_eq]
  omega
theorem rd_Add_arg {R : Rad} {key : ByteArray} {n : Int} (hs : Seeds R) (hl : Lens R) (h : rOk R = false ∨ key.size ≠ 37 ∨ fitB n = false) : TV.pu 7 [.agg (cRad R), cS key, cI .i64 n] = some (.tup [(true, cRad zRad), (false, [.v (.int .i64 1)])]) := by
  refine run7 (by simp) ?_
  have hR := rd_Right hs hl
  have hf := rd_fits n
  simp only [cRad, cRws, cRw] at hR
  by_cases c1 : rOk R = true
  · rw [c1] at hR
    by_cases c2 : key.size = 37
    · have c2' : (key.size : Int) = 37 := by omega
      have c3 : fitB n = false := by
        rcases h with h | h | h
        · rw [c1] at h; cases h
        · exact absurd c2 h
        · exact h
      rw [c3] at hf
      simp -implicitDefEqProofs [Try.f7, cRad, cRws, cRw, zRad, hR, hf, c2, vstore, cellsOf?, Ent.wrO, wr, vmove, isNil]
      simp [qa]
    · have c2' : ¬ (key.size : Int) = 37 := by omega
      simp -implicitDefEqProofs [Try.f7, cRad, cRws, cRw, zRad, hR, c2', vstore, cellsOf?, Ent.wrO, wr, vmove, isNil]
      simp [qa]
  · have c1 : rOk R = false := by simpa using c1
    rw [c1] at hR
    simp -implicitDefEqProofs [Try.f7, cRad, cRws, cRw, zRad, hR, vstore, cellsOf?, Ent.wrO, wr, vmove, isNil]
    simp [qa]

theorem rd_Add {R : Rad} {key : ByteArray} {n : Int} (hs : Seeds R) (hl : Lens R) (hok : rOk R = true) (hk37 : key.size = 37) (hn : fitB n = true) : TV.pu 7 [.agg (cRad R), cS key, cI .i64 n] = some (if ∀ j, ∀ h : j < R.rows.length, wrongB (addC (freshB R key) key n (curC R.s key (j : Int) R.rows[j])) = false then .tup [(true, cRad (addRad R key n)), (false, [.v (.int .i64 0)])] else .tup [(true, cRad zRad), (false, [.v (.int .i64 5)])]) := by
  refine run7 (by simp) ?_
  obtain ⟨q1, q2, q3, q4, q5⟩ := rOk_facts hok
  have hR := rd_Right hs hl
  rw [hok] at hR
  have hf := rd_fits n
  rw [hn] at hf
  have hnn : 0 ≤ n ∧ n ≤ 1099511627776 := by simpa [fitB] using hn
  have hH := bloom_Has (seed := R.fs) (h := R.h) (bits := R.bits) (key := key) hs.2.2.1 hs.2.2.2 (by omega)
  rw [q1, Bool.true_and] at hH
  have hA := bloom_Add (seed := R.fs) (h := R.h) (bits := R.bits) (key := key) hs.2.2.1 hs.2.2.2 (by omega) q1
  have hc := rd_clone (R := R) (H := [.opn [(cRad R).map .c] false, .opn [[.c (.v (.int .u64 0)), .c (.v (.int .u64 0)), .c (.v (.int .i64 0)), .sl 2 0 0 0, .sl 3 0 0 0]] false, .clo [] false, .clo [] false]) (by rintro h; rw [h] at q3; simp at q3) (by omega) (fun r hr => ⟨by have := (q5 r hr).1; rintro rfl; simp at this, by have := (q5 r hr).2.1; omega⟩)
  have hpl : ∀ (i : Nat) (rows : List (List RCl)), rows.length = R.rows.length → (∀ x ∈ rows, x.length < 4611686018427387904) → ∀ h : i < rows.length, TV.pu 24 [.agg (cRad { R with bits := addB R.bits (plc R.fs R.h key R.bits.length), rows := rows }), cS key, cI .i64 i] = some (cI .i64 (rplc R key i rows[i].length)) := fun i rows h1 h2 h3 => by
    rw [rd_place (R := { R with bits := addB R.bits (plc R.fs R.h key R.bits.length), rows := rows }) hs ⟨by rw [h1]; exact hl.1, h2, by rw [addB_len]; exact hl.2.2⟩ h3 (by omega)]; rfl
  unfold addRad
  obtain ⟨fr, hfr⟩ : ∃ fr, freshB R key = fr := ⟨_, rfl⟩
  have hfr' : hasB R.fs R.h R.bits key = !fr := by rw [← hfr]; simp [freshB]
  rw [hfr'] at hH
  rw [hfr]
  obtain ⟨bits', hb'⟩ : ∃ b', addB R.bits (plc R.fs R.h key R.bits.length) = b' := ⟨_, rfl⟩
  rw [hb'] at hA hpl ⊢
  obtain ⟨s, fs, hh, bits, rows⟩ := R
  dsimp only at q1 q2 q3 q4 q5 hpl hH hA ⊢
  simp only [cRad, cRws, cRw, List.map_cons, List.map_nil] at hR hc
  simp only [cRad] at hpl
  simp only [cF] at hH hA
  have hk37' : (key.size : Int) = 37 := by omega
  simp -implicitDefEqProofs [Try.f7, cRad, cRws, cRw, hR, hc, hf, hH, hA, hk37, vstore, cellsOf?, Ent.wrO, wr, vmove, isNil, clH, clRows_len, oRad]
  obtain ⟨I, hI⟩ : ∃ I : Nat → St → Prop, ∀ k s', I k s' ↔ (∃ e h i L, s' = ⟨e, h⟩ ∧ h = .opn [oRad ⟨s, fs, hh, bits', rows⟩ 8] false :: .opn [[.c (.v (.int .u64 0)), .c (.v (.int .u64 0)), .c (.v (.int .i64 0)), .sl 2 0 0 0, .sl 3 0 0 0]] false :: zH (addC fr key n) s key ⟨s, fs, hh, bits, rows⟩ rows i L ∧
      e 1 = vS key ∧ e 2 = vI .i64 n ∧ e 3 = .one (.ptr ⟨0, 0, 0, 1⟩) ∧ e 6 = .one (.ptr ⟨1, 0, 0, 1⟩) ∧ e 8 = vB fr ∧ e 39 = vI .i64 rows.length ∧ e 40 = vI .i64 (i : Nat) ∧ i + k = rows.length ∧
      ∀ j, j < i → ∀ h : j < rows.length, wrongB (addC fr key n (curC s key (j : Int) rows[j])) = false) := ⟨_, fun _ _ => Iff.rfl⟩
  refine wpL_ind I ?_ rows.length _ ((hI _ _).2 ⟨_, _, 0, [], rfl, by simp [zH, updTo_zero, oRad], by simp, by simp, by simp, by simp, by simp, by simp, by simp, by omega, by omega⟩)
  intro k st hst
  obtain ⟨e, h, i, L, rfl, rfl, e1, e2, e3, e6, e8, e39, e40, hk, hall⟩ := (hI _ _).1 hst
  have hz := zH_fz (addC fr key n) s key ⟨s, fs, hh, bits, rows⟩ rows
  have ha := zH_app (addC fr key n) s key ⟨s, fs, hh, bits, rows⟩ rows
  by_cases c : i < rows.length
  · have c' : (i : Int) < rows.length := by omega
    have hrw := q5 rows[i] (List.getElem_mem c)
    have hul : i < (updTo (addC fr key n) s key i rows).length := by rw [updTo_len]; exact c
    have hat := updTo_at (addC fr key n) s key i rows hul
    have hp := hpl i (updTo (addC fr key n) s key i rows) (updTo_len ..) (fun x hx => by
      obtain ⟨j, hj, rfl⟩ := List.getElem_of_mem hx
      have hj' : j < rows.length := by rw [updTo_len] at hj; exact hj
      rw [updTo_rowlen _ _ _ _ _ _ hj' hj]
      have := (q5 _ (List.getElem_mem hj')).2.1
      omega) hul
    rw [hat] at hp
    have hcr := rplc_range (r := ⟨s, fs, hh, bits, rows⟩) (key := key) (i := i) (n := rows[i].length) (by omega)
    obtain ⟨q, hq⟩ : ∃ q : Nat, rplc ⟨s, fs, hh, bits, rows⟩ key i rows[i].length = (q : Int) := ⟨_, (Int.toNat_of_nonneg hcr.1).symm⟩
    rw [hq] at hp hcr
    have hql : q < rows[i].length := by omega
    have hw := hrw.2.2.2 rows[i][q] (List.getElem_mem hql)
    have hrwz := fun L => zH_row (addC fr key n) s key ⟨s, fs, hh, bits, rows⟩ rows i L i hul
    have hset := fun L => zH_set (addC fr key n) s key ⟨s, fs, hh, bits, rows⟩ rows i L c
    simp only [hat] at hrwz
    have h6 : ∀ L, (zH (addC fr key n) s key ⟨s, fs, hh, bits, rows⟩ rows i L)[6]? = some (.opn (clRows 4 rows rows.length) false) := fun L => rfl
    have hra : ∀ h : i < (clRows 4 rows rows.length).length, (clRows 4 rows rows.length)[i]'h = [.sl (4 + (6 + 2 * i)) 0 rows[i].length rows[i].length] := by simp [clRows]
    have hzM : ∀ L M X Y, fzc 5 (X :: Y :: (zH (addC fr key n) s key ⟨s, fs, hh, bits, rows⟩ rows i L ++ M)) (.sl 8 0 rows.length rows.length) = some (cRws (updTo (addC fr key n) s key i rows)) := fun L M X Y => by rw [ha]; exact hz _ _ _ _
    have hrwzM : ∀ L M X Y, (X :: Y :: (zH (addC fr key n) s key ⟨s, fs, hh, bits, rows⟩ rows i L ++ M))[4 + (6 + 2 * i)]? = some (.clo (rows[i].map cCl) false) := fun L M X Y => by rw [ha]; exact hrwz _ _ _
    have h6M : ∀ L M, (zH (addC fr key n) s key ⟨s, fs, hh, bits, rows⟩ rows i L ++ M)[6]? = some (.opn (clRows 4 rows rows.length) false) := fun L M => rfl
    have hsetM : ∀ L M X Y, (X :: Y :: (zH (addC fr key n) s key ⟨s, fs, hh, bits, rows⟩ rows i L ++ M)).set (4 + (6 + 2 * i)) (.clo ((updR (addC fr key n) s key (i : Int) rows[i]).map cCl) false) = X :: Y :: (zH (addC fr key n) s key ⟨s, fs, hh, bits, rows⟩ rows (i + 1) L ++ M) := fun L M X Y => by rw [ha, ha]; exact hset _ _ _
    have hqq : (hcell (hrow s ((i : Int) + 1)) key (rows[i].length : Int)).toNat = q := by
      have : hcell (hrow s ((i : Int) + 1)) key (rows[i].length : Int) = (q : Int) := hq
      rw [this]; rfl
    have hwr : Ent.wrC (rows[i].map cCl) q 0 (cCl (addC fr key n rows[i][q])) = (updR (addC fr key n) s key (i : Int) rows[i]).map cCl := by
      rw [updR, hqq]
      apply List.ext_getElem
      · simp [Ent.wrC]
      · intro j h1 h2
        simp only [Ent.wrC, List.getElem_modify, List.getElem_map]
        by_cases hj : q = j
        · subst hj; simp [wr, cCl]
        · rw [if_neg hj, if_neg hj]
    have hcur : curC s key (i : Int) rows[i] = rows[i][q] := by
      rw [curC, hqq, List.getD_eq_getElem?_getD, List.getElem?_eq_getElem hql]; rfl
    have hnext : wrongB (addC fr key n rows[i][q]) = false → ∀ j, j < i + 1 → ∀ h : j < rows.length, wrongB (addC fr key n (curC s key (j : Int) rows[j])) = false := fun hg j hj h => by
      by_cases hji : j = i
      · subst hji
        rw [hcur]; exact hg
      · exact hall j (by omega) h
    have hbad : wrongB (addC fr key n rows[i][q]) = true → ¬ ∀ j, ∀ h : j < rows.length, wrongB (addC fr key n (curC s key (j : Int) rows[j])) = false := fun hg hx => by
      have := hx i c
      rw [hcur, hg] at this
      cases this
    have hwp := rd_wrong (addC fr key n rows[i][q])
    obtain ⟨y, hy⟩ : ∃ y, rows[i][q] = y := ⟨_, rfl⟩
    rw [hy] at hwr hw hwp hnext hbad
    obtain ⟨x, fl, pk, bb⟩ := y
    have hcl : cCl rows[i][q] = [.v (.string x), .v (.int .i64 fl), .v (.int .i64 pk), .v (.int .i64 bb)] := by rw [hy]; rfl
    have hw := (wrongB_iff _).1 hw
    dsimp only at hw
    obtain ⟨w1, w2, w3, w4, w5, w6, w7⟩ := hw
    have hx := rd_xor (a := x) (b := key) (by omega) (by omega) (by omega)
    have u1 : IntKind.i64.wrap (fl + 1) = fl + 1 := w64_id (by omega) (by omega)
    have u2 : IntKind.i64.wrap ((i : Int) + 1) = ((i + 1 : Nat) : Int) := by rw [w64_id (by omega) (by omega)]; omega
    have u3 : IntKind.i64.wrap (pk + 1) = pk + 1 := w64_id (by omega) (by omega)
    have u4 : IntKind.i64.wrap (bb + n) = bb + n := w64_id (by omega) (by omega)
    cases fr with
    | false =>
      cases hg : wrongB (addC false key n (x, fl, pk, bb)) with
      | true =>
        rw [if_neg (hbad hg)]
        rw [hg] at hwp
        simp only [cCl, addC] at hwp
        simp at hwp
        simp -implicitDefEqProofs [-fzc, fz_v, fz_arr, e1, e2, e3, e6, e8, e39, e40, c, c', vmove, isNil, h6, hra, clRows_len, hz, hp, hql, hrwz, vstore, cellsOf?, oRad, hcl, u3, u4, Ent.wrO, wr, hwp]
        simp [fzc, qa, zRad]
      | false =>
        rw [hg] at hwp
        have hnx := hnext hg
        simp only [cCl, addC] at hwp hwr
        simp at hwp hwr
        simp -implicitDefEqProofs [-fzc, fz_v, fz_arr, e1, e2, e3, e8, e39, e40, c, c', vmove, isNil, h6, hra, clRows_len, hz, hp, hql, hrwz, vstore, cellsOf?, oRad, hcl, hzM, hrwzM, h6M, hsetM, hwr, u2, u3, u4, Ent.wrO, wr, hwp]
        exact ⟨k - 1, by omega, (hI _ _).2 ⟨_, _, i + 1, _, rfl, by rw [zH_app]; rfl, by simp [e1], by simp [e2], by simp [e3], by simp [e6], by simp [e8], by simp [e39], by simp, by omega, hnx⟩⟩
    | true =>
      cases hg : wrongB (addC true key n (x, fl, pk, bb)) with
      | true =>
        rw [if_neg (hbad hg)]
        rw [hg] at hwp
        simp only [cCl, addC] at hwp
        simp at hwp
        simp -implicitDefEqProofs [-fzc, fz_v, fz_arr, e1, e2, e3, e6, e8, e39, e40, c, c', vmove, isNil, h6, hra, clRows_len, hz, hp, hql, hrwz, vstore, cellsOf?, oRad, hcl, hx, u1, u3, u4, Ent.wrO, wr, hwp]
        simp [fzc, qa, zRad]
      | false =>
        rw [hg] at hwp
        have hnx := hnext hg
        simp only [cCl, addC] at hwp hwr
        simp at hwp hwr
        simp -implicitDefEqProofs [-fzc, fz_v, fz_arr, e1, e2, e3, e8, e39, e40, c, c', vmove, isNil, h6, hra, clRows_len, hz, hp, hql, hrwz, vstore, cellsOf?, oRad, hcl, hzM, hrwzM, h6M, hsetM, hwr, u2, hx, u1, u3, u4, Ent.wrO, wr, hwp]
        exact ⟨k - 1, by omega, (hI _ _).2 ⟨_, _, i + 1, _, rfl, by rw [zH_app]; rfl, by simp [e1], by simp [e2], by simp [e3], by simp [e6], by simp [e8], by simp [e39], by simp, by omega, hnx⟩⟩
  · have c' : ¬ (i : Int) < rows.length := by omega
    have hi : i = rows.length := by omega
    subst hi
    rw [if_pos fun j h => hall j h h]
    simp -implicitDefEqProofs [-fzc, e3, e6, e39, e40, c', vstore, cellsOf?, Ent.wrO, wr, vmove, isNil, oRad]
    simp [-fzc, fz_v, fz_arr, qa, hz, updA, cRws, cRw]
end Go.Proofs.YtmgnmnogiajlgaaF
end

section
/- A radar's pure cell; is it empty; a key's place. -/
set_option maxRecDepth 8192
set_option maxHeartbeats 1000000
namespace Go.Proofs.YtmgnmnogiajlgaaF
open Go Go.Proofs.Vm

def sEq (u v : ByteArray) : Bool := u.toList == v.toList
theorem sEq_iff {u v : ByteArray} : sEq u v = true ↔ u = v := by
  unfold sEq
  rw [beq_iff_eq, toList_inj]
def cStr (s : ByteArray) : List CV := [.v (.string s)]
def cSs (l : List ByteArray) : CV := .arr (l.map cStr)

theorem index_strs {v : ByteArray} {r : List ByteArray} (hl : r.length < 9223372036854775807) : TV.pu 71 [.one (cSs r), cS v] = some (cI .i64 (idxF (sEq v) r)) := by
  refine run71 (by simp) ?_
  simp [Try.f71, cSs]
  obtain ⟨I, hI⟩ : ∃ I : Nat → St → Prop, ∀ k s', I k s' ↔ (∃ e j, s' = ⟨e, []⟩ ∧ e 0 = .one (.c (.arr (r.map cStr))) ∧ e 1 = vS v ∧ e 7 = vI .i64 r.length ∧ e 8 = vI .i64 (j : Nat) ∧ j + k = r.length ∧ ∀ q, q < j → ∀ x, r[q]? = some x → sEq v x = false) := ⟨_, fun _ _ => Iff.rfl⟩
  refine wpL_ind I ?_ r.length _ ((hI _ _).2 ⟨_, 0, rfl, by simp, by simp, by simp, by simp, by omega, by simp⟩)
  intro k st hst
  obtain ⟨e, j, rfl, e0, e1, e7, e8, hk, hno⟩ := (hI _ _).1 hst
  by_cases c : j < r.length
  · have hx : r[j]? = some r[j] := List.getElem?_eq_getElem c
    have w1 : IntKind.i64.wrap ((j : Int) + 1) = ((j + 1 : Nat) : Int) := by rw [w64_id (by omega) (by omega)]; omega
    have hq : (v.toList == r[j].toList) = sEq v r[j] := rfl
    by_cases hj : sEq v r[j] = true
    · rw [hj] at hq
      simp -implicitDefEqProofs [e0, e1, e7, e8, c, cStr, hq, idxF_at (sEq v) r j c hj hno]
    · have hj' : sEq v r[j] = false := by simpa using hj
      rw [hj'] at hq
      simp -implicitDefEqProofs [e0, e1, e7, e8, c, w1, cStr, hq]
      refine ⟨k - 1, by omega, (hI _ _).2 ⟨_, j + 1, rfl, by simp [e0], by simp [e1], by simp [e7], by simp, by omega, ?_⟩⟩
      intro q hq x hx2
      by_cases hqj : q = j
      · subst hqj
        rw [hx] at hx2
        cases hx2
        exact hj'
      · exact hno q (by omega) x hx2
  · have c' : ¬ (j : Int) < (r.length : Int) := by omega
    simp [e0, e1, e7, e8, c']
    rw [idxF_none (sEq v) r fun q hq => hno q (by omega)]
theorem contains_strs {v : ByteArray} {r : List ByteArray} (hl : r.length < 9223372036854775807) : TV.pu 60 [.one (cSs r), cS v] = some (cB (r.any (sEq v))) := by
  refine run60 (by simp) ?_
  have h := index_strs (v := v) hl
  simp [Try.f60, h, idxF_ge, cSs] at h ⊢

theorem fs_none {α : Type} {f : Nat → Option α} {n : Nat} (h : ∀ i, i < n → f i = none) : (List.range n).findSome? f = none := by
  rw [List.findSome?_eq_none_iff]
  intro i hi
  exact h i (List.mem_range.1 hi)
theorem fs_at {α : Type} {f : Nat → Option α} {n i : Nat} {x : α} (hi : i < n) (h : ∀ j, j < i → f j = none) (hx : f i = some x) : (List.range n).findSome? f = some x := by
  obtain ⟨m, rfl⟩ : ∃ m, n = i + (1 + m) := ⟨n - i - 1, by omega⟩
  rw [List.range_add, List.findSome?_append, fs_none h]
  simp [List.range_succ_eq_map, hx, Nat.add_comm 1 m]

def zC : RCl := (ByteArray.empty, 0, 0, 0)
/-- Is a cell pure, and its key not yet told? -/
def okC (R : Rad) (told : List ByteArray) (i n p : Nat) (c : RCl) : Bool := decide (c.2.1 = 1) && decide (rplc R c.1 i n = (p : Int)) && hasB R.fs R.h R.bits c.1 && !told.any (sEq c.1)
def pureR (R : Rad) (told : List ByteArray) (i : Nat) : Option ByteArray := (List.range (R.rows.getD i []).length).findSome? fun p => if okC R told i (R.rows.getD i []).length p ((R.rows.getD i []).getD p zC) = true then some ((R.rows.getD i []).getD p zC).1 else none
def pureOf (R : Rad) (told : List ByteArray) : Option ByteArray := (List.range R.rows.length).findSome? (pureR R told)
def pureA (o : Option ByteArray) : CA := match o with
  | some k => .tup [(false, [.v (.string k)]), (false, [.v (.bool true)])]
  | none => .tup [(false, [.v (.string ByteArray.empty)]), (false, [.v (.bool false)])]

theorem rd_Pure_no {R : Rad} {told : List ByteArray} (hs : Seeds R) (hl : Lens R) (hok : rOk R = false) : TV.pu 41 [.agg (cRad R), .one (cSs told)] = some (pureA none) := by
  refine run41 (by simp) ?_
  have hR := rd_Right hs hl
  rw [hok] at hR
  simp only [cRad, cRws, cRw] at hR
  simp -implicitDefEqProofs [Try.f41, cRad, cRws, cRw, hR, pureA]
  rfl
theorem rd_Pure {R : Rad} {told : List ByteArray} (hs : Seeds R) (hl : Lens R) (hok : rOk R = true) (ht : told.length < 9223372036854775807) : TV.pu 41 [.agg (cRad R), .one (cSs told)] = some (pureA (pureOf R told)) := by
  refine run41 (by simp) ?_
  obtain ⟨q1, q2, q3, q4, q5⟩ := rOk_facts hok
  have hR := rd_Right hs hl
  rw [hok] at hR
  have hpl := fun (key : ByteArray) (i : Nat) (hi : i < R.rows.length) (hk : key.size ≤ 140737488351232) => rd_place (R := R) (key := key) (i := i) hs hl hi hk
  have hH := fun key hk => bloom_Has (seed := R.fs) (h := R.h) (bits := R.bits) (key := key) hs.2.2.1 hs.2.2.2 hk
  simp only [q1, Bool.true_and, cF] at hH
  obtain ⟨res, hres⟩ : ∃ res, pureA (pureOf R told) = res := ⟨_, rfl⟩
  rw [hres]
  simp only [cRad, cRws, cRw] at hR hpl
  simp -implicitDefEqProofs [Try.f41, cRad, cRws, cRw, hR]
  have hfin : (∀ j, j < R.rows.length → pureR R told j = none) → res = pureA none := fun h => by rw [← hres, pureOf, fs_none h]
  have hgot : ∀ i x, i < R.rows.length → (∀ j, j < i → pureR R told j = none) → pureR R told i = some x → res = pureA (some x) := fun i x h1 h2 h3 => by rw [← hres, pureOf, fs_at h1 h2 h3]
  obtain ⟨I, hI⟩ : ∃ I : Nat → St → Prop, ∀ k s', I k s' ↔ (∃ e h i L, s' = ⟨e, h⟩ ∧ h = .opn [(cRad R).map .c] false :: L ∧
      e 1 = .one (.c (cSs told)) ∧ e 2 = .one (.ptr ⟨0, 0, 0, 1⟩) ∧ e 14 = .one (.c (cRws R.rows)) ∧ e 15 = vI .i64 R.rows.length ∧ e 16 = vI .i64 (i : Nat) ∧ i + k = R.rows.length ∧ ∀ j, j < i → pureR R told j = none) := ⟨_, fun _ _ => Iff.rfl⟩
  refine wpL_ind I ?_ R.rows.length _ ((hI _ _).2 ⟨_, _, 0, [], rfl, by simp [cRad, cRws, cRw], by simp, by simp, by simp [cRws, cRw], by simp, by simp, by omega, by omega⟩)
  intro k st hst
  obtain ⟨e, h, i, L, rfl, rfl, e1, e2, e14, e15, e16, hk, hno⟩ := (hI _ _).1 hst
  by_cases c : i < R.rows.length
  · have c' : (i : Int) < R.rows.length := by omega
    have hrw := q5 R.rows[i] (List.getElem_mem c)
    have u2 : IntKind.i64.wrap ((i : Int) + 1) = ((i + 1 : Nat) : Int) := by rw [w64_id (by omega) (by omega)]; omega
    have hgi : R.rows.getD i [] = R.rows[i] := by rw [List.getD_eq_getElem?_getD, List.getElem?_eq_getElem c]; rfl
    simp -implicitDefEqProofs [-fzc, e14, e15, e16, c, c', cRws, cRw, vmove, isNil, cRad]
    have hrn : pureR R told i = (List.range R.rows[i].length).findSome? fun p => if okC R told i R.rows[i].length p (R.rows[i].getD p zC) = true then some (R.rows[i].getD p zC).1 else none := by unfold pureR; rw [hgi]
    obtain ⟨J, hJ⟩ : ∃ J : Nat → St → Prop, ∀ k' s', J k' s' ↔ (∃ e h p L, s' = ⟨e, h⟩ ∧ h = .opn [(cRad R).map .c] false :: L ∧
        e 1 = .one (.c (cSs told)) ∧ e 2 = .one (.ptr ⟨0, 0, 0, 1⟩) ∧ e 14 = .one (.c (cRws R.rows)) ∧ e 15 = vI .i64 R.rows.length ∧ e 16 = vI .i64 (i : Nat) ∧ e 6 = vI .i64 (i : Nat) ∧ e 21 = .one (.c (cRw R.rows[i])) ∧ e 22 = vI .i64 R.rows[i].length ∧ e 23 = vI .i64 (p : Nat) ∧ p + k' = R.rows[i].length ∧ ∀ j, j < p → okC R told i R.rows[i].length j (R.rows[i].getD j zC) = false) := ⟨_, fun _ _ => Iff.rfl⟩
    refine wpL_ind J ?_ R.rows[i].length _ ((hJ _ _).2 ⟨_, _, 0, L, rfl, by simp [cRad, cRws, cRw], by simp [e1], by simp [e2], by simp [e14, cRws, cRw], by simp [e15], by simp [e16], by simp, by simp [cRw], by simp, by simp, by omega, by omega⟩)
    clear e1 e2 e14 e15 e16
    intro k' st' hst'
    obtain ⟨e, h, p, L, rfl, rfl, e1, e2, e14, e15, e16, e6, e21, e22, e23, hk', hnp⟩ := (hJ _ _).1 hst'
    by_cases d : p < R.rows[i].length
    · have d' : (p : Int) < R.rows[i].length := by omega
      have u3 : IntKind.i64.wrap ((p : Int) + 1) = ((p + 1 : Nat) : Int) := by rw [w64_id (by omega) (by omega)]; omega
      have hgp : R.rows[i].getD p zC = R.rows[i][p] := by rw [List.getD_eq_getElem?_getD, List.getElem?_eq_getElem d]; rfl
      have hw := (wrongB_iff _).1 (hrw.2.2.2 R.rows[i][p] (List.getElem_mem d))
      have hskip : okC R told i R.rows[i].length p R.rows[i][p] = false → ∀ j, j < p + 1 → okC R told i R.rows[i].length j (R.rows[i].getD j zC) = false := fun hg j hj => by
        by_cases hjp : j = p
        · subst hjp
          rw [hgp]; exact hg
        · exact hnp j (by omega)
      have hhit : okC R told i R.rows[i].length p R.rows[i][p] = true → res = pureA (some R.rows[i][p].1) := fun hg => hgot i _ c hno (by
        rw [hrn]
        exact fs_at d (fun j hj => by rw [if_neg (by rw [hnp j hj]; decide)]) (by rw [hgp, if_pos hg]))
      have hp := hpl R.rows[i][p].1 i c (by omega)
      have hh := hH R.rows[i][p].1 (by omega)
      have hcs := contains_strs (v := R.rows[i][p].1) ht
      obtain ⟨y, hy⟩ : ∃ y, R.rows[i][p] = y := ⟨_, rfl⟩
      rw [hy] at hw hskip hhit hp hh hcs
      obtain ⟨x, fl, pk, bb⟩ := y
      have hcl : cCl R.rows[i][p] = [.v (.string x), .v (.int .i64 fl), .v (.int .i64 pk), .v (.int .i64 bb)] := by rw [hy]; rfl
      dsimp only at hw hhit hp hh hcs
      simp only [cSs] at hcs
      unfold okC at hskip hhit
      dsimp only at hskip hhit
      by_cases g1 : fl = 1
      · by_cases g2 : rplc R x i R.rows[i].length = (p : Int)
        · rw [g2] at hp
          cases g3 : hasB R.fs R.h R.bits x with
          | true =>
            rw [g3] at hh
            cases g4 : told.any (sEq x) with
            | false =>
              rw [g4] at hcs
              rw [hhit (by simp [g1, g2, g3, g4])]
              simp -implicitDefEqProofs [-fzc, fz_v, fz_arr, e1, e2, e6, e21, e22, e23, d, d', cRws, cRw, vmove, isNil, cRad, hcl, vstore, cellsOf?, Ent.wrO, wr, g1, hp, hh, hcs, cSs, pureA]
            | true =>
              rw [g4] at hcs
              have hsk := hskip (by simp [g4])
              simp -implicitDefEqProofs [-fzc, fz_v, fz_arr, e1, e2, e6, e21, e22, e23, d, d', cRws, cRw, vmove, isNil, cRad, hcl, vstore, cellsOf?, Ent.wrO, wr, u3, g1, hp, hh, hcs, cSs]
              exact ⟨k' - 1, by omega, (hJ _ _).2 ⟨_, _, p + 1, _, rfl, by simp [cRad, cRws, cRw]; rfl, by simp [e1, cSs], by simp [e2], by simp [e14, cRws, cRw], by simp [e15], by simp [e16], by simp [e6], by simp [e21, cRw], by simp [e22], by simp, by omega, hsk⟩⟩
          | false =>
            rw [g3] at hh
            have hsk := hskip (by simp [g3])
            simp -implicitDefEqProofs [-fzc, fz_v, fz_arr, e2, e6, e21, e22, e23, d, d', cRws, cRw, vmove, isNil, cRad, hcl, vstore, cellsOf?, Ent.wrO, wr, u3, g1, hp, hh]
            exact ⟨k' - 1, by omega, (hJ _ _).2 ⟨_, _, p + 1, _, rfl, by simp [cRad, cRws, cRw]; rfl, by simp [e1, cSs], by simp [e2], by simp [e14, cRws, cRw], by simp [e15], by simp [e16], by simp [e6], by simp [e21, cRw], by simp [e22], by simp, by omega, hsk⟩⟩
        · obtain ⟨z, hz⟩ : ∃ z, rplc R x i R.rows[i].length = z := ⟨_, rfl⟩
          rw [hz] at hp g2
          have hsk := hskip (by rw [hz]; simp [g2])
          simp -implicitDefEqProofs [-fzc, fz_v, fz_arr, e2, e6, e21, e22, e23, d, d', cRws, cRw, vmove, isNil, cRad, hcl, vstore, cellsOf?, Ent.wrO, wr, u3, g1, hp, g2]
          exact ⟨k' - 1, by omega, (hJ _ _).2 ⟨_, _, p + 1, _, rfl, by simp [cRad, cRws, cRw]; rfl, by simp [e1, cSs], by simp [e2], by simp [e14, cRws, cRw], by simp [e15], by simp [e16], by simp [e6], by simp [e21, cRw], by simp [e22], by simp, by omega, hsk⟩⟩
      · have hsk := hskip (by simp [g1])
        simp -implicitDefEqProofs [-fzc, e21, e22, e23, d, d', cRws, cRw, vmove, isNil, cRad, hcl, vstore, cellsOf?, Ent.wrO, wr, u3, g1]
        exact ⟨k' - 1, by omega, (hJ _ _).2 ⟨_, _, p + 1, _, rfl, by simp [cRad, cRws, cRw]; rfl, by simp [e1, cSs], by simp [e2], by simp [e14, cRws, cRw], by simp [e15], by simp [e16], by simp [e6], by simp [e21, cRw], by simp [e22], by simp, by omega, hsk⟩⟩
    · have d' : ¬ (p : Int) < R.rows[i].length := by omega
      have hp : p = R.rows[i].length := by omega
      subst hp
      have hrnone : pureR R told i = none := by rw [hrn]; exact fs_none fun j hj => by rw [if_neg (by rw [hnp j hj]; decide)]
      simp -implicitDefEqProofs [e16, e22, e23, d', u2]
      refine ⟨k - 1, by omega, (hI _ _).2 ⟨_, _, i + 1, _, rfl, rfl, by simp [e1], by simp [e2], by simp [e14], by simp [e15], by simp, by omega, fun j hj => ?_⟩⟩
      by_cases hji : j = i
      · subst hji; exact hrnone
      · exact hno j (by omega)
  · have c' : ¬ (i : Int) < R.rows.length := by omega
    have hi : i = R.rows.length := by omega
    subst hi
    rw [hfin hno]
    simp -implicitDefEqProofs [e15, e16, c', pureA]
    rfl
end Go.Proofs.YtmgnmnogiajlgaaF
end

section
/- The document's radar: is a cell right, a key's place, keys among keys. -/
set_option maxRecDepth 8192
set_option maxHeartbeats 1000000
namespace Go.Proofs.YtmgnmnogiajlgaaF
open Go Go.Proofs.Vm

theorem rr_In {l : List ByteArray} {v : ByteArray} (hl : l.length < 9223372036854775807) : TV.pu 29 [.one (cSs l), cS v] = some (cB (l.any (sEq v))) := by
  refine run29 (by simp) ?_
  simp -implicitDefEqProofs [Try.f29, cSs]
  obtain ⟨I, hI⟩ : ∃ I : Nat → St → Prop, ∀ k s', I k s' ↔ (∃ e j, s' = ⟨e, []⟩ ∧ e 0 = .one (.c (.arr (l.map cStr))) ∧ e 1 = vS v ∧ e 5 = vI .i64 (j : Nat) ∧ j + k = l.length ∧ ∀ q, ∀ h : q < l.length, q < j → sEq v l[q] = false) := ⟨_, fun _ _ => Iff.rfl⟩
  refine wpL_ind I ?_ l.length _ ((hI _ _).2 ⟨_, 0, rfl, by simp, by simp, by simp, by omega, by omega⟩)
  intro k st hst
  obtain ⟨e, j, rfl, e0, e1, e5, hk, hno⟩ := (hI _ _).1 hst
  by_cases c : j < l.length
  · have w1 : IntKind.i64.wrap ((j : Int) + 1) = ((j + 1 : Nat) : Int) := by rw [w64_id (by omega) (by omega)]; omega
    by_cases hj : sEq v l[j] = true
    · have hjv : v = l[j] := sEq_iff.1 hj
      have hq : l.any (sEq v) = true := List.any_eq_true.2 ⟨l[j], List.getElem_mem c, hj⟩
      rw [hq]
      simp -implicitDefEqProofs [e0, e1, e5, c, cStr, hjv]
    · have hjv : ¬ l[j] = v := fun h => hj (sEq_iff.2 h.symm)
      simp -implicitDefEqProofs [e0, e1, e5, c, w1, cStr, toList_inj, hjv]
      refine ⟨k - 1, by omega, (hI _ _).2 ⟨_, j + 1, rfl, by simp [e0], by simp [e1], by simp, by omega, ?_⟩⟩
      intro q hq hqj
      by_cases h : q = j
      · subst h; simpa using hj
      · exact hno q hq (by omega)
  · have hq : l.any (sEq v) = false := List.any_eq_false.2 fun x hx => by
      obtain ⟨q, hq, rfl⟩ := List.getElem_of_mem hx
      rw [hno q hq (by omega)]; decide
    rw [hq]
    simp -implicitDefEqProofs [e0, e5, c]
end Go.Proofs.YtmgnmnogiajlgaaF
end

section
/- The document's radar: the same keys; few and short ones. -/
set_option maxRecDepth 8192
set_option maxHeartbeats 1000000
namespace Go.Proofs.YtmgnmnogiajlgaaF
open Go Go.Proofs.Vm

theorem rr_Same {l m : List ByteArray} (hl : l.length < 9223372036854775807) : TV.pu 15 [.one (cSs l), .one (cSs m)] = some (cB (decide (l = m))) := by
  refine run15 (by simp) ?_
  by_cases hlm : l.length = m.length
  · have hlm' : ((l.length : Int) != (m.length : Int)) = false := by simp [hlm]
    simp -implicitDefEqProofs [Try.f15, cSs, hlm]
    obtain ⟨I, hI⟩ : ∃ I : Nat → St → Prop, ∀ k s', I k s' ↔ (∃ e j, s' = ⟨e, []⟩ ∧ e 0 = .one (.c (.arr (l.map cStr))) ∧ e 1 = .one (.c (.arr (m.map cStr))) ∧ e 5 = vI .i64 (j : Nat) ∧ j + k = l.length ∧ ∀ q, ∀ h : q < l.length, ∀ h' : q < m.length, q < j → l[q] = m[q]) := ⟨_, fun _ _ => Iff.rfl⟩
    refine wpL_ind I ?_ l.length _ ((hI _ _).2 ⟨_, 0, rfl, by simp, by simp, by simp, by omega, by omega⟩)
    intro k st hst
    obtain ⟨e, j, rfl, e0, e1, e5, hk, hno⟩ := (hI _ _).1 hst
    by_cases c : j < l.length
    · have cm : j < m.length := by omega
      have w1 : IntKind.i64.wrap ((j : Int) + 1) = ((j + 1 : Nat) : Int) := by rw [w64_id (by omega) (by omega)]; omega
      by_cases hj : l[j] = m[j]
      · simp -implicitDefEqProofs [e0, e1, e5, c, cm, w1, cStr, hj]
        refine ⟨k - 1, by omega, (hI _ _).2 ⟨_, j + 1, rfl, by simp [e0], by simp [e1], by simp, by omega, ?_⟩⟩
        intro q hq hq2 hqj
        by_cases h : q = j
        · subst h; exact hj
        · exact hno q hq hq2 (by omega)
      · have hne : ¬ l = m := fun h => hj (by subst h; rfl)
        simp -implicitDefEqProofs [e0, e1, e5, c, cm, cStr, toList_inj, hj, hne]
    · have hlm2 : l = m := List.ext_getElem hlm fun q h1 h2 => hno q h1 h2 (by omega)
      have cm : ¬ (j : Int) < m.length := by omega
      subst hlm2
      simp -implicitDefEqProofs [e0, e5, c]
  · have hne : ¬ l = m := fun h => hlm (by rw [h])
    have hlm' : ¬ (l.length : Int) = m.length := by omega
    simp -implicitDefEqProofs [Try.f15, cSs, hlm', hne]

def shortB (l : List ByteArray) (most : Nat) : Bool := decide (l.length ≤ most) && l.all fun s => decide (s.size ≤ 100)
end Go.Proofs.YtmgnmnogiajlgaaF
end

section
/- A radar as the document's. -/
set_option maxRecDepth 8192
set_option maxHeartbeats 1000000
namespace Go.Proofs.YtmgnmnogiajlgaaF
open Go Go.Proofs.Vm

/-- Lengths that goods have. -/
def Lens7 (R : Rad) : Prop := 24 * R.rows.length ≤ 140737488355328 ∧ ∀ x ∈ R.rows, 40 * x.length ≤ 140737488355328
end Go.Proofs.YtmgnmnogiajlgaaF
end

section
/- The document's radar: a key put among rising ones. -/
set_option maxRecDepth 8192
set_option maxHeartbeats 1000000
namespace Go.Proofs.YtmgnmnogiajlgaaF
open Go Go.Proofs.Vm

def ltS (a b : ByteArray) : Bool := Op.bytesLess a.toList b.toList
def insS (k : ByteArray) : List ByteArray → List ByteArray
  | [] => [k]
  | x :: l => if ltS k x then k :: x :: l else x :: insS k l
theorem allStr (l : List ByteArray) : AllLen (l.map cStr) 1 := by intro x hx; obtain ⟨y, _, rfl⟩ := List.mem_map.1 hx; rfl
theorem rr_Put {l : List ByteArray} {key : ByteArray} (hl : l.length < 1000000) : TV.pu 30 [.one (cSs l), cS key] = some (.one (cSs (insS key l))) := by
  refine run30 (by simp) ?_
  simp -implicitDefEqProofs [Try.f30, cSs, vmove, isNil]
  obtain ⟨I, hI⟩ : ∃ I : Nat → St → Prop, ∀ n s', I n s' ↔ (∃ e i out put E L, s' = ⟨e, E :: .clo (out.map cStr) false :: L⟩ ∧ e 0 = .one (.c (.arr (l.map cStr))) ∧ e 1 = vS key ∧ e 5 = .one (.sl 1 0 out.length out.length) ∧ e 6 = vB put ∧ e 7 = vI .i64 (i : Nat) ∧ i + n = l.length ∧ (put = true → out.length = i + 1 ∧ out ++ l.drop i = insS key l) ∧ (put = false → out.length = i ∧ out ++ insS key (l.drop i) = insS key l)) := ⟨_, fun _ _ => Iff.rfl⟩
  refine wpL_ind I ?_ l.length _ ((hI _ _).2 ⟨_, 0, [], false, _, _, rfl, by simp, by simp, by simp, by simp, by simp, by omega, by simp, by simp⟩)
  intro n st hst
  obtain ⟨e, i, out, put, E, L, rfl, e0, e1, e5, e6, e7, hn, hp1, hp2⟩ := (hI _ _).1 hst
  have hal := allStr out
  by_cases c : i < l.length
  · have w1 : IntKind.i64.wrap ((i : Int) + 1) = ((i + 1 : Nat) : Int) := by rw [w64_id (by omega) (by omega)]; omega
    have hd : l.drop i = l[i] :: l.drop (i + 1) := List.drop_eq_getElem_cons c
    cases put with
    | true =>
      obtain ⟨hl1, hl2⟩ := hp1 rfl
      have b1 : 16 * (out.length + 1) ≤ 140737488355328 := by omega
      have b2 : out.length + 1 ≤ 4611686018427387904 := by omega
      simp -implicitDefEqProofs [e0, e5, e6, e7, c, cStr, w1, vmove, isNil, vappend_sp es58 es58 el9, vbuildSlice_eq es58 el9, cellsOf?, fzParts, setAll, rchParts, rch, elemsOf, b1, b2, hal]
      exact ⟨n - 1, by omega, (hI _ _).2 ⟨_, i + 1, out ++ [l[i]], true, _, _, by simp only [List.map_append, List.map_cons, List.map_nil, cStr]; rfl, by simp [e0], by simp [e1], by simp, by simp [e6], by simp, by omega, fun _ => ⟨by simp; omega, by rw [← hl2, hd]; simp⟩, by simp⟩⟩
    | false =>
      obtain ⟨hl1, hl2⟩ := hp2 rfl
      have b1 : 16 * (out.length + 1) ≤ 140737488355328 := by omega
      have b2 : out.length + 1 ≤ 4611686018427387904 := by omega
      have b3 : 16 * (out.length + 1 + 1) ≤ 140737488355328 := by omega
      have b4 : out.length + 1 + 1 ≤ 4611686018427387904 := by omega
      have hal2 : AllLen (out.map cStr ++ [[CV.v (.string key)]]) 1 := allStr (out ++ [key]) |> fun h => by simpa [cStr] using h
      have hq : Op.bytesLess key.toList l[i].toList = ltS key l[i] := rfl
      cases hlt : ltS key l[i] with
      | true =>
        rw [hlt] at hq
        simp -implicitDefEqProofs [e0, e1, e5, e6, e7, c, cStr, w1, hq, vmove, isNil, vappend_sp es58 es58 el9, vbuildSlice_eq es58 el9, cellsOf?, fzParts, setAll, rchParts, rch, elemsOf, b1, b2, b3, b4, hal, hal2]
        exact ⟨n - 1, by omega, (hI _ _).2 ⟨_, i + 1, out ++ [key, l[i]], true, _, _, by simp only [List.map_append, List.map_cons, List.map_nil, cStr]; rfl, by simp [e0], by simp [e1], by simp, by simp, by simp, by omega, fun _ => ⟨by simp; omega, by rw [← hl2, hd, insS, hlt]; simp⟩, by simp⟩⟩
      | false =>
        rw [hlt] at hq
        simp -implicitDefEqProofs [e0, e1, e5, e6, e7, c, cStr, w1, hq, vmove, isNil, vappend_sp es58 es58 el9, vbuildSlice_eq es58 el9, cellsOf?, fzParts, setAll, rchParts, rch, elemsOf, b1, b2, hal]
        exact ⟨n - 1, by omega, (hI _ _).2 ⟨_, i + 1, out ++ [l[i]], false, _, _, by simp only [List.map_append, List.map_cons, List.map_nil, cStr]; rfl, by simp [e0], by simp [e1], by simp, by simp [e6], by simp, by omega, by simp, fun _ => ⟨by simp; omega, by rw [← hl2, hd, insS, hlt]; simp⟩⟩⟩
  · have hdn : l.drop i = [] := List.drop_eq_nil_of_le (by omega)
    cases put with
    | true =>
      obtain ⟨hl1, hl2⟩ := hp1 rfl
      rw [hdn, List.append_nil] at hl2
      subst hl2
      have htk : ((insS key l).map cStr).take (insS key l).length = (insS key l).map cStr := List.take_of_length_le (by simp)
      simp -implicitDefEqProofs [e0, e5, e6, e7, c, vmove, isNil, htk]
    | false =>
      obtain ⟨hl1, hl2⟩ := hp2 rfl
      rw [hdn] at hl2
      have b1 : 16 * (out.length + 1) ≤ 140737488355328 := by omega
      have b2 : out.length + 1 ≤ 4611686018427387904 := by omega
      have htk : (out.map cStr ++ [[CV.v (.string key)]]).take (out.length + 1) = (insS key l).map cStr := by
        rw [← hl2, List.take_of_length_le (by simp), List.map_append]; rfl
      simp -implicitDefEqProofs [e0, e1, e5, e6, e7, c, vmove, isNil, vappend_sp es58 es58 el9, vbuildSlice_eq es58 el9, cellsOf?, fzParts, setAll, rchParts, rch, elemsOf, b1, b2, hal, htk]
end Go.Proofs.YtmgnmnogiajlgaaF
end

section
/- The document's radar: is it right? -/
set_option maxRecDepth 8192
set_option maxHeartbeats 1000000
namespace Go.Proofs.YtmgnmnogiajlgaaF
open Go Go.Proofs.Vm

theorem rOk_row {R : Rad} {i : Nat} (h : i < R.rows.length) (hw : rowW R.rows R.rows[i] = true) : rOk R = false := by
  unfold rOk
  have : R.rows.any (rowW R.rows) = true := List.any_eq_true.2 ⟨_, List.getElem_mem h, hw⟩
  rw [this]; simp
end Go.Proofs.YtmgnmnogiajlgaaF
end

section
/- Is a radar empty; a key's place; all that is pure, again and again. -/
set_option maxRecDepth 8192
set_option maxHeartbeats 1000000
namespace Go.Proofs.YtmgnmnogiajlgaaF
open Go Go.Proofs.Vm

def nought : ByteArray := ⟨#[0, 0, 0, 0, 0, 0, 0, 0, 0, 0, 0, 0, 0, 0, 0, 0, 0, 0, 0, 0, 0, 0, 0, 0, 0, 0, 0, 0, 0, 0, 0, 0, 0, 0, 0, 0, 0]⟩
/-- Is something in a cell? -/
def fullC (c : RCl) : Bool := decide (c.2.1 ≠ 0) || !sEq c.1 nought
theorem rd_full (c : RCl) : TV.pu 56 [.agg (cCl c)] = some (cB (fullC c)) := by
  refine run56 (by simp) ?_
  obtain ⟨x, fl, pk, bb⟩ := c
  unfold fullC
  by_cases h : fl = 0
  · simp -implicitDefEqProofs [Try.f56, cCl, h]
    simp [sEq, nought]
  · simp -implicitDefEqProofs [Try.f56, cCl, h]
theorem rd_fullrow {r : List RCl} (hl : r.length < 9223372036854775807) : TV.pu 55 [.one (cRw r)] = some (cB (r.any fullC)) := by
  refine run55 (by simp) ?_
  have hc := contains_cells (g := .fn 56 []) rfl (p := fullC) (r := r) (fun n _ => rd_full n) hl
  simp only [cRw] at hc
  simp -implicitDefEqProofs [Try.f55, cRw, hc]
def emptyB (R : Rad) : Bool := rOk R && !R.rows.any (·.any fullC)
theorem rd_Empty {R : Rad} (hs : Seeds R) (hl : Lens R) : TV.pu 28 [.agg (cRad R)] = some (cB (emptyB R)) := by
  refine run28 (by simp) ?_
  have hR := rd_Right hs hl
  have hc := contains_crows (g := .fn 55 []) rfl (p := fun r => r.any fullC) (r := R.rows) (fun n hn => rd_fullrow (by have := hl.2.1 n hn; omega)) (by have := hl.1; omega)
  simp only [cRad, cRws, cRw] at hR hc
  unfold emptyB
  cases c1 : rOk R with
  | false =>
    rw [c1] at hR
    simp -implicitDefEqProofs [Try.f28, cRad, cRws, cRw, hR]
  | true =>
    rw [c1] at hR
    simp -implicitDefEqProofs [Try.f28, cRad, cRws, cRw, hR, hc]

theorem rd_Place {R : Rad} {key : ByteArray} {i : Nat} (hs : Seeds R) (hl : Lens R) (hok : rOk R = true) (hi : i < R.rows.length) (hk : key.size = 37) : TV.pu 53 [.agg (cRad R), cS key, cI .i64 i] = some (cI .i64 (rplc R key i R.rows[i].length)) := by
  refine run53 (by simp) ?_
  have hR := rd_Right hs hl
  rw [hok] at hR
  have hp := rd_place (key := key) hs hl hi (by omega)
  have hk' : (key.size : Int) = 37 := by omega
  have i0 : ¬ (i : Int) < 0 := by omega
  have i1 : ¬ (R.rows.length : Int) ≤ i := by omega
  simp only [cRad, cRws, cRw] at hR hp
  simp -implicitDefEqProofs [Try.f53, cRad, cRws, cRw, hR, hp, hk, i0, i1]
end Go.Proofs.YtmgnmnogiajlgaaF
end

section
/- A radar that is changed stays right; a peel ends. -/
set_option maxRecDepth 8192
set_option maxHeartbeats 1000000
namespace Go.Proofs.YtmgnmnogiajlgaaF
open Go Go.Proofs.Vm

theorem rOk_of {r : Rad} (h1 : fOk r.h r.bits = true) (h2 : r.fs = hrow r.s 0) (h3 : 1 ≤ r.rows.length) (h4 : r.rows.length ≤ 7) (h5 : ∀ x ∈ r.rows, 1 ≤ x.length ∧ x.length ≤ 256 ∧ x.length = (r.rows.headD []).length ∧ ∀ c ∈ x, wrongB c = false) : rOk r = true := by
  unfold rOk
  simp only [Bool.and_eq_true, decide_eq_true_eq, Bool.not_eq_true']
  refine ⟨⟨⟨⟨h1, h2⟩, h3⟩, h4⟩, List.any_eq_false.2 fun x hx => ?_⟩
  obtain ⟨a1, a2, a3, a4⟩ := h5 x hx
  unfold rowW
  simp only [Bool.or_eq_true, decide_eq_true_eq, not_or, Bool.not_eq_true]
  exact ⟨⟨⟨by omega, by omega⟩, by omega⟩, List.any_eq_false.2 fun c hc => by rw [a4 c hc]; decide⟩

theorem mem_modify {α : Type} {f : α → α} {x : α} : ∀ {l : List α} {q : Nat}, x ∈ l.modify q f → x ∈ l ∨ ∃ h : q < l.length, x = f l[q]
  | [], q, h => by simp at h
  | y :: l, 0, h => by
    rw [List.modify_zero_cons] at h
    rcases List.mem_cons.1 h with h | h
    · exact .inr ⟨by simp, h⟩
    · exact .inl (List.mem_cons_of_mem _ h)
  | y :: l, q + 1, h => by
    rw [List.modify_succ_cons] at h
    rcases List.mem_cons.1 h with h | h
    · exact .inl (by rw [h]; exact List.mem_cons_self)
    · rcases mem_modify h with h | ⟨h1, h2⟩
      · exact .inl (List.mem_cons_of_mem _ h)
      · exact .inr ⟨by simpa using h1, by simpa using h2⟩
theorem updA_at (f : RCl → RCl) (s : Int) (key : ByteArray) (rows : List (List RCl)) (j : Nat) (h : j < (updA f s key rows).length) : (updA f s key rows)[j] = updR f s key (j : Int) (rows[j]'(by rw [updA, updTo_len] at h; exact h)) := by
  have h' : j < rows.length := by rw [updA, updTo_len] at h; exact h
  simp [updA, updTo, h']
theorem updA_len (f : RCl → RCl) (s : Int) (key : ByteArray) (rows : List (List RCl)) : (updA f s key rows).length = rows.length := updTo_len ..
theorem curC_mem {s : Int} {key : ByteArray} {j : Int} {r : List RCl} (h : 1 ≤ r.length) : curC s key j r ∈ r := by
  have hc := hcell_range (hrow s (j + 1)) key (r.length : Int) (by omega)
  have hq : (hcell (hrow s (j + 1)) key (r.length : Int)).toNat < r.length := by omega
  rw [curC, List.getD_eq_getElem?_getD, List.getElem?_eq_getElem hq]
  exact List.getElem_mem hq
theorem updA_ok {R : Rad} {f : RCl → RCl} {key : ByteArray} {bits' : List Bool} (hok : rOk R = true) (hb : fOk R.h bits' = true) (hf : ∀ j, ∀ h : j < R.rows.length, wrongB (f (curC R.s key (j : Int) R.rows[j])) = false) : rOk { R with bits := bits', rows := updA f R.s key R.rows } = true := by
  obtain ⟨q1, q2, q3, q4, q5⟩ := rOk_facts hok
  have hhead : ((updA f R.s key R.rows).headD []).length = (R.rows.headD []).length := by
    have h0 : 0 < R.rows.length := by omega
    have h1 : 0 < (updA f R.s key R.rows).length := by rw [updA_len]; exact h0
    have e1 : ∀ (l : List (List RCl)) (h : 0 < l.length), l.headD [] = l[0] := fun l h => by cases l with | nil => simp at h | cons x t => rfl
    rw [e1 _ h0, e1 _ h1, updA_at, updR_len]
  refine rOk_of hb q2 (by rw [updA_len]; exact q3) (by rw [updA_len]; exact q4) fun x hx => ?_
  obtain ⟨j, hj, rfl⟩ := List.getElem_of_mem hx
  have hj' : j < R.rows.length := by rw [updA_len] at hj; exact hj
  dsimp only
  rw [hhead, updA_at, updR_len]
  obtain ⟨a1, a2, a3, a4⟩ := q5 _ (List.getElem_mem hj')
  refine ⟨a1, a2, a3, fun c hc => ?_⟩
  rcases mem_modify hc with h | ⟨h1, h2⟩
  · exact a4 c h
  · have := hf j hj'
    rw [curC, List.getD_eq_getElem?_getD, List.getElem?_eq_getElem h1] at this
    rw [h2]; exact this
theorem remC_ok {key : ByteArray} {c : RCl} (h : wrongB c = false) : wrongB (remC key c) = false := by
  rw [wrongB_iff] at h ⊢
  obtain ⟨h1, h2, h3, h4, h5, h6, h7⟩ := h
  refine ⟨by simp only [remC]; rw [xorK_size]; exact h1, ?_, ?_, h4, h5, h6, h7⟩
  · simp only [remC]; omega
  · simp only [remC]; omega
def remR (R : Rad) (key : ByteArray) : Rad := { R with rows := updA (remC key) R.s key R.rows }
theorem remR_ok {R : Rad} {key : ByteArray} (hok : rOk R = true) : rOk (remR R key) = true := by
  obtain ⟨q1, q2, q3, q4, q5⟩ := rOk_facts hok
  exact updA_ok hok q1 fun j h => remC_ok ((q5 _ (List.getElem_mem h)).2.2.2 _ (curC_mem (q5 _ (List.getElem_mem h)).1))
theorem remR_lens {R : Rad} {key : ByteArray} (hl : Lens R) : Lens (remR R key) := by
  refine ⟨by simp only [remR]; rw [updA_len]; exact hl.1, fun x hx => ?_, hl.2.2⟩
  obtain ⟨j, hj, rfl⟩ := List.getElem_of_mem hx
  simp only [remR] at hj ⊢
  rw [updA_at, updR_len]
  exact hl.2.1 _ (List.getElem_mem _)

/-! the peel ends: fewer and fewer cells with a flow -/
def pos (c : RCl) : Bool := decide (1 ≤ c.2.1)
def posN (R : Rad) : Nat := (R.rows.map (·.countP pos)).sum
theorem countP_modify {α : Type} {p : α → Bool} {f : α → α} (hf : ∀ x, p (f x) = true → p x = true) : ∀ (l : List α) (q : Nat), (l.modify q f).countP p ≤ l.countP p
  | [], q => by simp
  | y :: l, 0 => by
    rw [List.modify_zero_cons, List.countP_cons, List.countP_cons]
    by_cases h : p (f y) = true
    · simp [h, hf y h]
    · simp [h]
  | y :: l, q + 1 => by
    rw [List.modify_succ_cons, List.countP_cons, List.countP_cons]
    have := countP_modify hf l q
    omega
theorem countP_modify_lt {α : Type} {p : α → Bool} {f : α → α} : ∀ (l : List α) (q : Nat) (h : q < l.length), p l[q] = true → p (f l[q]) = false → (l.modify q f).countP p < l.countP p
  | [], q, h, _, _ => by simp at h
  | y :: l, 0, _, h1, h2 => by
    rw [List.modify_zero_cons, List.countP_cons, List.countP_cons]
    have h1 : p y = true := h1
    have h2 : p (f y) = false := h2
    simp [h1, h2]
  | y :: l, q + 1, h, h1, h2 => by
    rw [List.modify_succ_cons, List.countP_cons, List.countP_cons]
    have := countP_modify_lt l q (by simpa using h) (by simpa using h1) (by simpa using h2)
    omega
theorem sum_lt : ∀ (l m : List Nat), l.length = m.length → (∀ j (h : j < l.length) (h' : j < m.length), l[j] ≤ m[j]) → ∀ i (h : i < l.length) (h' : i < m.length), l[i] < m[i] → l.sum < m.sum
  | [], _, _, _, i, h, _, _ => by simp at h
  | _ :: _, [], hl, _, _, _, _, _ => by simp at hl
  | x :: l, y :: m, hl, hle, i, h, h', hlt => by
    have hxy : x ≤ y := hle 0 (by simp) (by simp)
    have hle2 : ∀ j (h : j < l.length) (h' : j < m.length), l[j] ≤ m[j] := fun j a b => hle (j + 1) (by simpa using a) (by simpa using b)
    have hl2 : l.length = m.length := by simpa using hl
    have hs : l.sum ≤ m.sum := by
      clear hlt h h' hle hl
      induction l generalizing m with
      | nil => simp
      | cons a l ih =>
        cases m with
        | nil => simp at hl2
        | cons b m =>
          have h0 := hle2 0 (by simp) (by simp)
          have := ih m (fun j p q => hle2 (j + 1) (by simpa using p) (by simpa using q)) (by simpa using hl2)
          simp at h0 ⊢
          omega
    rw [List.sum_cons, List.sum_cons]
    cases i with
    | zero => simp at hlt; omega
    | succ i =>
      have := sum_lt l m hl2 hle2 i (by simpa using h) (by simpa using h') (by simpa using hlt)
      omega
theorem pureOf_some {R : Rad} {told : List ByteArray} {k : ByteArray} (h : pureOf R told = some k) : ∃ (i p : Nat) (hi : i < R.rows.length) (hp : p < R.rows[i].length), okC R told i R.rows[i].length p R.rows[i][p] = true ∧ R.rows[i][p].1 = k := by
  unfold pureOf at h
  obtain ⟨i, hi, h⟩ := List.exists_of_findSome?_eq_some h
  have hi := List.mem_range.1 hi
  unfold pureR at h
  have hgi : R.rows.getD i [] = R.rows[i] := by rw [List.getD_eq_getElem?_getD, List.getElem?_eq_getElem hi]; rfl
  rw [hgi] at h
  obtain ⟨p, hp, h⟩ := List.exists_of_findSome?_eq_some h
  have hp := List.mem_range.1 hp
  have hgp : R.rows[i].getD p zC = R.rows[i][p] := by rw [List.getD_eq_getElem?_getD, List.getElem?_eq_getElem hp]; rfl
  rw [hgp] at h
  split at h
  · rename_i hc
    exact ⟨i, p, hi, hp, hc, Option.some.inj h⟩
  · cases h
theorem okC_facts {R : Rad} {told : List ByteArray} {i n p : Nat} {c : RCl} (h : okC R told i n p c = true) : c.2.1 = 1 ∧ rplc R c.1 i n = (p : Int) ∧ hasB R.fs R.h R.bits c.1 = true ∧ c.1 ∉ told := by
  unfold okC at h
  simp only [Bool.and_eq_true, decide_eq_true_eq, Bool.not_eq_true', List.any_eq_false] at h
  obtain ⟨⟨⟨h1, h2⟩, h3⟩, h4⟩ := h
  exact ⟨h1, h2, h3, fun hx => h4 _ hx (sEq_iff.2 rfl)⟩
theorem posN_rem {R : Rad} {told : List ByteArray} {k : ByteArray} (h : pureOf R told = some k) : posN (remR R k) < posN R := by
  obtain ⟨i, p, hi, hp, hc, rfl⟩ := pureOf_some h
  obtain ⟨h1, h2, -, -⟩ := okC_facts hc
  unfold posN
  have hmono : ∀ x, pos (remC R.rows[i][p].1 x) = true → pos x = true := fun x hx => by
    have hx : 1 ≤ max (x.2.1 - 1) (-1099511627776) := of_decide_eq_true hx
    exact decide_eq_true (by omega)
  refine sum_lt _ _ (by simp [remR, updA_len]) (fun j a b => ?_) i (by simpa [remR, updA_len] using hi) (by simpa using hi) ?_
  · simp only [List.getElem_map, remR, updA_at]
    exact countP_modify hmono _ _
  · simp only [List.getElem_map, remR, updA_at]
    have hq : (hcell (hrow R.s ((i : Int) + 1)) R.rows[i][p].1 (R.rows[i].length : Int)).toNat = p := by
      have : hcell (hrow R.s ((i : Int) + 1)) R.rows[i][p].1 (R.rows[i].length : Int) = (p : Int) := h2
      rw [this]; rfl
    unfold updR
    rw [hq]
    exact countP_modify_lt _ _ hp (by simp [pos, h1]) (decide_eq_false (by simp only [remC, h1]; omega))
theorem pureOf_size {R : Rad} {told : List ByteArray} {k : ByteArray} (hok : rOk R = true) (h : pureOf R told = some k) : k.size = 37 := by
  obtain ⟨i, p, hi, hp, hc, rfl⟩ := pureOf_some h
  obtain ⟨q1, q2, q3, q4, q5⟩ := rOk_facts hok
  exact ((wrongB_iff _).1 ((q5 _ (List.getElem_mem hi)).2.2.2 _ (List.getElem_mem hp))).1

/-- A peel of so many rounds. -/
def peelN : Nat → Rad → List ByteArray → List ByteArray × Rad
  | 0, R, out => (ssort out, R)
  | n + 1, R, out => match pureOf R out with
    | some k => peelN n (remR R k) (out ++ [k])
    | none => (ssort out, R)
def peel (R : Rad) : List ByteArray × Rad := peelN (posN R) R []
end Go.Proofs.YtmgnmnogiajlgaaF
end

section
/- All that is pure, again and again. -/
set_option maxRecDepth 8192
set_option maxHeartbeats 1000000
namespace Go.Proofs.YtmgnmnogiajlgaaF
open Go Go.Proofs.Vm

theorem sort_strs {H : Hp} {id : Nat} {l : List ByteArray} (h : H[id]? = some (.clo (l.map cStr) false)) (hlt : l.length < 4611686018427387904) : TV.S 40 [.one (.sl id 0 l.length l.length)] H = some (und, H.set id (.clo ((ssort l).map cStr) false)) := by
  refine TT_baseS ?_
  show (if (40 : FuncId) = 40 then sortSRun [.one (.sl id 0 l.length l.length)] H else none) = _
  rw [if_pos rfl]
  have hm : mapO strOf1 (l.map cStr) = some l := mapO_strOf1 l
  simp only [sortSRun, h, hm, List.length_map]
  simp [hlt]
  rfl
theorem posN_le {R : Rad} (hok : rOk R = true) : posN R ≤ 1792 := by
  obtain ⟨q1, q2, q3, q4, q5⟩ := rOk_facts hok
  have key : ∀ l : List (List RCl), (∀ x ∈ l, x.length ≤ 256) → (l.map (·.countP pos)).sum ≤ 256 * l.length := by
    intro l
    induction l with
    | nil => intro _; simp
    | cons x l ih =>
      intro h
      have h1 := h x List.mem_cons_self
      have h2 := ih fun y hy => h y (List.mem_cons_of_mem _ hy)
      have h3 := List.countP_le_length (p := pos) (l := x)
      simp only [List.map_cons, List.sum_cons, List.length_cons]
      omega
  have := key R.rows fun x hx => (q5 x hx).2.1
  unfold posN
  omega
theorem peelN_none {R : Rad} {out : List ByteArray} (h : pureOf R out = none) : ∀ n, peelN n R out = (ssort out, R)
  | 0 => rfl
  | n + 1 => by rw [peelN, h]
theorem cStr_all (l : List ByteArray) : AllLen (l.map cStr) 1 := by intro x hx; obtain ⟨y, _, rfl⟩ := List.mem_map.1 hx; rfl
theorem take_str (l : List ByteArray) : (l.map cStr).take l.length = l.map cStr := List.take_of_length_le (by simp)
theorem ssort_len (l : List ByteArray) : (ssort l).length = l.length := List.length_mergeSort _
theorem take_ssort (l : List ByteArray) : ((ssort l).map cStr).take l.length = (ssort l).map cStr := List.take_of_length_le (by simp [ssort_len])
def peelA (r : List ByteArray × Rad) : CA := .tup [(false, [cSs r.1]), (true, cRad r.2)]
theorem rd_Peel {R : Rad} (hs : Seeds R) (hl : Lens R) (hok : rOk R = true) : TV.pu 14 [.agg (cRad R)] = some (peelA (peel R)) := by
  refine run14 (by simp) ?_
  obtain ⟨res, hres⟩ : ∃ res, peel R = res := ⟨_, rfl⟩
  rw [hres]
  simp -implicitDefEqProofs [Try.f14, cRad, vmove, isNil]
  obtain ⟨I, hI⟩ : ∃ I : Nat → St → Prop, ∀ k s', I k s' ↔ (∃ e h R' out n L E1 E3 E4, s' = ⟨e, h⟩ ∧ h = .opn [(cRad R').map .c] false :: E1 :: .opn [[.c (.v (.int .u64 0)), .c (.v (.int .u64 0)), .c (.v (.int .i64 0)), .sl 3 0 0 0, .sl 4 0 0 0]] false :: E3 :: E4 :: .clo (out.map cStr) false :: L ∧
      e 1 = .one (.ptr ⟨0, 0, 0, 1⟩) ∧ e 3 = .one (.ptr ⟨2, 0, 0, 1⟩) ∧ e 4 = .one (.sl 5 0 out.length out.length) ∧ Seeds R' ∧ Lens R' ∧ rOk R' = true ∧ k = posN R' ∧ posN R' ≤ n ∧ peelN n R' out = res ∧ out.length + posN R' ≤ 1792) := ⟨_, fun _ _ => Iff.rfl⟩
  refine wpL_ind I ?_ (posN R) _ ((hI _ _).2 ⟨_, _, R, [], posN R, [], .clo [] false, .clo [] false, .clo [] false, rfl, by simp [cRad], by simp, by simp, by simp, hs, hl, hok, rfl, Nat.le_refl _, hres, by have := posN_le hok; simpa using this⟩)
  clear hs hl hok
  intro k st hst
  obtain ⟨e, h, R', out, n, L, E1, E3, E4, rfl, rfl, e1, e3, e4, hs, hl, hok, rfl, hn, hpn, hol⟩ := (hI _ _).1 hst
  have hP := rd_Pure (told := out) hs hl hok (by omega)
  simp only [cRad, cSs, cRws, cRw] at hP
  cases hpo : pureOf R' out with
  | none =>
    rw [hpo] at hP
    have hr := peelN_none hpo n
    rw [hpn] at hr
    subst hr
    have hso := sort_strs (H := .opn [(cRad R').map .c] false :: E1 :: .opn [[.c (.v (.int .u64 0)), .c (.v (.int .u64 0)), .c (.v (.int .i64 0)), .sl 3 0 0 0, .sl 4 0 0 0]] false :: E3 :: E4 :: .clo (out.map cStr) false :: L) (id := 5) (l := out) rfl (by omega)
    simp only [pureA] at hP
    simp only [cRad, cRws, cRw, List.map_cons, List.map_nil] at hso
    simp -implicitDefEqProofs [e1, e3, e4, take_str, cRad, cRws, cRw, vmove, isNil, hP, hso, vstore, cellsOf?, Ent.wrO, wr]
    simp [qa, comps, peelA, cSs, cRad, cRws, cRw, ssort_len, take_ssort]
  | some key =>
    rw [hpo] at hP
    have hk37 := pureOf_size hok hpo
    have hdec := posN_rem hpo
    have hRm := rd_Remove hs hl hok hk37
    simp only [pureA] at hP
    simp only [cRad, cRws, cRw] at hRm
    have b1 : 16 * (out.length + 1) ≤ 140737488355328 := by omega
    have b2 : out.length + 1 ≤ 4611686018427387904 := by omega
    have hal := cStr_all out
    simp -implicitDefEqProofs [e1, e4, take_str, cRad, cRws, cRw, vmove, isNil, hP, hRm, vstore, cellsOf?, Ent.wrO, wr, vappend_sp es58 es58 el9, vbuildSlice_eq es58 el9, fzParts, setAll, rchParts, rch, elemsOf, b1, b2, hal]
    obtain ⟨m, rfl⟩ : ∃ m, n = m + 1 := ⟨n - 1, by omega⟩
    rw [peelN, hpo] at hpn
    exact ⟨posN (remR R' key), hdec, (hI _ _).2 ⟨_, _, remR R' key, out ++ [key], m, L ++ [.clo [[CV.v (.string key)]] false], E1, E3, E4, rfl, by simp [remR, cRad, cRws, cRw, cStr], by simp [e1], by simp [e3], by simp, hs, remR_lens hl, remR_ok hok, rfl, by omega, hpn, by simp; omega⟩⟩
end Go.Proofs.YtmgnmnogiajlgaaF
end

section
/- New radars. -/
set_option maxRecDepth 8192
set_option maxHeartbeats 1000000
namespace Go.Proofs.YtmgnmnogiajlgaaF
open Go Go.Proofs.Vm

theorem vcopy_eq {P : Program} {H : Hp} {t e : TypeId} {sz b : Nat} {z : List CV} (he : elemOfSlice P t = some e) (hel : elOf P e = some (sz, b, z)) {id o n tot : Nat} {l xs : List (List CV)} {x : AV} (hx : elemsOf H x = some xs) (hl : H[id]? = some (.clo l false)) (h1 : l.length = tot) (h2 : o + n ≤ tot) (h3 : AllLen l sz) (h4 : AllLen xs sz) :
    vcopy P H t (.one (.sl id o n tot)) x = some (.one (.c (.v (.int .i64 (min xs.length n : Nat)))), H.set id (.clo (wr l o (xs.take n)) false)) := by
  obtain ⟨i, v, g1, g2, g3, g4, g5, g6, g7⟩ := elOf_facts hel
  unfold vcopy
  rw [hx, he]
  dsimp only
  rw [hl, g1]
  dsimp only
  rw [if_pos ⟨h1, h2, by rw [g3]; exact h3, by rw [g3]; exact h4⟩]
theorem wr_eq {α : Type} : ∀ (xs l : List α) (o : Nat), o + xs.length ≤ l.length → wr l o xs = l.take o ++ (xs ++ l.drop (o + xs.length))
  | [], l, o, _ => by simp [wr]
  | x :: xs, l, o, h => by
    have h' : o + (xs.length + 1) ≤ l.length := h
    rw [wr, wr_eq xs _ _ (by simp; omega)]
    rw [List.take_set, List.drop_set_of_lt (by omega), List.take_add_one, List.getElem?_eq_getElem (by omega)]
    have : o < l.length := by omega
    rw [List.length_cons, show o + 1 + xs.length = o + (xs.length + 1) by omega]
    simp only [Option.toList_some]
    rw [List.set_append_right _ _ (by simp; omega)]
    simp [Nat.min_eq_left (Nat.le_of_lt this)]
/-- The first so many are it, the other ones not yet. -/
def repP {α : Type} (c z : α) (k n : Nat) : List α := List.replicate k c ++ List.replicate (n - k) z
theorem repP_len {α : Type} (c z : α) {k n : Nat} (h : k ≤ n) : (repP c z k n).length = n := by simp [repP]; omega
theorem repP_wr {α : Type} (c z : α) {k m n : Nat} (h : k + m ≤ n) : wr (repP c z k n) k (List.replicate m c) = repP c z (k + m) n := by
  rw [wr_eq _ _ _ (by rw [repP_len _ _ (by omega)]; simpa using h)]
  unfold repP
  rw [List.take_left' (by simp), List.length_replicate, List.drop_append, List.drop_eq_nil_of_le (by simp), List.length_replicate, List.drop_replicate, List.nil_append, ← List.append_assoc, List.replicate_append_replicate, show n - k - (k + m - k) = n - (k + m) by omega]
theorem repP_take {α : Type} (c z : α) {k n : Nat} : (repP c z k n).take k = List.replicate k c := by unfold repP; rw [List.take_left' (by simp)]
theorem slo_from {P : Program} {H : Hp} {t e sz nid : Nat} (he : elemOfSlice P t = some e) (hs : pv P (sizeOf e) = some sz) {id n tot k : Nat} (hl : lenIs H id tot = true) (h1 : k < n) (h2 : elAt H id tot k = some sz) : vslice P H nid t (.one (.sl id 0 n tot)) (some (vI .i64 (k : Int))) none none = qa (.one (.sl id k (n - k) tot)) := by
  unfold vslice
  simp only [he, hs, optInt, Option.getD_none, Option.getD_some]
  rw [if_pos ⟨hl, by omega, by omega, by omega, .inr (by simpa using h2)⟩]
  simp
theorem slo_to {P : Program} {H : Hp} {t e sz nid : Nat} (he : elemOfSlice P t = some e) (hs : pv P (sizeOf e) = some sz) {id n tot k : Nat} (hl : lenIs H id tot = true) (h1 : k ≤ n) (h2 : elAt H id tot 0 = some sz) : vslice P H nid t (.one (.sl id 0 n tot)) none (some (vI .i64 (k : Int))) none = qa (.one (.sl id 0 k tot)) := by
  unfold vslice
  simp only [he, hs, optInt, Option.getD_none, Option.getD_some]
  rw [if_pos ⟨hl, by omega, by omega, by omega, .inr (by simpa using h2)⟩]
  simp
theorem bits_Mul {a b : Int} (ha0 : 0 ≤ a) (ha : a < 18446744073709551616) (hb0 : 0 ≤ b) (hb : b < 18446744073709551616) (h : a * b < 18446744073709551616) : TV.pu 46 [cI .u64 a, cI .u64 b] = some (.tup [(false, [.v (.int .u64 0)]), (false, [.v (.int .u64 (a * b))])]) := by
  refine run46 (by simp) ?_
  have hm := Mul64 ha0 ha hb0 hb
  have h0 : 0 ≤ a * b := Int.mul_nonneg ha0 hb0
  rw [show a * b / 18446744073709551616 = 0 by omega, show a * b % 18446744073709551616 = a * b by omega] at hm
  simp -implicitDefEqProofs [Try.f46, hm]
theorem cells_Repeat {c : RCl} {n : Nat} (h0 : 1 ≤ n) (h1 : n ≤ 256) : TV.pu 19 [.one (cRw [c]), cI .i64 n] = some (.one (cRw (List.replicate n c))) := by
  refine run19 (by simp) ?_
  have hm := bits_Mul (a := 1) (b := (n : Int)) (by omega) (by omega) (by omega) (by omega) (by omega)
  have hn0 : ¬ (n : Int) < 0 := by omega
  have w0 : IntKind.u64.wrap 1 = 1 := by decide
  have w1 : IntKind.u64.wrap (n : Int) = (n : Int) := by rw [IntKind.wrap_u64]; omega
  have w2 : IntKind.i64.wrap (n : Int) = (n : Int) := w64_id (by omega) (by omega)
  have hg : ¬ (9223372036854775807 : Int) < n := by omega
  have hz : n ≠ 0 := by omega
  rw [Int.one_mul] at hm
  simp -implicitDefEqProofs [Try.f19, cRw, vmove, isNil, hn0, w0, w1, w2, hm, hg, vmakeSlice_eq es70 el73, small, hz]
  refine ⟨⟨by omega, by omega⟩, ?_⟩
  have hcp : ∀ (k : Nat) (L : Hp) (x : AV) (xs : List (List CV)), k ≤ n → elemsOf (.clo [] false :: .clo (repP (cCl c) (cCl zC) k n) false :: L) x = some xs → AllLen xs 4 → vcopy Try.prog (.clo [] false :: .clo (repP (cCl c) (cCl zC) k n) false :: L) 70 (.one (.sl 1 k (n - k) n)) x = some (.one (.c (.v (.int .i64 (min xs.length (n - k) : Nat)))), .clo [] false :: .clo (wr (repP (cCl c) (cCl zC) k n) k (xs.take (n - k))) false :: L) := fun k L x xs hk hx hxs => by
    exact vcopy_eq es70 el73 hx rfl (repP_len _ _ hk) (by omega) (fun y hy => by
      rcases List.mem_append.1 hy with h | h
      · rw [List.eq_of_mem_replicate h]; rfl
      · rw [List.eq_of_mem_replicate h]; rfl) hxs
  have h0 : vcopy Try.prog [.clo [] false, .clo (List.replicate n [.v (.string ByteArray.empty), .v (.int .i64 0), .v (.int .i64 0), .v (.int .i64 0)]) false] 70 (.one (.sl 1 0 n n)) (.one (.c (.arr [cCl c]))) = some (.one (.c (.v (.int .i64 1))), [.clo [] false, .clo (repP (cCl c) (cCl zC) 1 n) false]) := by
    have h := hcp 0 [] (.one (.c (.arr [cCl c]))) [cCl c] (by omega) rfl (by intro y hy; rw [List.mem_singleton.1 hy]; rfl)
    rw [show [cCl c].take (n - 0) = List.replicate 1 (cCl c) by rw [List.take_of_length_le (by simp; omega)]; rfl, repP_wr _ _ (by omega), show min [cCl c].length (n - 0) = 1 by simp; omega] at h
    simp only [repP, Nat.sub_zero, List.replicate_zero, List.nil_append] at h ⊢
    exact h
  simp -implicitDefEqProofs [h0]
  obtain ⟨I, hI⟩ : ∃ I : Nat → St → Prop, ∀ m s', I m s' ↔ (∃ e k, s' = ⟨e, [.clo [] false, .clo (repP (cCl c) (cCl zC) k n) false]⟩ ∧ e 7 = .one (.sl 1 0 n n) ∧ e 8 = vI .i64 (k : Nat) ∧ 1 ≤ k ∧ k ≤ n ∧ m = n - k) := ⟨_, fun _ _ => Iff.rfl⟩
  refine wpL_ind I ?_ (n - 1) _ ((hI _ _).2 ⟨_, 1, rfl, by simp, by simp, by omega, by omega, rfl⟩)
  intro m st hst
  obtain ⟨e, k, rfl, e7, e8, hk1, hk2, rfl⟩ := (hI _ _).1 hst
  by_cases d : k < n
  · have d' : (k : Int) < n := by omega
    have hl := repP_len (cCl c) (cCl zC) hk2
    have ht := repP_take (cCl c) (cCl zC) (k := k) (n := n)
    obtain ⟨q, hq⟩ : ∃ q, q = min k (n - k) := ⟨_, rfl⟩
    have hc := hcp k [] (.one (.sl 1 0 k n)) (List.replicate k (cCl c)) hk2 (by simp [elemsOf, hl, ht]) (by intro y hy; rw [List.eq_of_mem_replicate hy]; rfl)
    rw [List.length_replicate, List.take_replicate, Nat.min_comm (n - k) k, ← hq, repP_wr _ _ (by omega)] at hc
    have w3 : IntKind.i64.wrap ((k : Int) + (q : Int)) = ((k + q : Nat) : Int) := by rw [w64_id (by omega) (by omega)]; omega
    have hle : lenIs [.clo [] false, .clo (repP (cCl c) (cCl zC) k n) false] 1 n = true := by simp [lenIs, Ent.len, hl]
    have hel : ∀ j, j < n → elAt [.clo [] false, .clo (repP (cCl c) (cCl zC) k n) false] 1 n j = some 4 := fun j hj => by
      have hj' : j < (repP (cCl c) (cCl zC) k n).length := by rw [hl]; exact hj
      simp only [elAt, List.getElem?_cons_succ, List.getElem?_cons_zero, hl, if_true, List.getElem?_eq_getElem hj', Option.map_some]
      rcases List.mem_append.1 (List.getElem_mem hj') with h | h
      · rw [List.eq_of_mem_replicate h]; rfl
      · rw [List.eq_of_mem_replicate h]; rfl
    have hf := slo_from (P := Try.prog) (nid := 2) es70 sz73 hle d (hel k d)
    have hto := slo_to (P := Try.prog) (nid := 2) es70 sz73 hle hk2 (hel 0 (by omega))
    simp -implicitDefEqProofs [e7, e8, d', hc, w3, hl, hf, hto]
    exact ⟨n - (k + q), by omega, (hI _ _).2 ⟨_, k + q, rfl, by simp [e7], by simp, by omega, by omega, rfl⟩⟩
  · have hkn : k = n := by omega
    subst hkn
    have hrk : repP (cCl c) (cCl zC) k k = (List.replicate k c).map cCl := by simp [repP]
    rw [hrk]
    simp -implicitDefEqProofs [e7, e8]
end Go.Proofs.YtmgnmnogiajlgaaF
end

section
/- New radars. -/
set_option maxRecDepth 8192
set_option maxHeartbeats 1000000
namespace Go.Proofs.YtmgnmnogiajlgaaF
open Go Go.Proofs.Vm

def nC : RCl := (nought, 0, 0, 0)
def newRad (seed : Int) (bits : Nat) (h : Int) (rows cols : Nat) : Rad := ⟨seed, hrow seed 0, h, List.replicate bits false, List.replicate rows (List.replicate cols nC)⟩
theorem rd_New_arg {seed bits h rows cols : Int} (h0 : 0 ≤ seed) (h1 : seed < 18446744073709551616) (hb : ¬ (1 ≤ bits ∧ bits ≤ 256 ∧ 1 ≤ h ∧ h ≤ 7 ∧ 1 ≤ rows ∧ rows ≤ 7 ∧ 1 ≤ cols ∧ cols ≤ 256)) : TV.pu 5 [cI .u64 seed, cI .i64 bits, cI .i64 h, cI .i64 rows, cI .i64 cols] = some (.tup [(true, cRad zRad), (false, [.v (.int .i64 1)])]) := by
  refine run5 (by simp) ?_
  have hrw := hash_Row (s := seed) (i := 0) h0 h1 (by omega) (by omega)
  have fin : ∀ (H : Hp), True := fun _ => trivial
  by_cases g : 1 ≤ bits ∧ bits ≤ 256 ∧ 1 ≤ h ∧ h ≤ 7
  · have hn := bloom_New (seed := hrow seed 0) (bits := bits) (h := h) g.1 g.2.1 g.2.2.1 g.2.2.2
    simp only [cF] at hn
    by_cases g1 : rows < 1
    · simp -implicitDefEqProofs [Try.f5, hrw, hn, vmove, isNil, vstore, cellsOf?, Ent.wrO, wr, g1]
      simp [qa, zRad, cRad, cRws]
    · by_cases g2 : 7 < rows
      · simp -implicitDefEqProofs [Try.f5, hrw, hn, vmove, isNil, vstore, cellsOf?, Ent.wrO, wr, g1, g2]
        simp [qa, zRad, cRad, cRws]
      · by_cases g3 : cols < 1
        · simp -implicitDefEqProofs [Try.f5, hrw, hn, vmove, isNil, vstore, cellsOf?, Ent.wrO, wr, g1, g2, g3]
          simp [qa, zRad, cRad, cRws]
        · have g4 : 256 < cols := by omega
          simp -implicitDefEqProofs [Try.f5, hrw, hn, vmove, isNil, vstore, cellsOf?, Ent.wrO, wr, g1, g2, g3, g4]
          simp [qa, zRad, cRad, cRws]
  · have hn := bloom_New_arg (seed := hrow seed 0) (bits := bits) (h := h) g
    simp only [cF, List.map_nil] at hn
    simp -implicitDefEqProofs [Try.f5, hrw, hn, vmove, isNil, vstore, cellsOf?, Ent.wrO, wr]
    simp [qa, zRad, cRad, cRws]

theorem rd_New {seed hh : Int} {bits rows cols : Nat} (h0 : 0 ≤ seed) (h1 : seed < 18446744073709551616) (hb : 1 ≤ bits ∧ bits ≤ 256 ∧ 1 ≤ hh ∧ hh ≤ 7 ∧ 1 ≤ rows ∧ rows ≤ 7 ∧ 1 ≤ cols ∧ cols ≤ 256) : TV.pu 5 [cI .u64 seed, cI .i64 bits, cI .i64 hh, cI .i64 rows, cI .i64 cols] = some (.tup [(true, cRad (newRad seed bits hh rows cols)), (false, [.v (.int .i64 0)])]) := by
  refine run5 (by simp) ?_
  obtain ⟨b1, b2, b3, b4, b5, b6, b7, b8⟩ := hb
  have hrw := hash_Row (s := seed) (i := 0) h0 h1 (by omega) (by omega)
  have hn := bloom_New (seed := hrow seed 0) (bits := (bits : Int)) (h := hh) (by omega) (by omega) b3 b4
  simp only [cF, Int.toNat_natCast] at hn
  have g1 : ¬ (rows : Int) < 1 := by omega
  have g2 : ¬ 7 < (rows : Int) := by omega
  have g3 : ¬ (cols : Int) < 1 := by omega
  have g4 : ¬ 256 < (cols : Int) := by omega
  simp -implicitDefEqProofs [Try.f5, hrw, hn, vmove, isNil, vstore, cellsOf?, Ent.wrO, wr, g1, g2, g3, g4]
  have hcr := cells_Repeat (c := nC) b7 b8
  obtain ⟨R, hR⟩ : ∃ R, R = List.replicate cols (cCl nC) := ⟨_, rfl⟩
  rw [show cRw (List.replicate cols nC) = .arr R by rw [hR, cRw, List.map_replicate]] at hcr
  simp only [nC, nought, cCl, cRw, List.map_cons, List.map_nil] at hcr
  obtain ⟨I, hI⟩ : ∃ I : Nat → St → Prop, ∀ k s', I k s' ↔ (∃ e h i L E3 E4 E5, s' = ⟨e, h⟩ ∧ h = .opn [[.c (.v (.int .u64 0)), .c (.v (.int .u64 0)), .c (.v (.int .i64 0)), .sl 1 0 0 0, .sl 2 0 0 0]] false :: .clo [] false :: .clo [] false :: E3 :: E4 :: E5 :: .clo (List.replicate i [.arr R]) false :: .opn [[.c (.v (.int .u64 seed)), .c (.v (.int .u64 (hrow seed 0))), .c (.v (.int .i64 hh)), .c (.arr (List.replicate bits (cB1 false))), .sl 6 0 i i]] false :: L ∧
      e 4 = vI .i64 cols ∧ e 10 = .one (.ptr ⟨0, 0, 0, 1⟩) ∧ e 14 = .one (.ptr ⟨7, 0, 0, 1⟩) ∧ e 45 = vI .i64 rows ∧ e 46 = vI .i64 (i : Nat) ∧ i + k = rows) := ⟨_, fun _ _ => Iff.rfl⟩
  refine wpL_ind I ?_ rows _ ((hI _ _).2 ⟨_, _, 0, _, _, _, _, rfl, rfl, by simp, by simp, by simp, by simp, by simp, by omega⟩)
  intro k st hst
  obtain ⟨e, hp, i, L, E3, E4, E5, rfl, rfl, e4, e10, e14, e45, e46, hk⟩ := (hI _ _).1 hst
  by_cases d : i < rows
  · have d' : (i : Int) < rows := by omega
    have w3 : IntKind.i64.wrap ((i : Int) + 1) = ((i + 1 : Nat) : Int) := by rw [w64_id (by omega) (by omega)]; omega
    have c1 : 24 * (i + 1) ≤ 140737488355328 := by omega
    have c2 : i + 1 ≤ 4611686018427387904 := by omega
    have hal : AllLen (List.replicate i [CV.arr R]) 1 := by intro x hx; rw [List.eq_of_mem_replicate hx]; rfl
    simp -implicitDefEqProofs [e4, e14, e45, e46, d', w3, vmove, isNil, vstore, cellsOf?, Ent.wrO, wr, hcr, rcha, rch, frzAll, Ent.frz, vappend_sp es29 es29 el70, vbuildSlice_eq es29 el70, vbuildSlice_eq es70 el73, fzParts, setAll, rchParts, rch, elemsOf, c1, c2, hal]
    exact ⟨k - 1, by omega, (hI _ _).2 ⟨_, _, i + 1, _, E3, E4, E5, rfl, by rw [List.replicate_succ'], by simp [e4], by simp [e10], by simp [e14], by simp [e45], by simp, by omega⟩⟩
  · have d' : ¬ (i : Int) < rows := by omega
    have hi : i = rows := by omega
    subst hi
    simp -implicitDefEqProofs [e10, e14, e45, e46, d', vstore, cellsOf?, Ent.wrO, wr]
    simp [qa, comps, newRad, cRad, cRws, cRw, hR]
end Go.Proofs.YtmgnmnogiajlgaaF
end

section
/- No bit of a new filter is set. -/
set_option maxRecDepth 8192
set_option maxHeartbeats 1000000
namespace Go.Proofs.YtmgnmnogiajlgaaF
open Go Go.Proofs.Vm

end Go.Proofs.YtmgnmnogiajlgaaF
end

section
/- The document's radar: a turn of a key's cells. -/
set_option maxRecDepth 8192
set_option maxHeartbeats 1000000
namespace Go.Proofs.YtmgnmnogiajlgaaF
open Go Go.Proofs.Vm

def turnC (put : Bool) (key : ByteArray) (pk bb fl : Int) (c : RCl) : RCl := (if put then xorK c.1 key else c.1, max (c.2.1 + fl) (-1099511627776), c.2.2.1 + pk, c.2.2.2 + bb)
end Go.Proofs.YtmgnmnogiajlgaaF
end

section
/- The document's radar: a packet more, a flow less. -/
set_option maxRecDepth 8192
set_option maxHeartbeats 1000000
namespace Go.Proofs.YtmgnmnogiajlgaaF
open Go Go.Proofs.Vm

theorem modify_congr {α : Type} {f g : α → α} : ∀ (l : List α) (q : Nat), (∀ x ∈ l, f x = g x) → l.modify q f = l.modify q g
  | [], q, _ => by simp
  | y :: l, 0, h => by simp [h y List.mem_cons_self]
  | y :: l, q + 1, h => by simp [modify_congr l q fun x hx => h x (List.mem_cons_of_mem _ hx)]
theorem updA_congr {f g : RCl → RCl} {s : Int} {key : ByteArray} {rows : List (List RCl)} (h : ∀ x ∈ rows, ∀ c ∈ x, f c = g c) : updA f s key rows = updA g s key rows := by
  apply List.ext_getElem
  · rw [updA_len, updA_len]
  · intro j h1 h2
    rw [updA_at, updA_at]
    exact modify_congr _ _ (h _ (List.getElem_mem _))
theorem turnC_rem {key : ByteArray} {c : RCl} : turnC true key 0 0 (-1) c = remC key c := by
  simp only [turnC, remC, if_true, Int.add_zero]
  rfl
theorem turnC_add {fr : Bool} {key : ByteArray} {n : Int} {c : RCl} (h : wrongB c = false) : turnC fr key 1 n (if fr then 1 else 0) c = addC fr key n c := by
  obtain ⟨h1, h2, h3, h4, h5, h6, h7⟩ := (wrongB_iff _).1 h
  cases fr with
  | true =>
    have : max (c.2.1 + 1) (-1099511627776) = c.2.1 + 1 := by omega
    simp [turnC, addC, this]
  | false =>
    have : max (c.2.1 + 0) (-1099511627776) = c.2.1 := by omega
    simp [turnC, addC] at this ⊢
    exact this
theorem addRad_ok {R : Rad} {key : ByteArray} {n : Int} (hok : rOk R = true) : rOk (addRad R key n) = true ↔ ∀ j, ∀ h : j < R.rows.length, wrongB (addC (freshB R key) key n (curC R.s key (j : Int) R.rows[j])) = false := by
  obtain ⟨q1, q2, q3, q4, q5⟩ := rOk_facts hok
  constructor
  · intro h j hj
    obtain ⟨p1, p2, p3, p4, p5⟩ := rOk_facts h
    have hj' : j < (updA (addC (freshB R key) key n) R.s key R.rows).length := by rw [updA_len]; exact hj
    have hm := (p5 (updA (addC (freshB R key) key n) R.s key R.rows)[j] (List.getElem_mem hj')).2.2.2
    rw [updA_at] at hm
    have h1 := (q5 _ (List.getElem_mem hj)).1
    have hc := hcell_range (hrow R.s ((j : Int) + 1)) key (R.rows[j].length : Int) (by omega)
    have hq : (hcell (hrow R.s ((j : Int) + 1)) key (R.rows[j].length : Int)).toNat < R.rows[j].length := by omega
    have : addC (freshB R key) key n (curC R.s key (j : Int) R.rows[j]) = (updR (addC (freshB R key) key n) R.s key (j : Int) R.rows[j])[(hcell (hrow R.s ((j : Int) + 1)) key (R.rows[j].length : Int)).toNat]'(by rw [updR_len]; exact hq) := by
      simp only [updR, List.getElem_modify, if_true]
      rw [curC, List.getD_eq_getElem?_getD, List.getElem?_eq_getElem hq]
      rfl
    rw [this]
    exact hm _ (List.getElem_mem _)
  · intro h
    refine updA_ok hok ?_ h
    rw [fOk_iff] at q1 ⊢
    rw [addB_len]
    exact q1
theorem rd_Add' {R : Rad} {key : ByteArray} {n : Int} (hs : Seeds R) (hl : Lens R) (hok : rOk R = true) (hk37 : key.size = 37) (hn : fitB n = true) : TV.pu 7 [.agg (cRad R), cS key, cI .i64 n] = some (if rOk (addRad R key n) = true then .tup [(true, cRad (addRad R key n)), (false, [.v (.int .i64 0)])] else .tup [(true, cRad zRad), (false, [.v (.int .i64 5)])]) := by
  rw [rd_Add hs hl hok hk37 hn]
  congr 1
  by_cases h : rOk (addRad R key n) = true
  · rw [if_pos h, if_pos ((addRad_ok hok).1 h)]
  · rw [if_neg h, if_neg (fun g => h ((addRad_ok hok).2 g))]
theorem addRad_lens {R : Rad} {key : ByteArray} {n : Int} (hl : Lens R) : Lens (addRad R key n) := by
  refine ⟨by simp only [addRad]; rw [updA_len]; exact hl.1, fun x hx => ?_, by simp only [addRad]; rw [addB_len]; exact hl.2.2⟩
  obtain ⟨j, hj, rfl⟩ := List.getElem_of_mem hx
  simp only [addRad] at hj ⊢
  rw [updA_at, updR_len]
  exact hl.2.1 _ (List.getElem_mem _)
end Go.Proofs.YtmgnmnogiajlgaaF
end

section
/- The document's radar: the first pure cell, and all that is peeled. -/
set_option maxRecDepth 8192
set_option maxHeartbeats 1000000
namespace Go.Proofs.YtmgnmnogiajlgaaF
open Go Go.Proofs.Vm

end Go.Proofs.YtmgnmnogiajlgaaF
end

section
/- Strings in order: put among rising ones, sorted. -/
namespace Go.Proofs.YtmgnmnogiajlgaaF
open Go Go.Proofs.Vm

abbrev bl (a : ByteArray) : List UInt8 := a.data.toList
theorem bl_inj {a b : ByteArray} (h : bl a = bl b) : a = b := by
  cases a; cases b; congr; exact Array.toList_inj.1 h
theorem ltS_iff {a b : ByteArray} : ltS a b = true ↔ bl a < bl b := by
  unfold ltS
  rw [toList_eq, toList_eq, bytesLess_eq]
  simp
theorem bl_trans (a b c : ByteArray) (h : bl a ≤ bl b) (g : bl b ≤ bl c) : bl a ≤ bl c := List.le_trans h g
theorem bl_total (a b : ByteArray) : bl a ≤ bl b ∨ bl b ≤ bl a := List.le_total ..
theorem bl_anti (a b : ByteArray) (h : bl a ≤ bl b) (g : bl b ≤ bl a) : a = b := bl_inj (List.le_antisymm h g)
theorem bl_nlt {a b : ByteArray} : ¬ bl a < bl b ↔ bl b ≤ bl a := List.not_lt
theorem ltS_false {a b : ByteArray} : ltS a b = false ↔ bl b ≤ bl a := by
  rw [← bl_nlt, ← ltS_iff]; simp
def Srt (l : List ByteArray) : Prop := l.Pairwise fun a b => bl a ≤ bl b
theorem ssort_srt (l : List ByteArray) : Srt (ssort l) := by
  have h := List.pairwise_mergeSort (le := fun x y : ByteArray => decide (x.data.toList ≤ y.data.toList)) (fun a b c h1 h2 => decide_eq_true (bl_trans a b c (of_decide_eq_true h1) (of_decide_eq_true h2))) (fun a b => by
    rcases bl_total a b with h | h
    · rw [decide_eq_true h]; rfl
    · rw [decide_eq_true h]; simp) l
  exact h.imp fun h => of_decide_eq_true h
theorem ssort_perm (l : List ByteArray) : (ssort l).Perm l := List.mergeSort_perm ..
theorem srt_eq {l m : List ByteArray} (hl : Srt l) (hm : Srt m) (h : l.Perm m) : l = m := List.Perm.eq_of_pairwise (le := fun a b => bl a ≤ bl b) (fun a b _ _ h g => bl_anti a b h g) hl hm h
theorem insS_perm (k : ByteArray) : ∀ l, (insS k l).Perm (k :: l)
  | [] => .refl _
  | x :: l => by
    unfold insS
    split
    · exact .refl _
    · exact ((insS_perm k l).cons x).trans (.swap ..)
theorem insS_mem {k x : ByteArray} {l : List ByteArray} : x ∈ insS k l ↔ x = k ∨ x ∈ l := by
  rw [(insS_perm k l).mem_iff, List.mem_cons]
theorem insS_len (k : ByteArray) (l : List ByteArray) : (insS k l).length = l.length + 1 := (insS_perm k l).length_eq
theorem insS_srt {k : ByteArray} : ∀ {l : List ByteArray}, Srt l → Srt (insS k l)
  | [], _ => List.pairwise_singleton _ _
  | x :: l, h => by
    unfold insS
    obtain ⟨h1, h2⟩ := List.pairwise_cons.1 h
    cases c : ltS k x with
    | true =>
      rw [if_pos rfl]
      have hkx : bl k ≤ bl x := List.le_of_lt (ltS_iff.1 c)
      refine List.pairwise_cons.2 ⟨fun y hy => ?_, h⟩
      rcases List.mem_cons.1 hy with rfl | hy
      · exact hkx
      · exact bl_trans _ _ _ hkx (h1 y hy)
    | false =>
      rw [if_neg (by decide)]
      refine List.pairwise_cons.2 ⟨fun y hy => ?_, insS_srt h2⟩
      rcases insS_mem.1 hy with rfl | hy
      · exact ltS_false.1 c
      · exact h1 y hy
theorem insS_ssort (k : ByteArray) (l : List ByteArray) : insS k (ssort l) = ssort (l ++ [k]) :=
  srt_eq (insS_srt (ssort_srt l)) (ssort_srt _) (((insS_perm k _).trans ((ssort_perm l).cons k)).trans (List.perm_append_singleton k l |>.symm.trans (ssort_perm _).symm))
theorem ssort_mem {x : ByteArray} {l : List ByteArray} : x ∈ ssort l ↔ x ∈ l := (ssort_perm l).mem_iff
theorem ssort_nil : ssort [] = [] := by unfold ssort; simp
theorem ssort_of_srt {l : List ByteArray} (h : Srt l) : ssort l = l := srt_eq (ssort_srt l) h (ssort_perm l)
end Go.Proofs.YtmgnmnogiajlgaaF
end

section
/- The document's radar: all that is peeled. -/
set_option maxRecDepth 8192
set_option maxHeartbeats 1000000
namespace Go.Proofs.YtmgnmnogiajlgaaF
open Go Go.Proofs.Vm

theorem pureOf_mem {R : Rad} {l m : List ByteArray} (h : ∀ x, x ∈ l ↔ x ∈ m) : pureOf R l = pureOf R m := by
  have hany : ∀ x, l.any (sEq x) = m.any (sEq x) := fun x => by
    rw [Bool.eq_iff_iff, List.any_eq_true, List.any_eq_true]
    exact ⟨fun ⟨y, hy, e⟩ => ⟨y, (h y).1 hy, e⟩, fun ⟨y, hy, e⟩ => ⟨y, (h y).2 hy, e⟩⟩
  have : pureR R l = pureR R m := by
    funext i
    unfold pureR okC
    simp only [hany]
  unfold pureOf
  rw [this]
theorem pureOf_ssort {R : Rad} {l : List ByteArray} : pureOf R (ssort l) = pureOf R l := pureOf_mem fun _ => ssort_mem
end Go.Proofs.YtmgnmnogiajlgaaF
end

section
/- Joint: rounds, of radars and what was told of them. -/
set_option maxRecDepth 8192
set_option maxHeartbeats 1000000
namespace Go.Proofs.YtmgnmnogiajlgaaF
open Go Go.Proofs.Vm

/-- A switch: what is left of its radar, and what was told of it. -/
abbrev Sw := Rad × List ByteArray
def jHit (i : Nat) (key : ByteArray) (k : Nat) (x : Sw) : Bool := decide (k = i) || (!x.2.any (sEq key) && hasB x.1.fs x.1.h x.1.bits key)
def jtake (i : Nat) (key : ByteArray) (k : Nat) (x : Sw) : Sw := if jHit i key k x = true then (remR x.1 key, x.2 ++ [key]) else x
def jfind (L : List Sw) : Option (Nat × ByteArray) := (List.range L.length).findSome? fun i => (L[i]?).bind fun x => (pureOf x.1 x.2).map fun k => (i, k)
def jround (L : List Sw) : Option (List Sw) := (jfind L).map fun r => L.mapIdx (jtake r.1 r.2)
def jall : Nat → List Sw → List Sw
  | 0, L => L
  | n + 1, L => match jround L with
    | some L' => jall n L'
    | none => L
def jpos (L : List Sw) : Nat := (L.map fun x => posN x.1).sum
def jdec (l : List Rad) : List Sw := jall (jpos (l.map fun r => (r, []))) (l.map fun r => (r, []))
theorem jfind_some {L : List Sw} {i : Nat} {key : ByteArray} (h : jfind L = some (i, key)) : ∃ h : i < L.length, pureOf L[i].1 L[i].2 = some key ∧ ∀ j (hj : j < L.length), j < i → pureOf L[j].1 L[j].2 = none := by
  unfold jfind at h
  obtain ⟨l1, a, l2, e, h1, h2⟩ := List.findSome?_eq_some_iff.1 h
  have hr : ∀ j (hj : j < (List.range L.length).length), (List.range L.length)[j] = j := fun j hj => List.getElem_range hj
  have ha : a = l1.length := by
    have hl : l1.length < (List.range L.length).length := by rw [e]; simp
    have h3 := hr _ hl
    have h4 : (List.range L.length)[l1.length] = a := by simp [e]
    omega
  have hal : a < L.length := by
    have : a ∈ List.range L.length := by rw [e]; simp
    exact List.mem_range.1 this
  rw [List.getElem?_eq_getElem hal] at h1
  simp only [Option.bind_some, Option.map_eq_some_iff, Prod.mk.injEq] at h1
  obtain ⟨k, g1, g2, g3⟩ := h1
  subst g2 g3
  refine ⟨hal, g1, fun j hj hji => ?_⟩
  have hjm : j ∈ l1 := by
    have hl : j < (List.range L.length).length := by simpa using hj
    have h3 := hr j hl
    have h4 : (List.range L.length)[j] = l1[j]'(by omega) := by simp only [e]; exact List.getElem_append_left (by omega)
    rw [h3] at h4
    rw [h4]
    exact List.getElem_mem _
  have := h2 j hjm
  rw [List.getElem?_eq_getElem hj] at this
  simpa using this
theorem jfind_none {L : List Sw} (h : jfind L = none) : ∀ j (hj : j < L.length), pureOf L[j].1 L[j].2 = none := fun j hj => by
  unfold jfind at h
  rw [List.findSome?_eq_none_iff] at h
  have := h j (List.mem_range.2 hj)
  rw [List.getElem?_eq_getElem hj] at this
  simpa using this
theorem jfind_eq {L : List Sw} {i : Nat} {key : ByteArray} (hi : i < L.length) (h1 : pureOf L[i].1 L[i].2 = some key) (h2 : ∀ j (hj : j < L.length), j < i → pureOf L[j].1 L[j].2 = none) : jfind L = some (i, key) := by
  unfold jfind
  refine fs_at hi (fun j hj => ?_) ?_
  · rw [List.getElem?_eq_getElem (show j < L.length by omega)]
    simp [h2 j (by omega) hj]
  · rw [List.getElem?_eq_getElem hi]
    simp [h1]
theorem jfind_eq_none {L : List Sw} (h : ∀ j (hj : j < L.length), pureOf L[j].1 L[j].2 = none) : jfind L = none := by
  unfold jfind
  refine fs_none fun j hj => ?_
  rw [List.getElem?_eq_getElem hj]
  simp [h j hj]
/-- Fit switches. -/
def JOk (L : List Sw) : Prop := ∀ x ∈ L, Seeds x.1 ∧ Lens x.1 ∧ rOk x.1 = true
theorem jtake_ok {i k : Nat} {key : ByteArray} {x : Sw} (h : Seeds x.1 ∧ Lens x.1 ∧ rOk x.1 = true) : Seeds (jtake i key k x).1 ∧ Lens (jtake i key k x).1 ∧ rOk (jtake i key k x).1 = true := by
  unfold jtake
  split
  · exact ⟨h.1, remR_lens h.2.1, remR_ok h.2.2⟩
  · exact h
theorem jmap_ok {L : List Sw} {i : Nat} {key : ByteArray} (h : JOk L) : JOk (L.mapIdx (jtake i key)) := fun x hx => by
  obtain ⟨j, hj, rfl⟩ := List.getElem_of_mem hx
  rw [List.getElem_mapIdx]
  exact jtake_ok (h _ (List.getElem_mem _))
theorem posN_remR (R : Rad) (key : ByteArray) : posN (remR R key) ≤ posN R := by
  unfold posN
  have hl : ((remR R key).rows.map (·.countP pos)).length = (R.rows.map (·.countP pos)).length := by simp [remR, updA_len]
  have key2 : ∀ (l m : List Nat), l.length = m.length → (∀ j (h : j < l.length) (h' : j < m.length), l[j] ≤ m[j]) → l.sum ≤ m.sum := fun l => by
    induction l with
    | nil => intro m hm _; cases m with | nil => exact Nat.le_refl _ | cons a b => simp at hm
    | cons a l ih =>
      intro m hm h
      cases m with
      | nil => simp at hm
      | cons b m =>
        have h0 := h 0 (by simp) (by simp)
        have h1 := ih m (by simpa using hm) fun j hj hj' => h (j + 1) (by simp; omega) (by simp; omega)
        have h0' : a ≤ b := h0
        simp only [List.sum_cons]
        omega
  refine key2 _ _ hl fun j h h' => ?_
  simp only [List.getElem_map]
  have hj : j < R.rows.length := by simpa using h'
  have := updA_at (remC key) R.s key R.rows j (by rw [updA_len]; exact hj)
  simp only [remR]
  rw [this]
  unfold updR
  exact countP_modify (fun x hx => by
    have hx : 1 ≤ max (x.2.1 - 1) (-1099511627776) := of_decide_eq_true hx
    exact decide_eq_true (by omega)) _ _
theorem jpos_lt {L : List Sw} {i : Nat} {key : ByteArray} (h : jfind L = some (i, key)) : jpos (L.mapIdx (jtake i key)) < jpos L := by
  obtain ⟨hi, h1, _⟩ := jfind_some h
  unfold jpos
  refine sum_lt _ _ (by simp) (fun j hj hj' => ?_) i (by simpa using hi) (by simpa using hi) ?_
  · simp only [List.getElem_map, List.getElem_mapIdx]
    unfold jtake
    split
    · exact posN_remR _ _
    · exact Nat.le_refl _
  · simp only [List.getElem_map, List.getElem_mapIdx]
    unfold jtake
    rw [if_pos (by simp [jHit])]
    exact posN_rem h1
theorem jall_none {L : List Sw} (h : jfind L = none) : ∀ n, jall n L = L
  | 0 => rfl
  | n + 1 => by rw [jall, jround, h]; rfl
theorem jall_some {L : List Sw} {i : Nat} {key : ByteArray} (h : jfind L = some (i, key)) (n : Nat) : jall (n + 1) L = jall n (L.mapIdx (jtake i key)) := by rw [jall, jround, h]; rfl
end Go.Proofs.YtmgnmnogiajlgaaF
end

section
/- Keys joined: the order does not matter, a key twice is none. -/
namespace Go.Proofs.YtmgnmnogiajlgaaF
open Go Go.Proofs.Vm

instance : LawfulBEq ByteArray where
  eq_of_beq h := (Go.MapKept.bytes_beq _ _).1 h
  rfl := (Go.MapKept.bytes_beq _ _).2 rfl
theorem ofInt_u8 (a : Nat) (ha : a < 256) : (BitVec.ofInt 8 (a : Int)).toNat = a := by
  rw [BitVec.ofInt_natCast, BitVec.toNat_ofNat]; exact Nat.mod_eq_of_lt (by omega)
theorem u8_xor (a b : Nat) (ha : a < 256) (hb : b < 256) : Go.bits .xor .u8 (a : Int) (b : Int) = ((a ^^^ b : Nat) : Int) := by
  have hx : a ^^^ b < 2 ^ 8 := Nat.xor_lt_two_pow (by omega) (by omega)
  show IntKind.u8.wrap ((BitVec.ofInt 8 (a : Int) ^^^ BitVec.ofInt 8 (b : Int)).toNat : Int) = _
  rw [BitVec.toNat_xor, ofInt_u8 a ha, ofInt_u8 b hb, IntKind.wrap_u8]
  omega
/-- A string's byte as a number. -/
def nb (s : ByteArray) (i : Nat) : Nat := (byt s (i : Int)).toNat
theorem nb_lt (s : ByteArray) (i : Nat) : nb s i < 256 := by have := byt_range s (i : Int); unfold nb; omega
theorem byt_nb (s : ByteArray) (i : Nat) : byt s (i : Int) = (nb s i : Int) := by have := byt_range s (i : Int); unfold nb; omega
theorem nb_get {s : ByteArray} {i : Nat} (h : i < s.size) : nb s i = (s[i]'h).toNat := by
  unfold nb byt
  rw [Int.toNat_natCast, getElem?_pos s i h]
  rfl
theorem nb_ext {a b : ByteArray} (hs : a.size = b.size) (h : ∀ i, i < a.size → nb a i = nb b i) : a = b := by
  apply ByteArray.ext
  apply Array.ext
  · exact hs
  · intro i h1 h2
    have h3 := h i h1
    rw [nb_get h1, nb_get (s := b) (by exact h2)] at h3
    exact UInt8.toNat_inj.1 h3
theorem strOf_cons_data : ∀ (l : List Int) (acc : ByteArray), (l.foldl (fun r n => r.push (UInt8.ofNat n.toNat)) acc).data.toList = acc.data.toList ++ l.map fun n => UInt8.ofNat n.toNat
  | [], acc => by simp
  | x :: l, acc => by
    rw [List.foldl_cons, strOf_cons_data l, List.map_cons]
    simp
theorem strOf_data (l : List Int) : (strOf l).data.toList = l.map fun n => UInt8.ofNat n.toNat := by
  unfold strOf
  rw [strOf_cons_data]
  rfl
theorem nb_xor {a b : ByteArray} {i : Nat} (h : i < a.size) : nb (xorK a b) i = nb a i ^^^ nb b i := by
  have hs : i < (xorK a b).size := by rw [xorK_size]; exact h
  rw [nb_get hs]
  have hd := strOf_data (xorL a b)
  have h1 : (strOf (xorL a b)).data.toList[i]? = some ((xorK a b)[i]'hs) := by
    rw [List.getElem?_eq_getElem (by rw [Array.length_toList]; exact hs), Array.getElem_toList]; rfl
  have hv : nb a i ^^^ nb b i < 2 ^ 8 := Nat.xor_lt_two_pow (nb_lt _ _) (nb_lt _ _)
  have h2 : (xorL a b)[i]? = some (((nb a i ^^^ nb b i : Nat)) : Int) := by
    unfold xorL
    rw [List.getElem?_map, List.getElem?_range h, Option.map_some, xb, byt_nb, byt_nb, u8_xor _ _ (nb_lt _ _) (nb_lt _ _)]
  rw [hd, List.getElem?_map, h2, Option.map_some, Option.some.injEq, Int.toNat_natCast] at h1
  rw [← h1, UInt8.toNat_ofNat']
  omega
theorem xor_swap {a b c : ByteArray} : xorK (xorK a b) c = xorK (xorK a c) b := by
  apply nb_ext
  · simp only [xorK_size]
  · intro i h
    simp only [xorK_size] at h
    rw [nb_xor (a := xorK a b) (by rw [xorK_size]; exact h), nb_xor (a := xorK a c) (by rw [xorK_size]; exact h), nb_xor (a := a) h, nb_xor (a := a) h, Nat.xor_assoc, Nat.xor_assoc, Nat.xor_comm (nb b i)]
theorem xor_twice {a b : ByteArray} : xorK (xorK a b) b = a := by
  apply nb_ext
  · simp only [xorK_size]
  · intro i h
    simp only [xorK_size] at h
    rw [nb_xor (a := xorK a b) (by rw [xorK_size]; exact h), nb_xor (a := a) h, Nat.xor_assoc, Nat.xor_self, Nat.xor_zero]
theorem nought_size : nought.size = 37 := rfl
theorem nb_nought (i : Nat) : nb nought i = 0 := by
  by_cases h : i < 37
  · have : ∀ j : Fin 37, nb nought j.1 = 0 := by decide
    exact this ⟨i, h⟩
  · unfold nb
    rw [byt_out _ _ (by omega) (by rw [nought_size]; omega)]
    rfl
theorem xor_nought {k : ByteArray} (h : k.size = 37) : xorK nought k = k := by
  apply nb_ext
  · rw [xorK_size, h]; rfl
  · intro i hi
    rw [xorK_size] at hi
    rw [nb_xor hi, nb_nought, Nat.zero_xor]

/-- So many keys joined. -/
def xorA (l : List ByteArray) : ByteArray := l.foldl xorK nought
theorem foldl_size (l : List ByteArray) : ∀ a : ByteArray, (l.foldl xorK a).size = a.size := by
  induction l with
  | nil => intro a; rfl
  | cons x l ih => intro a; rw [List.foldl_cons, ih, xorK_size]
theorem xorA_size (l : List ByteArray) : (xorA l).size = 37 := by rw [xorA, foldl_size]; rfl
theorem xorA_snoc (l : List ByteArray) (k : ByteArray) : xorA (l ++ [k]) = xorK (xorA l) k := by simp [xorA]
theorem xorA_perm {l m : List ByteArray} (h : l.Perm m) : xorA l = xorA m := by
  unfold xorA
  exact h.foldl_eq' (fun x _ y _ z => xor_swap (a := z) (b := x) (c := y)) nought
theorem xorA_one {k : ByteArray} (h : k.size = 37) : xorA [k] = k := by unfold xorA; rw [List.foldl_cons, List.foldl_nil, xor_nought h]
theorem xorA_erase {l : List ByteArray} {k : ByteArray} (h : k ∈ l) : xorK (xorA l) k = xorA (l.erase k) := by
  have hp : l.Perm (l.erase k ++ [k]) := (List.perm_cons_erase h).trans (List.perm_append_singleton k _).symm
  rw [xorA_perm hp, xorA_snoc, xor_twice]
end Go.Proofs.YtmgnmnogiajlgaaF
end

section
/- Structs of a string and some numbers, compared. -/
namespace Go.Proofs.Vm
open Go

set_option maxHeartbeats 4000000
variable {P : Program} {H : Hp}

/-- Of one string and three numbers. -/
theorem eq_st4 {t : TypeId} {f0 f1 f2 f3 : Field} {k : IntKind} (hu : pv P (underlying t) = some (.struct #[f0, f1, f2, f3])) (hs : P.stoodInHeld t = false) (n0 : (f0.name == "_") = false) (n1 : (f1.name == "_") = false) (n2 : (f2.name == "_") = false) (n3 : (f3.name == "_") = false) (o0 : f0.offset = 0) (o1 : f1.offset = 1) (o2 : f2.offset = 2) (o3 : f3.offset = 3)
    (a0 : pv P (isAgg f0.type) = some false) (a1 : pv P (isAgg f1.type) = some false) (a2 : pv P (isAgg f2.type) = some false) (a3 : pv P (isAgg f3.type) = some false) (u0 : pv P (underlying f0.type) = some .string) (u1 : pv P (underlying f1.type) = some (.int k)) (u2 : pv P (underlying f2.type) = some (.int k)) (u3 : pv P (underlying f3.type) = some (.int k)) (a b : ByteArray) (x y x2 y2 x3 y3 : Int) (d : Nat) :
    pv P (Op.equalIn (d + 2) t (.agg #[.string a, .int k x, .int k x2, .int k x3]) (.agg #[.string b, .int k y, .int k y2, .int k y3])) = some (a == b && x == y && x2 == y2 && x3 == y3) := by
  have m0 : ¬ f0.name = "_" := fun h => by rw [h] at n0; simp at n0
  have m1 : ¬ f1.name = "_" := fun h => by rw [h] at n1; simp at n1
  have m2 : ¬ f2.name = "_" := fun h => by rw [h] at n2; simp at n2
  have m3 : ¬ f3.name = "_" := fun h => by rw [h] at n3; simp at n3
  unfold Op.equalIn
  cases h0 : a == b <;> cases h1 : x == y <;> cases h2 : x2 == y2 <;> cases h3 : x3 == y3 <;> simp [hu, hs, m0, m1, m2, m3, o0, o1, o2, o3, part, a0, a1, a2, a3, eq_strD u0, eq_intD u1, eq_intD u2, eq_intD u3, h0, h1, h2, h3]
theorem bin_st4 {t : TypeId} {f0 f1 f2 f3 : Field} {k : IntKind} (hu : pv P (underlying t) = some (.struct #[f0, f1, f2, f3])) (hs : P.stoodInHeld t = false) (hg : P.eqGuardType P.depth t = false) (n0 : (f0.name == "_") = false) (n1 : (f1.name == "_") = false) (n2 : (f2.name == "_") = false) (n3 : (f3.name == "_") = false) (o0 : f0.offset = 0) (o1 : f1.offset = 1) (o2 : f2.offset = 2) (o3 : f3.offset = 3)
    (a0 : pv P (isAgg f0.type) = some false) (a1 : pv P (isAgg f1.type) = some false) (a2 : pv P (isAgg f2.type) = some false) (a3 : pv P (isAgg f3.type) = some false) (u0 : pv P (underlying f0.type) = some .string) (u1 : pv P (underlying f1.type) = some (.int k)) (u2 : pv P (underlying f2.type) = some (.int k)) (u3 : pv P (underlying f3.type) = some (.int k)) {a b : ByteArray} {x y x2 y2 x3 y3 : Int} {p q : Operand} :
    vbin P H .eql t p q (.agg [.c (.v (.string a)), .c (.v (.int k x)), .c (.v (.int k x2)), .c (.v (.int k x3))]) (.agg [.c (.v (.string b)), .c (.v (.int k y)), .c (.v (.int k y2)), .c (.v (.int k y3))]) = qa (vB (a == b && x == y && x2 == y2 && x3 == y3)) ∧
    vbin P H .neq t p q (.agg [.c (.v (.string a)), .c (.v (.int k x)), .c (.v (.int k x2)), .c (.v (.int k x3))]) (.agg [.c (.v (.string b)), .c (.v (.int k y)), .c (.v (.int k y2)), .c (.v (.int k y3))]) = qa (vB (!(a == b && x == y && x2 == y2 && x3 == y3))) := by
  have h := eq_st4 hu hs n0 n1 n2 n3 o0 o1 o2 o3 a0 a1 a2 a3 u0 u1 u2 u3 a b x y x2 y2 x3 y3 9998
  constructor <;> simp [vbin, vbin0, neSl, isNils, isPtr, isNilp, fresh, AV.sc, scs, Cell.sc, eqGuard, hg, binOp, ofPv, one?, Value.oneCell', Op.equal, Op.maxDepth, h]
/-- Of one string and two numbers. -/
theorem eq_st3 {t : TypeId} {f0 f1 f2 : Field} {k : IntKind} (hu : pv P (underlying t) = some (.struct #[f0, f1, f2])) (hs : P.stoodInHeld t = false) (n0 : (f0.name == "_") = false) (n1 : (f1.name == "_") = false) (n2 : (f2.name == "_") = false) (o0 : f0.offset = 0) (o1 : f1.offset = 1) (o2 : f2.offset = 2)
    (a0 : pv P (isAgg f0.type) = some false) (a1 : pv P (isAgg f1.type) = some false) (a2 : pv P (isAgg f2.type) = some false) (u0 : pv P (underlying f0.type) = some .string) (u1 : pv P (underlying f1.type) = some (.int k)) (u2 : pv P (underlying f2.type) = some (.int k)) (a b : ByteArray) (x y x2 y2 : Int) (d : Nat) :
    pv P (Op.equalIn (d + 2) t (.agg #[.string a, .int k x, .int k x2]) (.agg #[.string b, .int k y, .int k y2])) = some (a == b && x == y && x2 == y2) := by
  have m0 : ¬ f0.name = "_" := fun h => by rw [h] at n0; simp at n0
  have m1 : ¬ f1.name = "_" := fun h => by rw [h] at n1; simp at n1
  have m2 : ¬ f2.name = "_" := fun h => by rw [h] at n2; simp at n2
  unfold Op.equalIn
  cases h0 : a == b <;> cases h1 : x == y <;> cases h2 : x2 == y2 <;> simp [hu, hs, m0, m1, m2, o0, o1, o2, part, a0, a1, a2, eq_strD u0, eq_intD u1, eq_intD u2, h0, h1, h2]
theorem bin_st3 {t : TypeId} {f0 f1 f2 : Field} {k : IntKind} (hu : pv P (underlying t) = some (.struct #[f0, f1, f2])) (hs : P.stoodInHeld t = false) (hg : P.eqGuardType P.depth t = false) (n0 : (f0.name == "_") = false) (n1 : (f1.name == "_") = false) (n2 : (f2.name == "_") = false) (o0 : f0.offset = 0) (o1 : f1.offset = 1) (o2 : f2.offset = 2)
    (a0 : pv P (isAgg f0.type) = some false) (a1 : pv P (isAgg f1.type) = some false) (a2 : pv P (isAgg f2.type) = some false) (u0 : pv P (underlying f0.type) = some .string) (u1 : pv P (underlying f1.type) = some (.int k)) (u2 : pv P (underlying f2.type) = some (.int k)) {a b : ByteArray} {x y x2 y2 : Int} {p q : Operand} :
    vbin P H .eql t p q (.agg [.c (.v (.string a)), .c (.v (.int k x)), .c (.v (.int k x2))]) (.agg [.c (.v (.string b)), .c (.v (.int k y)), .c (.v (.int k y2))]) = qa (vB (a == b && x == y && x2 == y2)) ∧
    vbin P H .neq t p q (.agg [.c (.v (.string a)), .c (.v (.int k x)), .c (.v (.int k x2))]) (.agg [.c (.v (.string b)), .c (.v (.int k y)), .c (.v (.int k y2))]) = qa (vB (!(a == b && x == y && x2 == y2))) := by
  have h := eq_st3 hu hs n0 n1 n2 o0 o1 o2 a0 a1 a2 u0 u1 u2 a b x y x2 y2 9998
  constructor <;> simp [vbin, vbin0, neSl, isNils, isPtr, isNilp, fresh, AV.sc, scs, Cell.sc, eqGuard, hg, binOp, ofPv, one?, Value.oneCell', Op.equal, Op.maxDepth, h]
end Go.Proofs.Vm
end

section
/- The document's radar: is it empty, the same, short enough? -/
set_option maxRecDepth 8192
set_option maxHeartbeats 1000000
namespace Go.Proofs.YtmgnmnogiajlgaaF
open Go Go.Proofs.Vm

def smallB (R : Rad) : Bool := decide (R.bits.length ≤ 300) && decide (R.rows.length ≤ 20) && decide (R.h ≤ 100) && R.rows.all fun r => decide (r.length ≤ 40) && r.all fun c => decide (c.1.size ≤ 100)
theorem rr_Small {R : Rad} (hl : Lens R) : TV.pu 31 [.agg (cRad R)] = some (cB (smallB R)) := by
  refine run31 (by simp) ?_
  obtain ⟨s, fs, h, bits, rows⟩ := R
  obtain ⟨l1, l2, l3⟩ := hl
  dsimp only at l1 l2 l3
  obtain ⟨res, hres⟩ : ∃ res, smallB ⟨s, fs, h, bits, rows⟩ = res := ⟨_, rfl⟩
  rw [hres]
  unfold smallB at hres
  dsimp only at hres
  by_cases c1 : bits.length ≤ 300
  rotate_left
  · have : res = false := by rw [← hres]; simp [c1]
    have c1' : 300 < (bits.length : Int) := by omega
    simp -implicitDefEqProofs [Try.f31, cRad, cRws, c1', this]
  have c1' : ¬ 300 < (bits.length : Int) := by omega
  by_cases c2 : rows.length ≤ 20
  rotate_left
  · have : res = false := by rw [← hres]; simp [c2]
    have c2' : 20 < (rows.length : Int) := by omega
    simp -implicitDefEqProofs [Try.f31, cRad, cRws, c1', c2', this]
  have c2' : ¬ 20 < (rows.length : Int) := by omega
  by_cases c3 : h ≤ 100
  rotate_left
  · have : res = false := by rw [← hres]; simp [c3]
    have c3' : 100 < h := by omega
    simp -implicitDefEqProofs [Try.f31, cRad, cRws, c1', c2', c3', this]
  have c3' : ¬ 100 < h := by omega
  rw [decide_eq_true c1, decide_eq_true c2, decide_eq_true c3, Bool.true_and, Bool.true_and, Bool.true_and] at hres
  have hbad : ∀ i (hi : i < rows.length), (decide (rows[i].length ≤ 40) && rows[i].all fun c => decide (c.1.size ≤ 100)) = false → res = false := fun i hi hw => by
    rw [← hres, List.all_eq_false]
    exact ⟨_, List.getElem_mem hi, by rw [hw]; decide⟩
  simp -implicitDefEqProofs [Try.f31, cRad, cRws, cRw, c1', c2', c3']
  obtain ⟨I, hI⟩ : ∃ I : Nat → St → Prop, ∀ k s', I k s' ↔ (∃ e i L, s' = ⟨e, .opn [(cRad ⟨s, fs, h, bits, rows⟩).map .c] false :: L⟩ ∧ e 1 = .one (.ptr ⟨0, 0, 0, 1⟩) ∧ e 3 = vI .i64 (i : Nat) ∧ (i + k = rows.length) ∧ (∀ j (h : j < rows.length), j < i → (decide (rows[j].length ≤ 40) && rows[j].all fun c => decide (c.1.size ≤ 100)) = true)) := ⟨_, fun _ _ => Iff.rfl⟩
  refine wpL_ind I ?_ rows.length _ ((hI _ _).2 ⟨_, 0, _, (by first | rfl | (simp [cRad, cRws, cRw]; done) | (simp [cRad, cRws, cRw]; rfl) | (simp [cRad, cRws, cRw]; and_intros <;> rfl)), by simp, by simp, by simp, by omega⟩)
  intro k stI hstI
  obtain ⟨e, i, L, rfl, e1, e3, hk, hno⟩ := (hI _ _).1 hstI
  by_cases c : i < rows.length
  rotate_left
  · have : res = true := by
      rw [← hres, List.all_eq_true]
      intro x hx
      obtain ⟨q, hq, rfl⟩ := List.getElem_of_mem hx
      exact hno q hq (by omega)
    simp -implicitDefEqProofs [e1, e3, cRad, cRws, cRw, c, this]
  have w_i : IntKind.i64.wrap ((i : Int) + 1) = ((i + 1 : Nat) : Int) := by rw [w64_id (by omega) (by omega)]; omega
  have hlr := l2 _ (List.getElem_mem c)
  have hbi := hbad i c
  by_cases d1 : rows[i].length ≤ 40
  rotate_left
  · rw [hbi (by simp [d1])]
    have d1' : 40 < (rows[i].length : Int) := by omega
    simp -implicitDefEqProofs [e1, e3, cRad, cRws, cRw, c, d1', vmove, isNil]
  have d1' : ¬ 40 < (rows[i].length : Int) := by omega
  rw [decide_eq_true d1, Bool.true_and] at hbi
  simp -implicitDefEqProofs [e1, e3, cRad, cRws, cRw, c, d1', vmove, isNil]
  obtain ⟨J, hJ⟩ : ∃ J : Nat → St → Prop, ∀ k' s', J k' s' ↔ (∃ e p L, s' = ⟨e, .opn [(cRad ⟨s, fs, h, bits, rows⟩).map .c] false :: L⟩ ∧ e 1 = .one (.ptr ⟨0, 0, 0, 1⟩) ∧ e 3 = vI .i64 (i : Nat) ∧ e 41 = .one (.c (cRw rows[i])) ∧ e 42 = vI .i64 rows[i].length ∧ e 43 = vI .i64 (p : Nat) ∧ (p + k' = rows[i].length) ∧ (∀ q (h : q < rows[i].length), q < p → rows[i][q].1.size ≤ 100)) := ⟨_, fun _ _ => Iff.rfl⟩
  refine wpL_ind J ?_ rows[i].length _ ((hJ _ _).2 ⟨_, 0, _, (by first | rfl | (simp [e1, e3, cRad, cRws, cRw]; done) | (simp [e1, e3, cRad, cRws, cRw]; rfl) | (simp [e1, e3, cRad, cRws, cRw]; and_intros <;> rfl)), by simp [e1], by simp [e3], by simp [cRw], by simp, by simp, by omega, by omega⟩)
  clear e1 e3
  intro k' stJ hstJ
  obtain ⟨e, p, L, rfl, e1, e3, e41, e42, e43, hk', hnp⟩ := (hJ _ _).1 hstJ
  by_cases d : p < rows[i].length
  rotate_left
  · simp -implicitDefEqProofs [e3, e42, e43, d, w_i, cRad, cRws, cRw]
    refine ⟨k - 1, by omega, (hI _ _).2 ⟨_, i + 1, _, (by first | rfl | (simp [cRad, cRws, cRw]; done) | (simp [cRad, cRws, cRw]; rfl) | (simp [cRad, cRws, cRw]; and_intros <;> rfl)), by simp [e1], by simp, by omega, fun q hq hq2 => ?_⟩⟩
    by_cases hqi : q = i
    · subst hqi
      rw [decide_eq_true d1, Bool.true_and, List.all_eq_true]
      intro x hx
      obtain ⟨z, hz, rfl⟩ := List.getElem_of_mem hx
      exact decide_eq_true (hnp z hz (by omega))
    · exact hno q hq (by omega)
  have w_p : IntKind.i64.wrap ((p : Int) + 1) = ((p + 1 : Nat) : Int) := by rw [w64_id (by omega) (by omega)]; omega
  obtain ⟨y, hy⟩ : ∃ y, rows[i][p] = y := ⟨_, rfl⟩
  obtain ⟨x, fl, pk, bb⟩ := y
  have hcl : cCl rows[i][p] = [.v (.string x), .v (.int .i64 fl), .v (.int .i64 pk), .v (.int .i64 bb)] := by rw [hy]; rfl
  by_cases g : x.size ≤ 100
  · have g' : ¬ 100 < (x.size : Int) := by omega
    simp -implicitDefEqProofs [e41, e42, e43, d, w_p, cRad, cRws, cRw, hcl, g', vmove, isNil, vstore, cellsOf?, Ent.wrO, wr]
    refine ⟨k' - 1, by omega, (hJ _ _).2 ⟨_, p + 1, _, (by first | rfl | (simp [cRad, cRws, cRw]; done) | (simp [cRad, cRws, cRw]; rfl) | (simp [cRad, cRws, cRw]; and_intros <;> rfl)), by simp [e1], by simp [e3], by simp [e41, cRw], by simp [e42], by simp, by omega, fun q hq hq2 => ?_⟩⟩
    by_cases hqp : q = p
    · subst hqp; rw [hy]; exact g
    · exact hnp q hq (by omega)
  · have g' : 100 < (x.size : Int) := by omega
    rw [hbi (by rw [List.all_eq_false]; exact ⟨_, List.getElem_mem d, by rw [hy]; simpa using g⟩)]
    simp -implicitDefEqProofs [e41, e42, e43, d, cRad, cRws, cRw, hcl, g', vmove, isNil, vstore, cellsOf?, Ent.wrO, wr]

def eqRad (A B : Rad) : Bool := decide (A.s = B.s ∧ A.fs = B.fs ∧ A.h = B.h ∧ A.bits = B.bits ∧ A.rows = B.rows)
theorem eqRad_iff {A B : Rad} : eqRad A B = true ↔ A = B := by
  unfold eqRad
  rw [decide_eq_true_iff]
  constructor
  · rintro ⟨h1, h2, h3, h4, h5⟩
    cases A; cases B; simp_all
  · rintro rfl; simp
theorem rc_neq {H : Hp} {a b : ByteArray} {x y x2 y2 x3 y3 : Int} {p q : Operand} : vbin Try.prog H .neq 86 p q (.agg [.c (.v (.string a)), .c (.v (.int .i64 x)), .c (.v (.int .i64 x2)), .c (.v (.int .i64 x3))]) (.agg [.c (.v (.string b)), .c (.v (.int .i64 y)), .c (.v (.int .i64 y2)), .c (.v (.int .i64 y3))]) = qa (vB (!(a == b && x == y && x2 == y2 && x3 == y3))) :=
  (bin_st4 (P := Try.prog) (t := 86) (pv_of Try.underlying86) (by kernel_rfl) (by kernel_rfl) (by kernel_rfl) (by kernel_rfl) (by kernel_rfl) (by kernel_rfl) (by kernel_rfl) (by kernel_rfl) (by kernel_rfl) (by kernel_rfl) (by kernel_rfl) (by kernel_rfl) (by kernel_rfl) (by kernel_rfl) us9 (by kernel_rfl) (by kernel_rfl) (by kernel_rfl)).2
theorem rr_Equal {A B : Rad} (ha : Lens A) : TV.pu 16 [.agg (cRad A), .agg (cRad B)] = some (cB (eqRad A B)) := by
  refine run16 (by simp) ?_
  obtain ⟨res, hres⟩ : ∃ res, eqRad A B = res := ⟨_, rfl⟩
  rw [hres]
  have hT : A = B → res = true := fun h => by rw [← hres]; exact eqRad_iff.2 h
  have hF : A ≠ B → res = false := fun h => by
    cases h2 : res with
    | false => rfl
    | true => rw [h2] at hres; exact absurd (eqRad_iff.1 hres) h
  clear hres
  obtain ⟨s, fs, h, bits, rows⟩ := A
  obtain ⟨s', fs', h', bits', rows'⟩ := B
  obtain ⟨l1, l2, l3⟩ := ha
  dsimp only at l1 l2 l3
  have hf := ref10_Equal (s := fs) (h := h) (b := bits) (s' := fs') (h' := h') (b' := bits') l3
  simp only [cF] at hf
  by_cases c1 : s = s'
  rotate_left
  · have := hF (by rintro ⟨⟩; exact c1 rfl)
    simp -implicitDefEqProofs [Try.f16, cRad, cRws, cRw, c1, this]
  subst c1
  cases c2 : eqF fs h bits fs' h' bits' with
  | false =>
    rw [c2] at hf
    have := hF (by rintro ⟨⟩; simp [eqF] at c2)
    simp -implicitDefEqProofs [Try.f16, cRad, cRws, cRw, hf, this]
  | true =>
  rw [c2] at hf
  obtain ⟨rfl, rfl, rfl⟩ := of_decide_eq_true c2
  by_cases c3 : rows.length = rows'.length
  rotate_left
  · have := hF (by rintro ⟨⟩; exact c3 rfl)
    have c3' : ¬ (rows.length : Int) = rows'.length := by omega
    simp -implicitDefEqProofs [Try.f16, cRad, cRws, cRw, hf, c3', this]
  have c3' : ((rows.length : Int) != (rows'.length : Int)) = false := by simp [c3]
  simp -implicitDefEqProofs [Try.f16, cRad, cRws, cRw, hf, c3']
  obtain ⟨I, hI⟩ : ∃ I : Nat → St → Prop, ∀ k s', I k s' ↔ (∃ e i L, s' = ⟨e, .opn [(cRad ⟨s, fs, h, bits, rows⟩).map .c] false :: .opn [(cRad ⟨s, fs, h, bits, rows'⟩).map .c] false :: L⟩ ∧ e 2 = .one (.ptr ⟨0, 0, 0, 1⟩) ∧ e 3 = .one (.ptr ⟨1, 0, 0, 1⟩) ∧ e 5 = vI .i64 (i : Nat) ∧ (i + k = rows.length) ∧ (∀ j (h : j < rows.length) (h' : j < rows'.length), j < i → rows[j] = rows'[j])) := ⟨_, fun _ _ => Iff.rfl⟩
  refine wpL_ind I ?_ rows.length _ ((hI _ _).2 ⟨_, 0, _, (by first | rfl | (simp [cRad, cRws, cRw]; done) | (simp [cRad, cRws, cRw]; rfl) | (simp [cRad, cRws, cRw]; and_intros <;> rfl)), by simp, by simp, by simp, by simp, by omega⟩)
  intro k stI hstI
  obtain ⟨e, i, L, rfl, e2, e3, e5, hk, hno⟩ := (hI _ _).1 hstI
  by_cases c : i < rows.length
  rotate_left
  · have hrr : rows = rows' := List.ext_getElem c3 fun j q1 q2 => hno j q1 q2 (by omega)
    have := hT (by rw [hrr])
    simp -implicitDefEqProofs [e2, e5, cRad, cRws, cRw, c, this]
  have w_i : IntKind.i64.wrap ((i : Int) + 1) = ((i + 1 : Nat) : Int) := by rw [w64_id (by omega) (by omega)]; omega
  have co : i < rows'.length := by omega
  by_cases d1 : rows[i].length = rows'[i].length
  rotate_left
  · have := hF (by rintro ⟨⟩; exact d1 rfl)
    have d1' : ¬ (rows[i].length : Int) = rows'[i].length := by omega
    simp -implicitDefEqProofs [e2, e3, e5, cRad, cRws, cRw, c, co, d1', vmove, isNil, this]
  have d1' : ((rows[i].length : Int) != (rows'[i].length : Int)) = false := by simp [d1]
  have hlr := l2 _ (List.getElem_mem c)
  simp -implicitDefEqProofs [e2, e3, e5, cRad, cRws, cRw, c, co, d1', vmove, isNil]
  obtain ⟨J, hJ⟩ : ∃ J : Nat → St → Prop, ∀ k' s', J k' s' ↔ (∃ e p L, s' = ⟨e, .opn [(cRad ⟨s, fs, h, bits, rows⟩).map .c] false :: .opn [(cRad ⟨s, fs, h, bits, rows'⟩).map .c] false :: L⟩ ∧ e 2 = .one (.ptr ⟨0, 0, 0, 1⟩) ∧ e 3 = .one (.ptr ⟨1, 0, 0, 1⟩) ∧ e 5 = vI .i64 (i : Nat) ∧ e 6 = vI .i64 (p : Nat) ∧ (p + k' = rows[i].length) ∧ (∀ q (h : q < rows[i].length) (h' : q < rows'[i].length), q < p → rows[i][q] = rows'[i][q])) := ⟨_, fun _ _ => Iff.rfl⟩
  refine wpL_ind J ?_ rows[i].length _ ((hJ _ _).2 ⟨_, 0, _, (by first | rfl | (simp [e2, e3, e5, cRad, cRws, cRw]; done) | (simp [e2, e3, e5, cRad, cRws, cRw]; rfl) | (simp [e2, e3, e5, cRad, cRws, cRw]; and_intros <;> rfl)), by simp [e2], by simp [e3], by simp [e5], by simp, by omega, by omega⟩)
  clear e2 e3 e5
  intro k' stJ hstJ
  obtain ⟨e, p, L, rfl, e2, e3, e5, e6, hk', hnp⟩ := (hJ _ _).1 hstJ
  by_cases d : p < rows[i].length
  rotate_left
  · simp -implicitDefEqProofs [e2, e5, e6, c, d, w_i, cRad, cRws, cRw]
    refine ⟨k - 1, by omega, (hI _ _).2 ⟨_, i + 1, _, (by first | rfl | (simp [cRad, cRws, cRw]; done) | (simp [cRad, cRws, cRw]; rfl) | (simp [cRad, cRws, cRw]; and_intros <;> rfl)), by simp [e2], by simp [e3], by simp, by omega, fun q hq hq2 hq3 => ?_⟩⟩
    by_cases hqi : q = i
    · subst hqi
      exact List.ext_getElem d1 fun z q1 q2 => hnp z q1 q2 (by omega)
    · exact hno q hq hq2 (by omega)
  have w_p : IntKind.i64.wrap ((p : Int) + 1) = ((p + 1 : Nat) : Int) := by rw [w64_id (by omega) (by omega)]; omega
  have do' : p < rows'[i].length := by omega
  obtain ⟨y, hy⟩ : ∃ y, rows[i][p] = y := ⟨_, rfl⟩
  obtain ⟨z, hz⟩ : ∃ z, rows'[i][p] = z := ⟨_, rfl⟩
  have hne : y ≠ z → res = false := fun h => hF (by rintro ⟨⟩; exact h (hy.symm.trans hz))
  have hnx : y = z → ∀ q (h : q < rows[i].length) (h' : q < rows'[i].length), q < p + 1 → rows[i][q] = rows'[i][q] := fun hg q hq hq' hq2 => by
    by_cases hqp : q = p
    · subst hqp; rw [hy, hz]; exact hg
    · exact hnp q hq hq' (by omega)
  obtain ⟨x, fl, pk, bb⟩ := y
  obtain ⟨x', fl', pk', bb'⟩ := z
  have hcl : cCl rows[i][p] = [.v (.string x), .v (.int .i64 fl), .v (.int .i64 pk), .v (.int .i64 bb)] := by rw [hy]; rfl
  have hcl' : cCl rows'[i][p] = [.v (.string x'), .v (.int .i64 fl'), .v (.int .i64 pk'), .v (.int .i64 bb')] := by rw [hz]; rfl
  obtain ⟨B, hB⟩ : ∃ B, (x == x' && fl == fl' && pk == pk' && bb == bb') = B := ⟨_, rfl⟩
  have hn := fun (H : Hp) (p q : Operand) => rc_neq (H := H) (a := x) (b := x') (x := fl) (y := fl') (x2 := pk) (y2 := pk') (x3 := bb) (y3 := bb') (p := p) (q := q)
  rw [hB] at hn
  cases B with
  | true =>
    have hyz : (x, fl, pk, bb) = (x', fl', pk', bb') := by
      simp only [Bool.and_eq_true, Go.MapKept.bytes_beq, beq_iff_eq] at hB
      obtain ⟨⟨⟨h1, h2⟩, h3⟩, h4⟩ := hB
      rw [h1, h2, h3, h4]
    simp -implicitDefEqProofs [e2, e3, e5, e6, c, co, d, do', w_p, cRad, cRws, cRw, hcl, hcl', hn, vmove, isNil]
    exact ⟨k' - 1, by omega, (hJ _ _).2 ⟨_, p + 1, _, (by first | rfl | (simp [cRad, cRws, cRw]; done) | (simp [cRad, cRws, cRw]; rfl) | (simp [cRad, cRws, cRw]; and_intros <;> rfl)), by simp [e2], by simp [e3], by simp [e5], by simp, by omega, hnx hyz⟩⟩
  | false =>
    have := hne (by rintro ⟨⟩; rw [(Go.MapKept.bytes_beq _ _).2 rfl] at hB; simp at hB)
    simp -implicitDefEqProofs [e2, e3, e5, e6, c, co, d, do', cRad, cRws, cRw, hcl, hcl', hn, vmove, isNil, this]
end Go.Proofs.YtmgnmnogiajlgaaF
end

section
/- A radar's cells as the encoding of what came. -/
namespace Go.Proofs.YtmgnmnogiajlgaaF
open Go Go.Proofs.Vm

abbrev Pkt := ByteArray × Int
/-- A key's place in a row. -/
def pln (s : Int) (i cols : Nat) (k : ByteArray) : Nat := (hcell (hrow s ((i : Int) + 1)) k (cols : Int)).toNat
theorem pln_lt {s : Int} {i cols : Nat} (h : 1 ≤ cols) (k : ByteArray) : pln s i cols k < cols := by
  have := hcell_range (hrow s ((i : Int) + 1)) k (cols : Int) (by omega)
  unfold pln; omega
def encC (pl : ByteArray → Nat) (K : List ByteArray) (L : List Pkt) (p : Nat) : RCl :=
  (xorA (K.filter fun k => pl k == p), ((K.countP fun k => pl k == p : Nat) : Int), ((L.countP fun x => pl x.1 == p : Nat) : Int), ((L.filter fun x => pl x.1 == p).map (·.2)).sum)
def encRow (pl : ByteArray → Nat) (K : List ByteArray) (L : List Pkt) (n : Nat) : List RCl := (List.range n).map (encC pl K L)
def encRows (s : Int) (rows cols : Nat) (K : List ByteArray) (L : List Pkt) : List (List RCl) := (List.range rows).map fun i => encRow (pln s i cols) K L cols
theorem sum_perm {l m : List Int} (h : l.Perm m) : l.sum = m.sum := by
  induction h with
  | nil => rfl
  | cons x _ ih => rw [List.sum_cons, List.sum_cons, ih]
  | swap x y l => rw [List.sum_cons, List.sum_cons, List.sum_cons, List.sum_cons]; omega
  | trans _ _ h1 h2 => rw [h1, h2]
theorem encC_perm {pl : ByteArray → Nat} {K K' : List ByteArray} {L L' : List Pkt} (hK : K.Perm K') (hL : L.Perm L') (p : Nat) : encC pl K L p = encC pl K' L' p := by
  unfold encC
  rw [xorA_perm (hK.filter _), hK.countP_eq, hL.countP_eq, sum_perm ((hL.filter _).map _)]
theorem encRow_perm {pl : ByteArray → Nat} {K K' : List ByteArray} {L L' : List Pkt} (hK : K.Perm K') (hL : L.Perm L') (n : Nat) : encRow pl K L n = encRow pl K' L' n := by
  unfold encRow
  exact List.map_congr_left fun p _ => encC_perm hK hL p
theorem encRows_perm {s : Int} {rows cols : Nat} {K K' : List ByteArray} {L L' : List Pkt} (hK : K.Perm K') (hL : L.Perm L') : encRows s rows cols K L = encRows s rows cols K' L' := by
  unfold encRows
  exact List.map_congr_left fun p _ => encRow_perm hK hL _
theorem encRow_len (pl : ByteArray → Nat) (K : List ByteArray) (L : List Pkt) (n : Nat) : (encRow pl K L n).length = n := by simp [encRow]
theorem encRows_len (s : Int) (rows cols : Nat) (K : List ByteArray) (L : List Pkt) : (encRows s rows cols K L).length = rows := by simp [encRows]
theorem encRow_get {pl : ByteArray → Nat} {K : List ByteArray} {L : List Pkt} {n p : Nat} (h : p < (encRow pl K L n).length) : (encRow pl K L n)[p] = encC pl K L p := by simp [encRow]
theorem encRows_get {s : Int} {rows cols : Nat} {K : List ByteArray} {L : List Pkt} {i : Nat} (h : i < (encRows s rows cols K L).length) : (encRows s rows cols K L)[i] = encRow (pln s i cols) K L cols := by simp [encRows]
/-- A packet more. -/
theorem encC_add {pl : ByteArray → Nat} {K : List ByteArray} {L : List Pkt} {k : ByteArray} {b : Int} {fr : Bool} : encC pl (if fr then K ++ [k] else K) (L ++ [(k, b)]) (pl k) = addC fr k b (encC pl K L (pl k)) := by
  unfold encC addC
  cases fr with
  | true =>
    simp only [if_true, List.filter_append, List.countP_append, List.map_append, List.sum_append]
    simp [xorA_snoc]
  | false =>
    simp only [Bool.false_eq_true, if_false, List.filter_append, List.countP_append, List.map_append, List.sum_append]
    simp
theorem encC_add_ne {pl : ByteArray → Nat} {K : List ByteArray} {L : List Pkt} {k : ByteArray} {b : Int} {fr : Bool} {p : Nat} (h : pl k ≠ p) : encC pl (if fr then K ++ [k] else K) (L ++ [(k, b)]) p = encC pl K L p := by
  have h' : (pl k == p) = false := by simpa using h
  unfold encC
  cases fr <;> simp [List.filter_append, List.countP_append, h']
theorem encRow_add {pl : ByteArray → Nat} {K : List ByteArray} {L : List Pkt} {n : Nat} {k : ByteArray} {b : Int} {fr : Bool} : (encRow pl K L n).modify (pl k) (addC fr k b) = encRow pl (if fr then K ++ [k] else K) (L ++ [(k, b)]) n := by
  apply List.ext_getElem
  · simp [encRow_len]
  · intro p h1 h2
    rw [List.getElem_modify, encRow_get, encRow_get]
    split
    · rename_i h; subst h; exact encC_add.symm
    · rename_i h; exact (encC_add_ne h).symm
theorem encRows_add {s : Int} {rows cols : Nat} {K : List ByteArray} {L : List Pkt} {k : ByteArray} {b : Int} {fr : Bool} : updA (addC fr k b) s k (encRows s rows cols K L) = encRows s rows cols (if fr then K ++ [k] else K) (L ++ [(k, b)]) := by
  apply List.ext_getElem
  · rw [updA_len, encRows_len, encRows_len]
  · intro i h1 h2
    rw [updA_at, encRows_get, encRows_get, updR, encRow_len]
    exact encRow_add
/-- A flow less. -/
theorem encC_rem {pl : ByteArray → Nat} {K K' : List ByteArray} {L : List Pkt} {k : ByteArray} (h : K.Perm (k :: K')) : encC pl K' L (pl k) = remC k (encC pl K L (pl k)) := by
  rw [encC_perm h (.refl L)]
  unfold encC remC
  have h1 : xorA ((k :: K').filter fun x => pl x == pl k) = xorK (xorA (K'.filter fun x => pl x == pl k)) k := by
    rw [List.filter_cons, if_pos (by simp), xorA_perm (List.perm_append_singleton k _).symm, xorA_snoc]
  have h2 : (k :: K').countP (fun x => pl x == pl k) = K'.countP (fun x => pl x == pl k) + 1 := by simp
  simp only [h1, h2, xor_twice]
  have h3 : max ((((K'.countP (fun x => pl x == pl k) + 1 : Nat)) : Int) - 1) (-1099511627776) = ((K'.countP (fun x => pl x == pl k) : Nat) : Int) := by omega
  rw [h3]
theorem encC_rem_ne {pl : ByteArray → Nat} {K K' : List ByteArray} {L : List Pkt} {k : ByteArray} {p : Nat} (h : K.Perm (k :: K')) (hp : pl k ≠ p) : encC pl K' L p = encC pl K L p := by
  rw [encC_perm h (.refl L)]
  have h' : (pl k == p) = false := by simpa using hp
  unfold encC
  simp [h']
theorem encRows_rem {s : Int} {rows cols : Nat} {K K' : List ByteArray} {L : List Pkt} {k : ByteArray} (h : K.Perm (k :: K')) : updA (remC k) s k (encRows s rows cols K L) = encRows s rows cols K' L := by
  apply List.ext_getElem
  · rw [updA_len, encRows_len, encRows_len]
  · intro i h1 h2
    rw [updA_at, encRows_get, encRows_get, updR, encRow_len]
    apply List.ext_getElem
    · simp [encRow_len]
    · intro p g1 g2
      rw [List.getElem_modify, encRow_get, encRow_get]
      have hq : (hcell (hrow s ((i : Int) + 1)) k (cols : Int)).toNat = pln s i cols k := rfl
      rw [hq]
      split
      · rename_i e; subst e; exact (encC_rem h).symm
      · rename_i e; exact (encC_rem_ne h e).symm

/-! the filter's bits -/
def bitsOf (fs h : Int) (n : Nat) (L : List Pkt) : List Bool := (List.range n).map fun (j : Nat) => L.any fun x => (plc fs h x.1 n).any fun p => decide (p = (j : Int))
theorem bitsOf_len (fs h : Int) (n : Nat) (L : List Pkt) : (bitsOf fs h n L).length = n := by simp [bitsOf]
theorem bitsOf_nil (fs h : Int) (n : Nat) : bitsOf fs h n [] = List.replicate n false := by
  apply List.ext_getElem
  · simp [bitsOf]
  · intro j h1 h2; simp [bitsOf]
theorem bitsOf_add {fs h : Int} {n : Nat} (hn : 1 ≤ n) {L : List Pkt} {k : ByteArray} {b : Int} : addB (bitsOf fs h n L) (plc fs h k n) = bitsOf fs h n (L ++ [(k, b)]) := by
  apply List.ext_getElem
  · rw [addB_len, bitsOf_len, bitsOf_len]
  · intro j h1 h2
    have hj : j < (bitsOf fs h n L).length := by rw [addB_len] at h1; exact h1
    have := addB_get (plc fs h k n) (fun p hp => (plc_mem hn hp).1) (bitsOf fs h n L) j hj
    rw [List.getElem?_eq_getElem h1] at this
    rw [Option.some.inj this]
    simp [bitsOf]
theorem bitsOf_perm {fs h : Int} {n : Nat} {L L' : List Pkt} (hL : L.Perm L') : bitsOf fs h n L = bitsOf fs h n L' := by
  unfold bitsOf
  exact List.map_congr_left fun j _ => hL.any_eq
theorem hasB_of {fs h : Int} {n : Nat} (hn : 1 ≤ n) {L : List Pkt} {k : ByteArray} (hk : ∃ b, (k, b) ∈ L) : hasB fs h (bitsOf fs h n L) k = true := by
  obtain ⟨b, hb⟩ := hk
  unfold hasB
  rw [bitsOf_len, List.all_eq_true]
  intro p hp
  have hr := plc_mem hn hp
  have hq : p.toNat < (bitsOf fs h n L).length := by rw [bitsOf_len]; omega
  rw [List.getD_eq_getElem?_getD, List.getElem?_eq_getElem hq, Option.getD_some]
  simp only [bitsOf, List.getElem_map, List.getElem_range]
  exact List.any_eq_true.2 ⟨_, hb, List.any_eq_true.2 ⟨p, hp, by simp; omega⟩⟩
theorem hasB_nil {fs h : Int} {n : Nat} (_hn : 1 ≤ n) (hh : 1 ≤ h) (k : ByteArray) : hasB fs h (bitsOf fs h n []) k = false := by
  unfold hasB
  rw [List.all_eq_false]
  have hl : 0 < (plc fs h k (bitsOf fs h n []).length).length := by rw [plc_len]; omega
  refine ⟨_, List.getElem_mem hl, ?_⟩
  generalize ((plc fs h k (bitsOf fs h n []).length)[0]'hl).toNat = j
  rw [bitsOf_nil, List.getD_eq_getElem?_getD, List.getElem?_replicate]
  split <;> simp

def encRad (s h : Int) (bits rows cols : Nat) (K : List ByteArray) (L : List Pkt) : Rad := ⟨s, hrow s 0, h, bitsOf (hrow s 0) h bits L, encRows s rows cols K L⟩
theorem encRad_nil (s h : Int) (bits rows cols : Nat) : encRad s h bits rows cols [] [] = newRad s bits h rows cols := by
  unfold encRad newRad
  rw [bitsOf_nil]
  congr 1
  apply List.ext_getElem
  · simp [encRows]
  · intro i h1 h2
    apply List.ext_getElem
    · simp [encRows, encRow]
    · intro p g1 g2
      simp [encRows, encRow, encC, nC, xorA]
theorem encRad_add {s h : Int} {bits rows cols : Nat} {K : List ByteArray} {L : List Pkt} {k : ByteArray} {b : Int} (hb : 1 ≤ bits) : addRad (encRad s h bits rows cols K L) k b = encRad s h bits rows cols (if freshB (encRad s h bits rows cols K L) k then K ++ [k] else K) (L ++ [(k, b)]) := by
  have h1 : (encRad s h bits rows cols K L).bits.length = bits := bitsOf_len ..
  unfold addRad
  rw [h1]
  show (⟨s, hrow s 0, h, addB (bitsOf (hrow s 0) h bits L) (plc (hrow s 0) h k bits), updA (addC (freshB (encRad s h bits rows cols K L) k) k b) s k (encRows s rows cols K L)⟩ : Rad) = _
  rw [bitsOf_add hb (b := b), encRows_add]
  rfl
theorem encRad_rem {s h : Int} {bits rows cols : Nat} {K K' : List ByteArray} {L : List Pkt} {k : ByteArray} (hp : K.Perm (k :: K')) : remR (encRad s h bits rows cols K L) k = encRad s h bits rows cols K' L := by
  unfold remR encRad
  congr 1
  exact encRows_rem hp
end Go.Proofs.YtmgnmnogiajlgaaF
end

section
/- A radar's encoding is right; what is peeled of it. -/
namespace Go.Proofs.YtmgnmnogiajlgaaF
open Go Go.Proofs.Vm

def Dim (h : Int) (bits rows cols : Nat) : Prop := 1 ≤ bits ∧ bits ≤ 256 ∧ 1 ≤ h ∧ h ≤ 7 ∧ 1 ≤ rows ∧ rows ≤ 7 ∧ 1 ≤ cols ∧ cols ≤ 256
theorem sum_bound {b : Int} : ∀ {l : List Int}, (∀ x ∈ l, 0 ≤ x ∧ x ≤ b) → 0 ≤ l.sum ∧ l.sum ≤ (l.length : Int) * b
  | [], _ => by simp
  | x :: l, h => by
    have h1 := h x List.mem_cons_self
    have h2 := sum_bound (l := l) fun y hy => h y (List.mem_cons_of_mem _ hy)
    rw [List.sum_cons, List.length_cons, Int.natCast_add, Int.add_mul]
    omega
theorem encC_ok {pl : ByteArray → Nat} {K : List ByteArray} {L : List Pkt} {p : Nat} (hK : K.length ≤ 1000) (hL : L.length ≤ 1000) (hb : ∀ x ∈ L, 0 ≤ x.2 ∧ x.2 ≤ 1073741824) : wrongB (encC pl K L p) = false := by
  rw [wrongB_iff]
  have h1 := List.countP_le_length (p := fun k => pl k == p) (l := K)
  have h2 := List.countP_le_length (p := fun x : Pkt => pl x.1 == p) (l := L)
  have h3 := sum_bound (b := 1073741824) (l := (L.filter fun x => pl x.1 == p).map (·.2)) fun y hy => by
    obtain ⟨x, hx, rfl⟩ := List.mem_map.1 hy
    exact hb x (List.mem_filter.1 hx).1
  have h4 := List.length_filter_le (fun x : Pkt => pl x.1 == p) L
  rw [List.length_map] at h3
  refine ⟨xorA_size _, ?_, ?_, ?_, ?_, h3.1, ?_⟩ <;> simp only [encC] <;> omega
theorem encRad_ok {s h : Int} {bits rows cols : Nat} {K : List ByteArray} {L : List Pkt} (hd : Dim h bits rows cols) (hK : K.length ≤ 1000) (hL : L.length ≤ 1000) (hb : ∀ x ∈ L, 0 ≤ x.2 ∧ x.2 ≤ 1073741824) : rOk (encRad s h bits rows cols K L) = true := by
  obtain ⟨d1, d2, d3, d4, d5, d6, d7, d8⟩ := hd
  have hr : ∀ x ∈ encRows s rows cols K L, x.length = cols ∧ ∀ c ∈ x, wrongB c = false := by
    intro x hx
    obtain ⟨i, _, rfl⟩ := List.mem_map.1 hx
    refine ⟨encRow_len .., fun c hc => ?_⟩
    obtain ⟨p, _, rfl⟩ := List.mem_map.1 hc
    exact encC_ok hK hL hb
  have hhd : ((encRows s rows cols K L).headD []).length = cols := by
    have : 0 < (encRows s rows cols K L).length := by rw [encRows_len]; omega
    cases he : encRows s rows cols K L with
    | nil => rw [he] at this; simp at this
    | cons x t => exact (hr x (by rw [he]; exact List.mem_cons_self)).1
  refine rOk_of ?_ rfl (by show 1 ≤ (encRows s rows cols K L).length; rw [encRows_len]; exact d5) (by show (encRows s rows cols K L).length ≤ 7; rw [encRows_len]; exact d6) fun x hx => ?_
  · rw [fOk_iff]
    show 1 ≤ h ∧ h ≤ 7 ∧ 1 ≤ (bitsOf (hrow s 0) h bits L).length ∧ (bitsOf (hrow s 0) h bits L).length ≤ 256
    rw [bitsOf_len]
    exact ⟨d3, d4, d1, d2⟩
  · obtain ⟨h1, h2⟩ := hr x hx
    refine ⟨by omega, by omega, ?_, h2⟩
    show x.length = ((encRows s rows cols K L).headD []).length
    rw [h1, hhd]
theorem encRad_seeds {s h : Int} {bits rows cols : Nat} {K : List ByteArray} {L : List Pkt} (h0 : 0 ≤ s) (h1 : s < 18446744073709551616) : Seeds (encRad s h bits rows cols K L) := by
  have := hrow_range s 0
  refine ⟨h0, h1, ?_, ?_⟩ <;> simp only [encRad] <;> omega
theorem encRad_lens {s h : Int} {bits rows cols : Nat} {K : List ByteArray} {L : List Pkt} (hd : Dim h bits rows cols) : Lens (encRad s h bits rows cols K L) := by
  obtain ⟨d1, d2, d3, d4, d5, d6, d7, d8⟩ := hd
  refine ⟨?_, fun x hx => ?_, ?_⟩
  · show (encRows s rows cols K L).length < _
    rw [encRows_len]; omega
  · obtain ⟨i, _, rfl⟩ := List.mem_map.1 (show x ∈ encRows s rows cols K L from hx)
    rw [encRow_len]; omega
  · show (bitsOf (hrow s 0) h bits L).length < _
    rw [bitsOf_len]; omega

theorem countP_one {α : Type} {q : α → Bool} {l : List α} (h : l.countP q = 1) : ∃ x ∈ l, l.filter q = [x] ∧ q x = true := by
  rw [List.countP_eq_length_filter] at h
  obtain ⟨x, hx⟩ := List.length_eq_one_iff.1 h
  have : x ∈ l.filter q := by rw [hx]; exact List.mem_singleton.2 rfl
  obtain ⟨h1, h2⟩ := List.mem_filter.1 this
  exact ⟨x, h1, hx, h2⟩
theorem pure_enc {s h : Int} {bits rows cols : Nat} {K : List ByteArray} {L : List Pkt} (hK : ∀ k ∈ K, k.size = 37) {told : List ByteArray} {k : ByteArray} (hp : pureOf (encRad s h bits rows cols K L) told = some k) : k ∈ K := by
  obtain ⟨i, p, hi, hpp, hc, rfl⟩ := pureOf_some hp
  obtain ⟨h1, -, -, -⟩ := okC_facts hc
  have hi' : i < (encRows s rows cols K L).length := hi
  have e : (encRad s h bits rows cols K L).rows[i] = encRow (pln s i cols) K L cols := encRows_get hi'
  have hp2 : p < (encRow (pln s i cols) K L cols).length := by rw [← e]; exact hpp
  have e2 : (encRad s h bits rows cols K L).rows[i][p] = encC (pln s i cols) K L p := by simp only [e]; exact encRow_get hp2
  have h1 : (encC (pln s i cols) K L p).2.1 = 1 := by rw [← e2]; exact h1
  have h1 : (((K.countP fun k => pln s i cols k == p) : Nat) : Int) = 1 := h1
  have e3 : (encRad s h bits rows cols K L).rows[i][p].1 = (encC (pln s i cols) K L p).1 := congrArg (·.1) e2
  refine e3 ▸ ?_
  obtain ⟨x, hx, hf, -⟩ := countP_one (q := fun k => pln s i cols k == p) (l := K) (by omega)
  show xorA (K.filter fun k => pln s i cols k == p) ∈ K
  rw [hf, xorA_one (hK x hx)]
  exact hx
theorem peelN_enc {s h : Int} {bits rows cols : Nat} {L : List Pkt} : ∀ (n : Nat) (K out : List ByteArray), (∀ k ∈ K, k.size = 37) → posN (encRad s h bits rows cols K L) ≤ n →
    ∃ T K', peelN n (encRad s h bits rows cols K L) out = (ssort (out ++ T), encRad s h bits rows cols K' L) ∧ K.Perm (T ++ K') ∧ pureOf (encRad s h bits rows cols K' L) (out ++ T) = none
  | 0, K, out, hK, hn => by
    refine ⟨[], K, by rw [List.append_nil]; rfl, .refl _, ?_⟩
    rw [List.append_nil]
    cases hp : pureOf (encRad s h bits rows cols K L) out with
    | none => rfl
    | some k => have := posN_rem hp; omega
  | n + 1, K, out, hK, hn => by
    cases hp : pureOf (encRad s h bits rows cols K L) out with
    | none =>
      refine ⟨[], K, ?_, .refl _, by rw [List.append_nil]; exact hp⟩
      rw [peelN_none hp, List.append_nil]
    | some k =>
      have hk := pure_enc hK hp
      have hpe : K.Perm (k :: K.erase k) := List.perm_cons_erase hk
      have hlt := posN_rem hp
      rw [encRad_rem hpe] at hlt
      obtain ⟨T, K', h1, h2, h3⟩ := peelN_enc (s := s) (h := h) (bits := bits) (rows := rows) (cols := cols) (L := L) n (K.erase k) (out ++ [k]) (fun x hx => hK x (List.mem_of_mem_erase hx)) (by omega)
      refine ⟨k :: T, K', ?_, hpe.trans (h2.cons k), ?_⟩
      · rw [peelN, hp]
        show peelN n (remR (encRad s h bits rows cols K L) k) (out ++ [k]) = _
        rw [encRad_rem hpe, h1, List.append_assoc]
        rfl
      · rw [← h3, List.append_assoc]; rfl
theorem peel_enc {s h : Int} {bits rows cols : Nat} {L : List Pkt} {K : List ByteArray} (hK : ∀ k ∈ K, k.size = 37) :
    ∃ T K', peel (encRad s h bits rows cols K L) = (ssort T, encRad s h bits rows cols K' L) ∧ K.Perm (T ++ K') ∧ pureOf (encRad s h bits rows cols K' L) T = none := peelN_enc _ K [] hK (Nat.le_refl _)
/-- A radar with a flow is not empty; one without is. -/
theorem enc_full {s h : Int} {bits rows cols : Nat} {L : List Pkt} {K : List ByteArray} (hd : Dim h bits rows cols) (hK : K ≠ []) : ((encRad s h bits rows cols K L).rows.any (·.any fullC)) = true := by
  obtain ⟨d1, d2, d3, d4, d5, d6, d7, d8⟩ := hd
  obtain ⟨k, t, rfl⟩ : ∃ k t, K = k :: t := by cases K with | nil => exact absurd rfl hK | cons k t => exact ⟨k, t, rfl⟩
  have hp := pln_lt (s := s) (i := 0) d7 k
  refine List.any_eq_true.2 ⟨encRow (pln s 0 cols) (k :: t) L cols, List.mem_map.2 ⟨0, List.mem_range.2 (by omega), rfl⟩, List.any_eq_true.2 ⟨encC (pln s 0 cols) (k :: t) L (pln s 0 cols k), List.mem_map.2 ⟨_, List.mem_range.2 hp, rfl⟩, ?_⟩⟩
  unfold fullC
  have : (encC (pln s 0 cols) (k :: t) L (pln s 0 cols k)).2.1 ≠ 0 := by
    simp only [encC, List.countP_cons]
    simp
    omega
  rw [decide_eq_true this, Bool.true_or]
theorem enc_empty {s h : Int} {bits rows cols : Nat} {L : List Pkt} : ((encRad s h bits rows cols [] L).rows.any (·.any fullC)) = false := by
  refine List.any_eq_false.2 fun x hx => ?_
  obtain ⟨i, _, rfl⟩ := List.mem_map.1 hx
  rw [Bool.not_eq_true]
  refine List.any_eq_false.2 fun c hc => ?_
  obtain ⟨p, _, rfl⟩ := List.mem_map.1 hc
  have : sEq nought nought = true := sEq_iff.2 rfl
  simp [fullC, encC, xorA, this]
end Go.Proofs.YtmgnmnogiajlgaaF
end

section
/- Packets that came, and the flows that the filter tells apart. -/
set_option maxRecDepth 8192
set_option maxHeartbeats 1000000
namespace Go.Proofs.YtmgnmnogiajlgaaF
open Go Go.Proofs.Vm

def fedStep (fs h : Int) (n : Nat) (st : List ByteArray × List Pkt × Bool) (p : Pkt) : List ByteArray × List Pkt × Bool :=
  if hasB fs h (bitsOf fs h n st.2.1) p.1 = true then (st.1, st.2.1 ++ [p], st.2.2 && st.1.any (sEq p.1)) else (st.1 ++ [p.1], st.2.1 ++ [p], st.2.2)
def fedS (fs h : Int) (n : Nat) (l : List Pkt) : List ByteArray × List Pkt × Bool := l.foldl (fedStep fs h n) ([], [], true)
theorem fedS_snoc (fs h : Int) (n : Nat) (l : List Pkt) (p : Pkt) : fedS fs h n (l ++ [p]) = fedStep fs h n (fedS fs h n l) p := by simp [fedS]
theorem list_rev {α : Type} {motive : List α → Prop} (h0 : motive []) (h1 : ∀ l x, motive l → motive (l ++ [x])) : ∀ l, motive l := by
  have key : ∀ n l, l.length = n → motive l := by
    intro n
    induction n with
    | zero => intro l hl; rw [List.length_eq_zero_iff.1 hl]; exact h0
    | succ n ih =>
      intro l hl
      have hne : l ≠ [] := by rintro rfl; simp at hl
      rw [← List.dropLast_concat_getLast hne]
      exact h1 _ _ (ih _ (by simp; omega))
  exact fun l => key _ l rfl
theorem fedS_L (fs h : Int) (n : Nat) : ∀ l, (fedS fs h n l).2.1 = l := by
  refine list_rev rfl fun l x ih => ?_
  rw [fedS_snoc]
  unfold fedStep
  split <;> simp only [ih]
theorem fedS_facts {fs h : Int} {n : Nat} (hn : 1 ≤ n) : ∀ l, (fedS fs h n l).1.Nodup ∧ (∀ k ∈ (fedS fs h n l).1, ∃ b, (k, b) ∈ l) ∧ (fedS fs h n l).1.length ≤ l.length ∧ ((fedS fs h n l).2.2 = true → ∀ x ∈ l, x.1 ∈ (fedS fs h n l).1) ∧ (l ≠ [] → 1 ≤ h → (fedS fs h n l).1 ≠ []) := by
  refine list_rev ?_ fun l x ih => ?_
  · simp [fedS]
  · obtain ⟨h1, h2, h3, h4, h5⟩ := ih
    have hL := fedS_L fs h n l
    rw [fedS_snoc]
    unfold fedStep
    by_cases c : hasB fs h (bitsOf fs h n (fedS fs h n l).2.1) x.1 = true
    · rw [if_pos c]
      refine ⟨h1, fun k hk => ?_, by simp; omega, fun ha y hy => ?_, fun _ hh => ?_⟩
      · obtain ⟨b, hb⟩ := h2 k hk
        exact ⟨b, List.mem_append_left _ hb⟩
      · simp only [Bool.and_eq_true] at ha
        rcases List.mem_append.1 hy with hy | hy
        · exact h4 ha.1 y hy
        · rw [List.mem_singleton.1 hy]
          obtain ⟨z, hz, e⟩ := List.any_eq_true.1 ha.2
          rw [sEq_iff.1 e]; exact hz
      · by_cases hl : l = []
        · subst hl
          rw [show (fedS fs h n []).2.1 = [] from rfl, hasB_nil hn hh] at c
          cases c
        · exact h5 hl hh
    · rw [if_neg c]
      have hnew : x.1 ∉ (fedS fs h n l).1 := fun hx => c (by rw [hL]; exact hasB_of hn (h2 _ hx))
      refine ⟨?_, fun k hk => ?_, by simp; omega, fun ha y hy => ?_, fun _ _ => by simp⟩
      · exact List.nodup_append.2 ⟨h1, List.nodup_cons.2 ⟨by simp, List.nodup_nil⟩, fun a ha b hb => by rw [List.mem_singleton.1 hb]; rintro rfl; exact hnew ha⟩
      · rcases List.mem_append.1 hk with hk | hk
        · obtain ⟨b, hb⟩ := h2 k hk
          exact ⟨b, List.mem_append_left _ hb⟩
        · rw [List.mem_singleton.1 hk]
          exact ⟨x.2, List.mem_append_right _ (List.mem_singleton.2 rfl)⟩
      · rcases List.mem_append.1 hy with hy | hy
        · exact List.mem_append_left _ (h4 ha y hy)
        · rw [List.mem_singleton.1 hy]; exact List.mem_append_right _ (List.mem_singleton.2 rfl)
end Go.Proofs.YtmgnmnogiajlgaaF
end

section
/- Joint: where filters tell flows apart, what is taken came, and is taken where it came. -/
set_option maxRecDepth 8192
set_option maxHeartbeats 1000000
namespace Go.Proofs.YtmgnmnogiajlgaaF
open Go Go.Proofs.Vm

def Came (L : List Pkt) (k : ByteArray) : Prop := ∃ b, (k, b) ∈ L
theorem bits_at {fs h : Int} {n : Nat} (hn : 1 ≤ n) {L : List Pkt} {k : ByteArray} {p : Int} (hp : p ∈ plc fs h k n) : (bitsOf fs h n L).getD p.toNat false = L.any fun x => (plc fs h x.1 n).any fun q => decide (q = p) := by
  have hr := plc_mem hn hp
  have hq : p.toNat < (bitsOf fs h n L).length := by rw [bitsOf_len]; omega
  rw [List.getD_eq_getElem?_getD, List.getElem?_eq_getElem hq, Option.getD_some]
  simp only [bitsOf, List.getElem_map, List.getElem_range]
  rw [show ((p.toNat : Nat) : Int) = p by omega]
theorem hasB_mono {fs h : Int} {n : Nat} (hn : 1 ≤ n) {L L' : List Pkt} {k : ByteArray} (hs : ∀ x, Came L x → Came L' x) (hb : hasB fs h (bitsOf fs h n L) k = true) : hasB fs h (bitsOf fs h n L') k = true := by
  unfold hasB at hb ⊢
  rw [bitsOf_len, List.all_eq_true] at hb ⊢
  intro p hp
  have := hb p hp
  rw [bits_at hn hp] at this ⊢
  obtain ⟨x, hx, h2⟩ := List.any_eq_true.1 this
  obtain ⟨b, hb'⟩ := hs x.1 ⟨x.2, hx⟩
  exact List.any_eq_true.2 ⟨_, hb', h2⟩
/-- No flow of these is covered by the other ones that came. -/
def Apart (fs h : Int) (n : Nat) (ks : List ByteArray) (L : List Pkt) : Prop := ∀ k ∈ ks, hasB fs h (bitsOf fs h n (L.filter fun x => decide (x.1 ≠ k))) k = false
theorem Apart.iff {fs h : Int} {n : Nat} (hn : 1 ≤ n) {ks : List ByteArray} {L : List Pkt} (hA : Apart fs h n ks L) {k : ByteArray} (hk : k ∈ ks) : hasB fs h (bitsOf fs h n L) k = true ↔ Came L k := by
  constructor
  · intro hb
    apply Classical.byContradiction
    intro hno
    have : L.filter (fun x => decide (x.1 ≠ k)) = L := List.filter_eq_self.2 fun x hx => decide_eq_true fun e => hno ⟨x.2, by rw [← e]; exact hx⟩
    have h2 := hA k hk
    rw [this, hb] at h2
    cases h2
  · exact hasB_of hn
theorem Apart.mono {fs h : Int} {n : Nat} (hn : 1 ≤ n) {ks : List ByteArray} {L L' : List Pkt} (hA : Apart fs h n ks L') (hs : ∀ x ∈ L, x ∈ L') : Apart fs h n ks L := fun k hk => by
  cases hb : hasB fs h (bitsOf fs h n (L.filter fun x => decide (x.1 ≠ k))) k with
  | false => rfl
  | true =>
    have := hasB_mono (L' := L'.filter fun x => decide (x.1 ≠ k)) hn (fun x ⟨b, hx⟩ => by
      obtain ⟨h1, h2⟩ := List.mem_filter.1 hx
      exact ⟨b, List.mem_filter.2 ⟨hs _ h1, h2⟩⟩) hb
    rw [hA k hk] at this
    cases this
theorem Apart.fed {fs h : Int} {n : Nat} (hn : 1 ≤ n) {ks : List ByteArray} : ∀ L : List Pkt, (∀ x ∈ L, x.1 ∈ ks) → Apart fs h n ks L → (fedS fs h n L).2.2 = true := by
  refine list_rev (fun _ _ => rfl) fun l x ih hks hA => ?_
  have hA' := hA.mono hn (L := l) fun y hy => List.mem_append_left _ hy
  have h1 := ih (fun y hy => hks y (List.mem_append_left _ hy)) hA'
  have hx := hks x (by simp)
  rw [fedS_snoc]
  unfold fedStep
  rw [fedS_L]
  by_cases c : hasB fs h (bitsOf fs h n l) x.1 = true
  · rw [if_pos c, h1, Bool.true_and]
    obtain ⟨b, hb⟩ := (hA'.iff hn hx).1 c
    have := (fedS_facts (h := h) (fs := fs) hn l).2.2.2.1 h1 _ hb
    exact List.any_eq_true.2 ⟨_, this, sEq_iff.2 rfl⟩
  · rw [if_neg c]; exact h1
/-- The flows that came. -/
def flows (s h : Int) (bits : Nat) (L : List Pkt) : List ByteArray := (fedS (hrow s 0) h bits L).1
theorem flows_mem {s h : Int} {bits : Nat} (hn : 1 ≤ bits) {ks : List ByteArray} {L : List Pkt} (hks : ∀ x ∈ L, x.1 ∈ ks) (hA : Apart (hrow s 0) h bits ks L) (k : ByteArray) : k ∈ flows s h bits L ↔ Came L k := by
  obtain ⟨h1, h2, h3, h4, h5⟩ := fedS_facts (fs := hrow s 0) (h := h) hn L
  exact ⟨h2 k, fun ⟨b, hb⟩ => h4 (hA.fed hn L hks) _ hb⟩
/-- The rest of each switch is what came there, less what was told of it. -/
structure JInv (s h : Int) (bits rows cols : Nat) (Ls : List (List Pkt)) (L : List Sw) : Prop where
  len : L.length = Ls.length
  enc : ∀ j (h1 : j < L.length) (h2 : j < Ls.length), ∃ K', L[j].1 = encRad s h bits rows cols K' Ls[j] ∧ (flows s h bits Ls[j]).Perm (L[j].2 ++ K')
theorem jinv_step {s h : Int} {bits rows cols : Nat} (hn : 1 ≤ bits) {Ls : List (List Pkt)} {L : List Sw} {ks : List ByteArray} (hks : ∀ l ∈ Ls, ∀ x ∈ l, x.1 ∈ ks) (h37 : ∀ k ∈ ks, k.size = 37) (hA : ∀ l ∈ Ls, Apart (hrow s 0) h bits ks l) (hJ : JInv s h bits rows cols Ls L) {i : Nat} {key : ByteArray} (hf : jfind L = some (i, key)) : JInv s h bits rows cols Ls (L.mapIdx (jtake i key)) := by
  obtain ⟨hi, hp, _⟩ := jfind_some hf
  have hsub : ∀ j (h2 : j < Ls.length), ∀ k ∈ flows s h bits Ls[j], k ∈ ks := fun j h2 k hk => by
    have hm := List.getElem_mem h2
    obtain ⟨b, hb⟩ := (flows_mem hn (hks _ hm) (hA _ hm) k).1 hk
    exact hks _ hm _ hb
  have hi2 : i < Ls.length := by rw [← hJ.len]; exact hi
  obtain ⟨Ki, e1, e2⟩ := hJ.enc i hi hi2
  have hKi : ∀ k ∈ Ki, k ∈ flows s h bits Ls[i] := fun k hk => e2.mem_iff.2 (List.mem_append_right _ hk)
  rw [e1] at hp
  have hkey := pure_enc (fun k hk => h37 k (hsub i hi2 k (hKi k hk))) hp
  have hkks := hsub i hi2 _ (hKi _ hkey)
  refine ⟨by simp [hJ.len], fun j h1 h2 => ?_⟩
  have h1' : j < L.length := by simpa using h1
  obtain ⟨K', g1, g2⟩ := hJ.enc j h1' h2
  rw [List.getElem_mapIdx]
  unfold jtake
  have take : key ∈ K' → ∃ K'', remR L[j].1 key = encRad s h bits rows cols K'' Ls[j] ∧ (flows s h bits Ls[j]).Perm ((L[j].2 ++ [key]) ++ K'') := fun hk => by
    have hpe : K'.Perm (key :: K'.erase key) := List.perm_cons_erase hk
    refine ⟨K'.erase key, by rw [g1, encRad_rem hpe], g2.trans ?_⟩
    rw [List.append_assoc]
    exact (List.Perm.refl _).append hpe
  by_cases hji : j = i
  · subst hji
    rw [if_pos (by simp [jHit])]
    refine take ?_
    have : K' = Ki ∨ key ∈ K' := by
      right
      have h3 : encRad s h bits rows cols K' Ls[j] = encRad s h bits rows cols Ki Ls[j] := by rw [← g1, ← e1]
      have hp' := hp
      rw [← h3] at hp'
      exact pure_enc (fun k hk => h37 k (hsub j hi2 k (g2.mem_iff.2 (List.mem_append_right _ hk)))) hp'
    rcases this with e | e
    · rw [e]; exact hkey
    · exact e
  · have hm := List.getElem_mem h2
    have hbits : hasB L[j].1.fs L[j].1.h L[j].1.bits key = hasB (hrow s 0) h (bitsOf (hrow s 0) h bits Ls[j]) key := by rw [g1]; rfl
    by_cases hh : jHit i key j L[j] = true
    · rw [if_pos hh]
      refine take ?_
      unfold jHit at hh
      rw [decide_eq_false hji, Bool.false_or, Bool.and_eq_true, Bool.not_eq_true'] at hh
      rw [hbits] at hh
      have hc := (flows_mem hn (hks _ hm) (hA _ hm) key).2 (((hA _ hm).iff hn hkks).1 hh.2)
      rcases List.mem_append.1 (g2.mem_iff.1 hc) with ht | ht
      · have := List.any_eq_false.1 hh.1 key ht
        exact absurd (sEq_iff.2 rfl) this
      · exact ht
    · rw [if_neg hh]
      exact ⟨K', g1, g2⟩
theorem jinv_all {s h : Int} {bits rows cols : Nat} (hn : 1 ≤ bits) {Ls : List (List Pkt)} {ks : List ByteArray} (hks : ∀ l ∈ Ls, ∀ x ∈ l, x.1 ∈ ks) (h37 : ∀ k ∈ ks, k.size = 37) (hA : ∀ l ∈ Ls, Apart (hrow s 0) h bits ks l) : ∀ (n : Nat) {L : List Sw}, JInv s h bits rows cols Ls L → JInv s h bits rows cols Ls (jall n L)
  | 0, _, hJ => hJ
  | n + 1, L, hJ => by
    cases hf : jfind L with
    | none => rw [jall_none hf]; exact hJ
    | some r => rw [jall_some hf]; exact jinv_all hn hks h37 hA n (jinv_step hn hks h37 hA hJ hf)
/-- Of a switch that is left empty all flows are told. -/
theorem jinv_end {s h : Int} {bits rows cols : Nat} (hd : Dim h bits rows cols) {Ls : List (List Pkt)} {L : List Sw} (hJ : JInv s h bits rows cols Ls L) {j : Nat} (h1 : j < L.length) (h2 : j < Ls.length) (he : (L[j].1.rows.any (·.any fullC)) = false) : ssort L[j].2 = ssort (flows s h bits Ls[j]) := by
  obtain ⟨K', g1, g2⟩ := hJ.enc j h1 h2
  have hK : K' = [] := by
    apply Classical.byContradiction
    intro hne
    have := enc_full (s := s) (L := Ls[j]) hd hne
    rw [← g1, he] at this
    cases this
  rw [hK, List.append_nil] at g2
  exact srt_eq (ssort_srt _) (ssort_srt _) (((ssort_perm _).trans g2.symm).trans (ssort_perm _).symm)
end Go.Proofs.YtmgnmnogiajlgaaF
end

section
/- Powers modulo a prime, and that 2^61 - 1 is one (no program here). -/
namespace Go.Proofs.Vm.Fld

def Prm (q : Nat) : Prop := 2 ≤ q ∧ ∀ d, d ∣ q → d = 1 ∨ d = q
theorem Prm.cop {q a : Nat} (h : Prm q) (ha : ¬ q ∣ a) : Nat.Coprime q a := by
  have hd := h.2 (Nat.gcd q a) (Nat.gcd_dvd_left q a)
  rcases hd with e | e
  · exact e
  · exact absurd (e ▸ Nat.gcd_dvd_right q a) ha
theorem Prm.dvd_mul {q a b : Nat} (h : Prm q) (hd : q ∣ a * b) : q ∣ a ∨ q ∣ b := by
  by_cases ha : q ∣ a
  · exact .inl ha
  · exact .inr ((h.cop ha).dvd_of_dvd_mul_left hd)
theorem prm_div : ∀ (n : Nat), 2 ≤ n → ∃ q, Prm q ∧ q ∣ n := fun n => by
  induction n using Nat.strongRecOn with
  | ind n ih =>
    intro hn
    by_cases h : ∃ d, d ∣ n ∧ d ≠ 1 ∧ d ≠ n
    · obtain ⟨d, h1, h2, h3⟩ := h
      have hle := Nat.le_of_dvd (by omega) h1
      have h0 : d ≠ 0 := fun e => by subst e; have := Nat.eq_zero_of_zero_dvd h1; omega
      obtain ⟨q, hq, hd⟩ := ih d (by omega) (by omega)
      exact ⟨q, hq, Nat.dvd_trans hd h1⟩
    · refine ⟨n, ⟨hn, fun d hd => ?_⟩, Nat.dvd_refl n⟩
      by_cases e : d = 1
      · exact .inl e
      · by_cases e' : d = n
        · exact .inr e'
        · exact absurd ⟨d, hd, e, e'⟩ h

/- Lists of numbers, and their products. -/
def prd (l : List Nat) : Nat := l.foldr (· * ·) 1
theorem prd_perm {l m : List Nat} (h : l.Perm m) : prd l = prd m := by
  induction h with
  | nil => rfl
  | cons x _ ih => show x * prd _ = x * prd _; rw [ih]
  | swap x y l => show y * (x * prd l) = x * (y * prd l); rw [Nat.mul_left_comm]
  | trans _ _ h1 h2 => exact h1.trans h2
theorem perm_of_nodup : ∀ {l m : List Nat}, l.Nodup → (∀ x ∈ l, x ∈ m) → m.length ≤ l.length → l.Perm m
  | [], m, _, _, hl => by
    rw [List.length_nil] at hl
    have : m = [] := List.eq_nil_of_length_eq_zero (by omega)
    rw [this]
  | x :: l, m, hn, hm, hl => by
    have hx := hm x List.mem_cons_self
    have hn' := List.nodup_cons.1 hn
    have hp := List.perm_cons_erase hx
    have h1 : l.Perm (m.erase x) := by
      refine perm_of_nodup hn'.2 (fun y hy => ?_) ?_
      · have := hp.mem_iff.1 (hm y (List.mem_cons_of_mem _ hy))
        rcases List.mem_cons.1 this with e | e
        · subst e; exact absurd hy hn'.1
        · exact e
      · have := hp.length_eq
        rw [List.length_cons] at this hl
        omega
    exact (h1.cons x).trans hp.symm
theorem mod_mul_mod {a b q : Nat} : a % q * (b % q) % q = a * b % q := (Nat.mul_mod a b q).symm
theorem prd_map (a q : Nat) : ∀ l : List Nat, prd (l.map fun i => a * i % q) % q = a ^ l.length * prd l % q
  | [] => by simp [prd]
  | x :: l => by
    show a * x % q * prd (l.map _) % q = a ^ (l.length + 1) * (x * prd l) % q
    rw [Nat.mul_mod, Nat.mod_mod, prd_map a q l, ← Nat.mul_mod]
    congr 1
    rw [Nat.pow_succ]
    ac_rfl
theorem prd_cop {q : Nat} (h : Prm q) : ∀ {l : List Nat}, (∀ x ∈ l, ¬ q ∣ x) → ¬ q ∣ prd l
  | [], _ => fun hd => by have := Nat.le_of_dvd (by decide) (show q ∣ 1 from hd); have := h.1; omega
  | x :: l, hl => fun hd => by
    rcases h.dvd_mul (show q ∣ x * prd l from hd) with e | e
    · exact hl x List.mem_cons_self e
    · exact prd_cop h (fun y hy => hl y (List.mem_cons_of_mem _ hy)) e
theorem dvd_of_mod_eq {q a b : Nat} (h : a % q = b % q) : q ∣ b - a := by
  have h1 := Nat.div_add_mod a q
  have h2 := Nat.div_add_mod b q
  refine ⟨b / q - a / q, ?_⟩
  rw [Nat.mul_sub]
  omega
theorem fermat {q a : Nat} (h : Prm q) (ha : ¬ q ∣ a) : a ^ (q - 1) % q = 1 := by
  have h2 := h.1
  let L := List.range' 1 (q - 1)
  have hL : ∀ x, x ∈ L ↔ 1 ≤ x ∧ x < q := fun x => by
    simp only [L, List.mem_range'_1]; omega
  have hdv : ∀ x, x ∈ L → ¬ q ∣ x := fun x hx hd => by
    have := (hL x).1 hx
    have := Nat.le_of_dvd (by omega) hd
    omega
  have hinj : ∀ x y, x ∈ L → y ∈ L → x ≤ y → a * x % q = a * y % q → x = y := fun x y hx hy hle e => by
    have hd := dvd_of_mod_eq e
    rw [← Nat.mul_sub] at hd
    rcases h.dvd_mul hd with e | e
    · exact absurd e ha
    · have := (hL y).1 hy
      by_cases c : y - x = 0
      · omega
      · have := Nat.le_of_dvd (by omega) e
        omega
  have hnd : (L.map fun i => a * i % q).Nodup := by
    rw [List.nodup_iff_pairwise_ne, List.pairwise_map]
    have hln : L.Nodup := List.nodup_range'
    rw [List.nodup_iff_pairwise_ne] at hln
    refine List.Pairwise.imp_of_mem ?_ hln
    intro x y hx hy hne e
    rcases Nat.le_total x y with hle | hle
    · exact hne (hinj x y hx hy hle e)
    · exact hne (hinj y x hy hx hle e.symm).symm
  have hp : (L.map fun i => a * i % q).Perm L := by
    refine perm_of_nodup hnd (fun x hx => ?_) (by simp)
    obtain ⟨i, hi, rfl⟩ := List.mem_map.1 hx
    rw [hL]
    refine ⟨?_, Nat.mod_lt _ (by omega)⟩
    have : a * i % q ≠ 0 := fun e => by
      rcases h.dvd_mul (Nat.dvd_of_mod_eq_zero e) with e | e
      · exact ha e
      · exact hdv i hi e
    omega
  have h1 := prd_map a q L
  rw [prd_perm hp] at h1
  have hlen : L.length = q - 1 := by simp [L]
  rw [hlen] at h1
  have hc : ¬ q ∣ prd L := prd_cop h hdv
  obtain ⟨k, hk⟩ : ∃ k, a ^ (q - 1) = k := ⟨_, rfl⟩
  rw [hk] at h1 ⊢
  have hk0 : 1 ≤ k := by
    rcases Nat.eq_zero_or_pos k with e | e
    · rw [e, Nat.zero_mul, Nat.zero_mod] at h1
      exact absurd (Nat.dvd_of_mod_eq_zero h1) hc
    · exact e
  have hd := dvd_of_mod_eq h1
  have e1 : k * prd L - prd L = (k - 1) * prd L := by rw [Nat.sub_mul, Nat.one_mul]
  rw [e1] at hd
  rcases h.dvd_mul hd with e | e
  · obtain ⟨c, hc⟩ := e
    have : k = q * c + 1 := by omega
    rw [this, Nat.mul_add_mod, Nat.mod_eq_of_lt h2]
  · exact absurd e hc

/- Powers that are 1. -/
theorem pow_mod' (a n q : Nat) : (a % q) ^ n % q = a ^ n % q := (Nat.pow_mod a n q).symm
theorem one_pow_mod {a m q : Nat} (h2 : 2 ≤ q) (h : a ^ m % q = 1) (k : Nat) : a ^ (m * k) % q = 1 := by
  rw [Nat.pow_mul, ← pow_mod', h, Nat.one_pow, Nat.mod_eq_of_lt h2]
theorem pow_gcd {a q : Nat} (h2 : 2 ≤ q) (m n : Nat) : a ^ m % q = 1 → a ^ n % q = 1 → a ^ (Nat.gcd m n) % q = 1 := by
  induction m, n using Nat.gcd.induction with
  | H0 n => intro _ h; rw [Nat.gcd_zero_left]; exact h
  | H1 m n hm ih =>
    intro h h'
    rw [Nat.gcd_rec]
    refine ih ?_ h
    have e := Nat.div_add_mod n m
    rw [← e, Nat.pow_add, Nat.mul_mod, one_pow_mod h2 h, Nat.one_mul, Nat.mod_mod] at h'
    exact h'
/-- Each prime divisor of one to whose power a number is 1, though not to this part of it, is 1 modulo a prime. -/
theorem pock {p r b q : Nat} (hr : Prm r) (hq : Prm q) (hqp : q ∣ p) (h1 : b ^ r % p = 1) (hg : Nat.gcd (b - 1) p = 1) (hb : 1 ≤ b) : r ∣ q - 1 := by
  have h2 := hq.1
  have e1 : b ^ r % q = 1 := by
    have : b ^ r % p % q = b ^ r % q := Nat.mod_mod_of_dvd _ hqp
    rw [h1, Nat.mod_eq_of_lt h2] at this
    exact this.symm
  have hqb : ¬ q ∣ b := fun hd => by
    have : b ^ r % q = 0 := by
      obtain ⟨s, hs⟩ : ∃ s, r = s + 1 := ⟨r - 1, by have := hr.1; omega⟩
      rw [hs, Nat.pow_succ, Nat.mul_mod, Nat.mod_eq_zero_of_dvd hd, Nat.mul_zero, Nat.zero_mod]
    omega
  have e2 := fermat hq hqb
  have e3 := pow_gcd h2 r (q - 1) e1 e2
  rcases hr.2 _ (Nat.gcd_dvd_left r (q - 1)) with e | e
  · rw [e, Nat.pow_one] at e3
    have hd : q ∣ b - 1 := by
      obtain ⟨c, hc⟩ : ∃ c, b = q * c + 1 := ⟨b / q, by have := Nat.div_add_mod b q; omega⟩
      exact ⟨c, by omega⟩
    have : q ∣ 1 := hg ▸ Nat.dvd_gcd hd hqp
    have := Nat.le_of_dvd (by decide) this
    omega
  · exact e ▸ Nat.gcd_dvd_right r (q - 1)

/- Powers by squares: for the kernel. -/
def pw (q : Nat) : Nat → Nat → Nat → Nat → Nat
  | 0, _, _, out => out
  | f + 1, a, n, out => pw q f (a * a % q) (n / 2) (if n % 2 = 1 then out * a % q else out)
theorem pw_eq (q : Nat) : ∀ (f a n out : Nat), n < 2 ^ f → out < q → pw q f a n out % q = out * a ^ n % q
  | 0, a, n, out, h, _ => by
    have : n = 0 := by simpa using h
    subst this
    simp [pw]
  | f + 1, a, n, out, h, ho => by
    have hn : n / 2 < 2 ^ f := by rw [Nat.pow_succ] at h; omega
    have hq : 0 < q := by omega
    unfold pw
    have ho' : (if n % 2 = 1 then out * a % q else out) < q := by
      by_cases c : n % 2 = 1
      · rw [if_pos c]; exact Nat.mod_lt _ hq
      · rw [if_neg c]; exact ho
    rw [pw_eq q f _ _ _ hn ho']
    have e : a ^ n = (a * a) ^ (n / 2) * a ^ (n % 2) := by
      rw [← Nat.pow_two, ← Nat.pow_mul, ← Nat.pow_add, Nat.div_add_mod]
    rw [Nat.mul_mod, pow_mod', e]
    by_cases c : n % 2 = 1
    · rw [if_pos c, c, Nat.pow_one, Nat.mod_mod, ← Nat.mul_mod]
      congr 1
      ac_rfl
    · rw [if_neg c, show n % 2 = 0 by omega, Nat.pow_zero, Nat.mul_one, ← Nat.mul_mod]
theorem pw_one {q a n : Nat} (f : Nat) (h2 : 2 ≤ q) (h : n < 2 ^ f) {v : Nat} (hv : pw q f a n 1 = v) (hlt : v < q) : a ^ n % q = v := by
  have := pw_eq q f a n 1 h (by omega)
  rw [hv, Nat.one_mul, Nat.mod_eq_of_lt hlt] at this
  exact this.symm
def P61 : Nat := 2305843009213693951
theorem prm_of {r : Nat} (h2 : 2 ≤ r) (h : ((List.range r).all fun d => decide (d < 2) || decide (r % d ≠ 0)) = true) : Prm r := by
  refine ⟨h2, fun d hd => ?_⟩
  have hle := Nat.le_of_dvd (by omega) hd
  by_cases c : d = r
  · exact .inr c
  · have := List.all_eq_true.1 h d (List.mem_range.2 (by omega))
    simp only [Bool.or_eq_true, decide_eq_true_eq] at this
    rcases this with e | e
    · have h0 : d ≠ 0 := fun e => by subst e; have := Nat.eq_zero_of_zero_dvd hd; omega
      exact .inl (by omega)
    · exact absurd (Nat.mod_eq_zero_of_dvd hd) e
theorem cop_mul {a b n : Nat} (ha : a ∣ n) (hb : b ∣ n) (h : Nat.gcd a b = 1) : a * b ∣ n := Nat.Coprime.mul_dvd_of_dvd_of_dvd h ha hb
theorem pock61 {r b q : Nat} (hr : Prm r) (hq : Prm q) (hd : q ∣ P61) (hl : r < 2 ^ 61) (e : pw P61 61 b r 1 = 1) (hg : Nat.gcd (b - 1) P61 = 1) (hb : 1 ≤ b) : r ∣ q - 1 := by
  have h2 : 2 ≤ P61 := by decide
  have h3 : 1 < P61 := by decide
  generalize P61 = p at *
  exact pock hr hq hd (pw_one 61 h2 hl e h3) hg hb
theorem prm61 : Prm P61 := by
  have key : ∀ q, Prm q → q ∣ P61 → 4027518962 ≤ q := fun q hq hd => by
    have d1 : 61 ∣ q - 1 := pock61 (b := pw P61 61 3 ((P61 - 1) / 61) 1) (prm_of (by decide) (by decide +kernel)) hq hd (by decide) (by decide +kernel) (by decide +kernel) (by decide +kernel)
    have d2 : 151 ∣ q - 1 := pock61 (b := pw P61 61 3 ((P61 - 1) / 151) 1) (prm_of (by decide) (by decide +kernel)) hq hd (by decide) (by decide +kernel) (by decide +kernel) (by decide +kernel)
    have d3 : 331 ∣ q - 1 := pock61 (b := pw P61 61 3 ((P61 - 1) / 331) 1) (prm_of (by decide) (by decide +kernel)) hq hd (by decide) (by decide +kernel) (by decide +kernel) (by decide +kernel)
    have d4 : 1321 ∣ q - 1 := pock61 (b := pw P61 61 3 ((P61 - 1) / 1321) 1) (prm_of (by decide) (by decide +kernel)) hq hd (by decide) (by decide +kernel) (by decide +kernel) (by decide +kernel)
    have d5 := cop_mul (cop_mul (cop_mul d1 d2 (by decide +kernel)) d3 (by decide +kernel)) d4 (by decide +kernel)
    have h2 := hq.1
    clear d1 d2 d3 d4 hd hq
    have h3 := Nat.le_of_dvd (by omega) d5
    clear d5
    omega
  refine ⟨by decide, fun d hd => ?_⟩
  by_cases h1 : d = 1
  · exact .inl h1
  by_cases hp : d = P61
  · exact .inr hp
  exfalso
  obtain ⟨m, hm⟩ := hd
  have hd0 : d ≠ 0 := fun e => by subst e; rw [Nat.zero_mul] at hm; exact absurd hm (by decide)
  have hm1 : m ≠ 1 := fun e => by subst e; rw [Nat.mul_one] at hm; exact hp hm.symm
  have hm0 : m ≠ 0 := fun e => by subst e; rw [Nat.mul_zero] at hm; exact absurd hm (by decide)
  obtain ⟨q, hq, hqd⟩ := prm_div d (by omega)
  obtain ⟨r, hr, hrm⟩ := prm_div m (by omega)
  have k1 := key q hq (Nat.dvd_trans hqd ⟨m, hm⟩)
  have k2 := key r hr (Nat.dvd_trans hrm ⟨d, by rw [Nat.mul_comm]; exact hm⟩)
  have l1 := Nat.le_of_dvd (by omega) hqd
  have l2 := Nat.le_of_dvd (by omega) hrm
  have : 4027518962 * 4027518962 ≤ d * m := Nat.mul_le_mul (by omega) (by omega)
  rw [← hm] at this
  exact absurd this (by decide)
/-- The inverse by a power. -/
theorem inv61 {a : Nat} (h : a % P61 ≠ 0) : a * a ^ (P61 - 2) % P61 = 1 := by
  have hd : ¬ P61 ∣ a := fun hd => h (Nat.mod_eq_zero_of_dvd hd)
  have := fermat prm61 hd
  rw [show P61 - 1 = (P61 - 2) + 1 by decide, Nat.pow_succ, Nat.mul_comm] at this
  exact this
end Go.Proofs.Vm.Fld
end

section
/- Equations modulo a number in which what is not nought has an inverse: brought into steps (no program here). -/
namespace Go.Proofs.Vm.Fld

def dot : List Int → List Int → Int
  | a :: r, b :: y => a * b + dot r y
  | _, _ => 0
theorem dot_nil (y : List Int) : dot [] y = 0 := by cases y <;> rfl
theorem dot_nil' (r : List Int) : dot r [] = 0 := by cases r <;> rfl
def Ann (p : Int) (m : List (List Int)) (y : List Int) : Prop := ∀ r ∈ m, p ∣ dot r y
def scl (p v : Int) (r : List Int) : List Int := r.map fun x => x * v % p
def elm (p f : Int) (b r : List Int) : List Int := r.zipWith (fun x y => (x - f * y % p) % p) b
theorem dvd_emod (p a : Int) : p ∣ a % p - a := by
  have := Int.emod_add_mul_ediv a p
  exact ⟨-(a / p), by rw [Int.mul_neg]; omega⟩
theorem dot_scl (p v : Int) : ∀ (r y : List Int), p ∣ dot (scl p v r) y - v * dot r y
  | [], y => by simp [scl, dot_nil]
  | a :: r, [] => by simp [dot_nil']
  | a :: r, b :: y => by
    obtain ⟨k1, h1⟩ := dot_scl p v r y
    obtain ⟨k2, h2⟩ := dvd_emod p (a * v)
    have e : dot (scl p v (a :: r)) (b :: y) = (a * v % p) * b + dot (scl p v r) y := rfl
    have e2 : dot (a :: r) (b :: y) = a * b + dot r y := rfl
    have h3 : a * v % p = p * k2 + a * v := by omega
    have e5 : a * v * b = v * (a * b) := by rw [Int.mul_comm a v, Int.mul_assoc]
    refine ⟨k2 * b + k1, ?_⟩
    rw [e, e2, h3, Int.mul_add p, ← h1, Int.mul_add v, Int.add_mul, e5, Int.mul_assoc p]
    omega
theorem elm_cons (p f x y : Int) (b r : List Int) : elm p f (y :: b) (x :: r) = (x - f * y % p) % p :: elm p f b r := rfl
theorem dot_elm (p f : Int) : ∀ (b r y : List Int), r.length = b.length → p ∣ dot (elm p f b r) y - (dot r y - f * dot b y)
  | [], [], y, _ => by simp [elm, dot_nil]
  | [], _ :: _, _, h => by simp at h
  | _ :: _, [], _, h => by simp at h
  | u :: b, x :: r, [], _ => by simp [dot_nil']
  | u :: b, x :: r, z :: y, h => by
    obtain ⟨k1, h1⟩ := dot_elm p f b r y (by simpa using h)
    obtain ⟨k2, h2⟩ := dvd_emod p (x - f * u % p)
    obtain ⟨k3, h3⟩ := dvd_emod p (f * u)
    have e : dot (elm p f (u :: b) (x :: r)) (z :: y) = ((x - f * u % p) % p) * z + dot (elm p f b r) y := rfl
    have e2 : dot (x :: r) (z :: y) = x * z + dot r y := rfl
    have e3 : dot (u :: b) (z :: y) = u * z + dot b y := rfl
    have h4 : (x - f * u % p) % p = p * k2 + (x - (p * k3 + f * u)) := by omega
    refine ⟨k2 * z - k3 * z + k1, ?_⟩
    rw [e, e2, e3, h4, Int.mul_add, Int.mul_add, Int.mul_sub, ← h1]
    simp only [Int.add_mul, Int.sub_mul, Int.mul_assoc]
    omega
def row (m : List (List Int)) (r : Nat) : List Int := m.getD r []
def at0 (r : List Int) (j : Nat) : Int := r.getD j 0
theorem row_mem {m : List (List Int)} {r : Nat} (h : r < m.length) : row m r ∈ m := by
  unfold row
  rw [List.getD_eq_getElem?_getD, List.getElem?_eq_getElem h]
  exact List.getElem_mem h
theorem row_eq {m : List (List Int)} {r : Nat} (h : r < m.length) : row m r = m[r] := by
  unfold row
  rw [List.getD_eq_getElem?_getD, List.getElem?_eq_getElem h]
  rfl
theorem mem_row {m : List (List Int)} {x : List Int} (h : x ∈ m) : ∃ r, r < m.length ∧ row m r = x := by
  obtain ⟨r, hr, rfl⟩ := List.getElem_of_mem h
  exact ⟨r, hr, row_eq hr⟩
theorem scl_at (p v : Int) (r : List Int) (j : Nat) : at0 (scl p v r) j = at0 r j * v % p := by
  unfold at0 scl
  rw [List.getD_eq_getElem?_getD, List.getD_eq_getElem?_getD, List.getElem?_map]
  cases r[j]? <;> simp
theorem elm_at (p f : Int) {b r : List Int} (h : r.length = b.length) (j : Nat) : at0 (elm p f b r) j = (at0 r j - f * at0 b j % p) % p := by
  unfold at0 elm
  rw [List.getD_eq_getElem?_getD, List.getD_eq_getElem?_getD, List.getD_eq_getElem?_getD, List.getElem?_zipWith]
  by_cases hj : j < r.length
  · rw [List.getElem?_eq_getElem hj, List.getElem?_eq_getElem (show j < b.length by omega)]
    rfl
  · rw [List.getElem?_eq_none (by omega), List.getElem?_eq_none (show b.length ≤ j by omega)]
    simp
theorem scl_len (p v : Int) (r : List Int) : (scl p v r).length = r.length := by simp [scl]
theorem elm_len (p f : Int) {b r : List Int} (h : r.length = b.length) : (elm p f b r).length = r.length := by simp [elm, h]
/-- Two rows change places. -/
def swp (m : List (List Int)) (i j : Nat) : List (List Int) := (m.set i (row m j)).set j (row m i)
theorem swp_len (m : List (List Int)) (i j : Nat) : (swp m i j).length = m.length := by simp [swp]
theorem swp_row {m : List (List Int)} {i j : Nat} (hi : i < m.length) (hj : j < m.length) (r : Nat) : row (swp m i j) r = if r = j then row m i else if r = i then row m j else row m r := by
  unfold row swp row
  simp only [List.getD_eq_getElem?_getD, List.getElem?_set, List.length_set]
  by_cases h1 : j = r
  · subst h1; simp [hj]
  · have h1' : ¬ r = j := fun e => h1 e.symm
    by_cases h2 : i = r
    · subst h2; simp [h1, h1', hi]
    · have h2' : ¬ r = i := fun e => h2 e.symm
      simp [h1, h1', h2, h2']
theorem swp_mem {m : List (List Int)} {i j : Nat} (hi : i < m.length) (hj : j < m.length) (x : List Int) : x ∈ swp m i j ↔ x ∈ m := by
  constructor
  · intro h
    obtain ⟨r, hr, rfl⟩ := mem_row h
    rw [swp_len] at hr
    rw [swp_row hi hj]
    split
    · exact row_mem hi
    · split
      · exact row_mem hj
      · exact row_mem hr
  · intro h
    obtain ⟨r, hr, rfl⟩ := mem_row h
    have key : ∀ t, t < m.length → row (swp m i j) t = row m r → row m r ∈ swp m i j := fun t ht e => e ▸ row_mem (by rw [swp_len]; exact ht)
    by_cases h1 : r = i
    · subst h1; exact key j hj (by rw [swp_row hi hj, if_pos rfl])
    · by_cases h2 : r = j
      · subst h2
        refine key i hi ?_
        rw [swp_row hi hj, if_neg (fun e => h1 e.symm), if_pos rfl]
      · exact key r hr (by rw [swp_row hi hj, if_neg h2, if_neg h1])
/-- A step: the row q comes to the place k, its number in the column c becomes 1, and 0 in all other rows. -/
def bas (p : Int) (inv : Int → Int) (m : List (List Int)) (_k q c : Nat) : List Int := scl p (inv (at0 (row m q) c)) (row m q)
def elims (p : Int) (b : List Int) (m : List (List Int)) (k c : Nat) : List (List Int) := (m.set k b).mapIdx fun r x => if r = k then x else elm p (at0 x c) b x
def stp (p : Int) (inv : Int → Int) (m : List (List Int)) (k q c : Nat) : List (List Int) := elims p (bas p inv m k q c) (swp m k q) k c
theorem elims_len (p : Int) (b : List Int) (m : List (List Int)) (k c : Nat) : (elims p b m k c).length = m.length := by simp [elims]
theorem stp_len (p : Int) (inv : Int → Int) (m : List (List Int)) (k q c : Nat) : (stp p inv m k q c).length = m.length := by rw [stp, elims_len, swp_len]
theorem elims_row {p : Int} {b : List Int} {m : List (List Int)} {k c r : Nat} (hr : r < m.length) : row (elims p b m k c) r = if r = k then b else elm p (at0 (row m r) c) b (row m r) := by
  rw [row_eq (by rw [elims_len]; exact hr), row_eq hr]
  simp only [elims, List.getElem_mapIdx, List.getElem_set]
  by_cases h : k = r
  · subst h; simp
  · have h' : ¬ r = k := fun e => h e.symm
    simp [h, h']
theorem elims_ann {p : Int} {b : List Int} {m : List (List Int)} {k c w : Nat} (hk : k < m.length) (hb : b.length = w) (hw : ∀ r ∈ m, r.length = w) (y : List Int) (hby : p ∣ dot b y ↔ p ∣ dot (row m k) y) : Ann p (elims p b m k c) y ↔ Ann p m y := by
  have key : ∀ r, r < m.length → r ≠ k → p ∣ dot b y → (p ∣ dot (row (elims p b m k c) r) y ↔ p ∣ dot (row m r) y) := fun r hr hrk hb0 => by
    rw [elims_row hr, if_neg hrk]
    obtain ⟨t, ht⟩ := dot_elm p (at0 (row m r) c) b (row m r) y (by rw [hw _ (row_mem hr), hb])
    obtain ⟨s, hs⟩ := hb0
    constructor
    · rintro ⟨u, hu⟩
      refine ⟨u - t + at0 (row m r) c * s, ?_⟩
      rw [hu, hs] at ht
      rw [Int.mul_add, Int.mul_sub, ← ht, Int.mul_left_comm]
      omega
    · rintro ⟨u, hu⟩
      refine ⟨t + u - at0 (row m r) c * s, ?_⟩
      rw [hu, hs] at ht
      rw [Int.mul_sub, Int.mul_add, ← ht, Int.mul_left_comm p]
      omega
  have hkk : row (elims p b m k c) k = b := by rw [elims_row hk, if_pos rfl]
  constructor
  · intro h x hx
    obtain ⟨r, hr, rfl⟩ := mem_row hx
    have h0 : p ∣ dot b y := by rw [← hkk]; exact h _ (row_mem (by rw [elims_len]; exact hk))
    by_cases hrk : r = k
    · subst hrk; exact hby.1 h0
    · exact (key r hr hrk h0).1 (h _ (row_mem (by rw [elims_len]; exact hr)))
  · intro h x hx
    obtain ⟨r, hr, rfl⟩ := mem_row hx
    rw [elims_len] at hr
    have h0 : p ∣ dot b y := hby.2 (h _ (row_mem hk))
    by_cases hrk : r = k
    · subst hrk; rw [hkk]; exact h0
    · exact (key r hr hrk h0).2 (h _ (row_mem hr))
/-- Inverses. -/
def Inv (p : Int) (inv : Int → Int) : Prop := 1 < p ∧ ∀ a, 0 ≤ a → a < p → a ≠ 0 → a * inv a % p = 1
theorem dvd_scale {p v u : Int} (h : v * u % p = 1) (_hp : 1 < p) {d e : Int} (he : p ∣ e - u * d) : p ∣ e ↔ p ∣ d := by
  obtain ⟨k, hk⟩ := he
  constructor
  · rintro ⟨s, hs⟩
    -- d = (v u) d - p .. : v u = 1 + p t
    have ht : v * u = p * (v * u / p) + 1 := by have := Int.emod_add_mul_ediv (v * u) p; omega
    refine ⟨v * (s - k) - v * u / p * d, ?_⟩
    have h1 : u * d = p * s - p * k := by omega
    have h2 : v * (u * d) = (p * (v * u / p) + 1) * d := by rw [← ht, Int.mul_assoc]
    rw [h1] at h2
    rw [Int.mul_sub, Int.mul_sub]
    rw [Int.add_mul, Int.one_mul, Int.mul_sub, Int.mul_assoc] at h2
    rw [Int.mul_left_comm v p s, Int.mul_left_comm v p k] at h2
    rw [Int.mul_sub]
    omega
  · rintro ⟨s, hs⟩
    refine ⟨k + u * s, ?_⟩
    rw [Int.mul_add, ← hk, hs, Int.mul_left_comm]
    omega
theorem stp_ann {p : Int} {inv : Int → Int} (hI : Inv p inv) {m : List (List Int)} {k q c w : Nat} (hk : k < m.length) (hq : q < m.length) (hw : ∀ r ∈ m, r.length = w) (h0 : 0 ≤ at0 (row m q) c) (h1 : at0 (row m q) c < p) (hn : at0 (row m q) c ≠ 0) (y : List Int) : Ann p (stp p inv m k q c) y ↔ Ann p m y := by
  unfold stp
  have hrk : row (swp m k q) k = row m q := by
    rw [swp_row hk hq]
    by_cases e : k = q
    · rw [if_pos e, e]
    · rw [if_neg e, if_pos rfl]
  have hb : p ∣ dot (bas p inv m k q c) y ↔ p ∣ dot (row (swp m k q) k) y := by
    rw [hrk]
    exact dvd_scale (hI.2 _ h0 h1 hn) hI.1 (dot_scl p _ _ y)
  rw [elims_ann (w := w) (by rw [swp_len]; exact hk) (by rw [bas, scl_len]; exact hw _ (row_mem hq)) (fun r hr => hw r ((swp_mem hk hq r).1 hr)) y hb]
  unfold Ann
  simp only [swp_mem hk hq]
end Go.Proofs.Vm.Fld
end

section
/- Equations brought into steps: what that tells of their solutions (no program here). -/
namespace Go.Proofs.Vm.Fld

def sumTo (f : Nat → Int) : Nat → Int
  | 0 => 0
  | n + 1 => sumTo f n + f n
theorem sumTo_front (f : Nat → Int) : ∀ n, sumTo f (n + 1) = f 0 + sumTo (fun j => f (j + 1)) n
  | 0 => by simp [sumTo]
  | n + 1 => by
    have := sumTo_front f n
    have e : sumTo f (n + 1 + 1) = sumTo f (n + 1) + f (n + 1) := rfl
    have e2 : sumTo (fun j => f (j + 1)) (n + 1) = sumTo (fun j => f (j + 1)) n + f (n + 1) := rfl
    omega
theorem sumTo_zero {f : Nat → Int} : ∀ {n}, (∀ j, j < n → f j = 0) → sumTo f n = 0
  | 0, _ => rfl
  | n + 1, h => by
    have := sumTo_zero (f := f) (n := n) fun j hj => h j (by omega)
    have e : sumTo f (n + 1) = sumTo f n + f n := rfl
    have := h n (by omega)
    omega
theorem sumTo_one {f : Nat → Int} {t : Nat} : ∀ {n}, t < n → (∀ j, j < n → j ≠ t → f j = 0) → sumTo f n = f t
  | 0, h, _ => by omega
  | n + 1, ht, h => by
    have e : sumTo f (n + 1) = sumTo f n + f n := rfl
    by_cases c : t = n
    · subst c
      have := sumTo_zero (f := f) (n := t) fun j hj => h j (by omega) (by omega)
      omega
    · have := sumTo_one (f := f) (n := n) (t := t) (by omega) fun j hj hjt => h j (by omega) hjt
      have := h n (by omega) (fun e => c e.symm)
      omega
theorem sumTo_two {f : Nat → Int} {t u : Nat} (htu : t ≠ u) : ∀ {n}, t < n → u < n → (∀ j, j < n → j ≠ t → j ≠ u → f j = 0) → sumTo f n = f t + f u
  | 0, h, _, _ => by omega
  | n + 1, ht, hu, h => by
    have e : sumTo f (n + 1) = sumTo f n + f n := rfl
    by_cases c : t = n
    · have := sumTo_one (f := f) (n := n) (t := u) (by omega) fun j hj hju => h j (by omega) (by omega) hju
      rw [e, this, c]; omega
    · by_cases c2 : u = n
      · have := sumTo_one (f := f) (n := n) (t := t) (by omega) fun j hj hjt => h j (by omega) hjt (by omega)
        rw [e, this, c2]
      · have := sumTo_two (f := f) (n := n) htu (by omega) (by omega) fun j hj h1 h2 => h j (by omega) h1 h2
        have := h n (by omega) (fun e => c e.symm) (fun e => c2 e.symm)
        omega
theorem at0_nil (j : Nat) : at0 [] j = 0 := by simp [at0]
theorem at0_zero (a : Int) (r : List Int) : at0 (a :: r) 0 = a := rfl
theorem at0_succ (a : Int) (r : List Int) (j : Nat) : at0 (a :: r) (j + 1) = at0 r j := rfl
theorem dot_sum : ∀ (n : Nat) (r y : List Int), r.length ≤ n → dot r y = sumTo (fun j => at0 r j * at0 y j) n
  | n, [], y, _ => by rw [dot_nil, sumTo_zero]; intro j _; rw [at0_nil, Int.zero_mul]
  | n, a :: r, [], _ => by rw [dot_nil', sumTo_zero]; intro j _; rw [at0_nil, Int.mul_zero]
  | 0, a :: r, y, h => by simp at h
  | n + 1, a :: r, b :: y, h => by
    rw [sumTo_front]
    show a * b + dot r y = _
    rw [dot_sum n r y (by simpa using h)]
    rfl
theorem at0_app {x : List Int} {n : Nat} (h : x.length = n) (s : Int) (j : Nat) : at0 (x ++ [s]) j = if j < n then at0 x j else if j = n then s else 0 := by
  unfold at0
  simp only [List.getD_eq_getElem?_getD]
  by_cases h1 : j < n
  · rw [if_pos h1, List.getElem?_append_left (by omega)]
  · rw [if_neg h1, List.getElem?_append_right (by omega)]
    by_cases h2 : j = n
    · rw [if_pos h2, h2, h, Nat.sub_self]; rfl
    · rw [if_neg h2, List.getElem?_eq_none (by simp; omega)]; rfl
theorem dot_app {r x : List Int} {n : Nat} (hr : r.length = n + 1) (hx : x.length = n) (s : Int) : dot r (x ++ [s]) = sumTo (fun j => at0 r j * at0 x j) n + at0 r n * s := by
  rw [dot_sum (n + 1) r _ (by omega)]
  have e : ∀ f : Nat → Int, sumTo f (n + 1) = sumTo f n + f n := fun f => rfl
  rw [e]
  congr 1
  · have : ∀ m, m ≤ n → sumTo (fun j => at0 r j * at0 (x ++ [s]) j) m = sumTo (fun j => at0 r j * at0 x j) m := fun m => by
      induction m with
      | zero => intro _; rfl
      | succ m ih =>
        intro hm
        show sumTo _ m + _ = sumTo _ m + _
        rw [ih (by omega)]
        show _ + at0 r m * at0 (x ++ [s]) m = _ + at0 r m * at0 x m
        rw [at0_app hx, if_pos (by omega)]
    exact this n (Nat.le_refl _)
  · rw [at0_app hx, if_neg (by omega), if_pos rfl]
/-- What has been brought into steps, up to the column c. -/
structure Ech (p : Int) (m : List (List Int)) (w c : Nat) (a : List Nat) : Prop where
  len : ∀ r ∈ m, r.length = w
  red : ∀ r, r < m.length → ∀ j, 0 ≤ at0 (row m r) j ∧ at0 (row m r) j < p
  le : a.length ≤ m.length
  lt : ∀ x ∈ a, x < c
  inc : a.Pairwise (· < ·)
  one : ∀ i (h : i < a.length) r, r < m.length → at0 (row m r) a[i] = if r = i then 1 else 0
  zero : ∀ r, a.length ≤ r → r < m.length → ∀ j, j < c → at0 (row m r) j = 0
def pvt (m : List (List Int)) (c k : Nat) : Option Nat := (List.range' k (m.length - k)).find? fun q => decide (at0 (row m q) c ≠ 0)
theorem pvt_some {m : List (List Int)} {c k q : Nat} (h : pvt m c k = some q) : k ≤ q ∧ q < m.length ∧ at0 (row m q) c ≠ 0 := by
  have h1 := List.mem_of_find?_eq_some h
  have h2 := List.find?_some h
  simp only [List.mem_range'_1] at h1
  simp only [decide_eq_true_eq] at h2
  exact ⟨h1.1, by omega, h2⟩
theorem pvt_none {m : List (List Int)} {c k q : Nat} (h : pvt m c k = none) (h1 : k ≤ q) (h2 : q < m.length) : at0 (row m q) c = 0 := by
  have := List.find?_eq_none.1 h q (by simp only [List.mem_range'_1]; omega)
  simpa using this
def clrS (p : Int) (inv : Int → Int) (st : List (List Int) × List Nat) (c : Nat) : List (List Int) × List Nat := match pvt st.1 c st.2.length with
  | some q => (stp p inv st.1 st.2.length q c, st.2 ++ [c])
  | none => st
theorem Ech.start {p : Int} {m : List (List Int)} {w : Nat} (h1 : ∀ r ∈ m, r.length = w) (h2 : ∀ r, r < m.length → ∀ j, 0 ≤ at0 (row m r) j ∧ at0 (row m r) j < p) : Ech p m w 0 [] :=
  ⟨h1, h2, by simp, by simp, List.Pairwise.nil, fun i h => by simp at h, fun r _ _ j h => by omega⟩
theorem Ech.pass {p : Int} {m : List (List Int)} {w c : Nat} {a : List Nat} (h : Ech p m w c a) (hn : pvt m c a.length = none) : Ech p m w (c + 1) a :=
  ⟨h.len, h.red, h.le, fun x hx => by have := h.lt x hx; omega, h.inc, h.one, fun r h1 h2 j hj => by
    by_cases e : j = c
    · rw [e]; exact pvt_none hn h1 h2
    · exact h.zero r h1 h2 j (by omega)⟩
theorem emod_red {p : Int} (hp : 1 < p) (a : Int) : 0 ≤ a % p ∧ a % p < p := ⟨Int.emod_nonneg _ (by omega), Int.emod_lt_of_pos _ (by omega)⟩
theorem Ech.step {p : Int} {inv : Int → Int} (hI : Inv p inv) {m : List (List Int)} {w c : Nat} {a : List Nat} (h : Ech p m w c a) {q : Nat} (hq : pvt m c a.length = some q) : Ech p (stp p inv m a.length q c) w (c + 1) (a ++ [c]) ∧ ∀ y, Ann p (stp p inv m a.length q c) y ↔ Ann p m y := by
  obtain ⟨q1, q2, q3⟩ := pvt_some hq
  obtain ⟨k, hk⟩ : ∃ k, a.length = k := ⟨_, rfl⟩
  rw [hk] at q1 ⊢
  have hkm : k < m.length := by omega
  have hp := hI.1
  have r0 := h.red q q2 c
  refine ⟨?_, fun y => stp_ann hI hkm q2 h.len r0.1 r0.2 q3 y⟩
  have hbl : (bas p inv m k q c).length = w := by rw [bas, scl_len]; exact h.len _ (row_mem q2)
  have hsw : ∀ r, row (swp m k q) r = if r = q then row m k else if r = k then row m q else row m r := swp_row hkm q2
  have hsm : ∀ r, r < m.length → ∃ t, t < m.length ∧ row (swp m k q) r = row m t ∧ (r < k → t = r) ∧ (k ≤ r → k ≤ t) := fun r hr => by
    rw [hsw]
    by_cases e1 : r = q
    · rw [if_pos e1]; exact ⟨k, hkm, rfl, fun h => by omega, fun _ => by omega⟩
    · by_cases e2 : r = k
      · rw [if_neg e1, if_pos e2]; exact ⟨q, q2, rfl, fun h => by omega, fun _ => by omega⟩
      · rw [if_neg e1, if_neg e2]; exact ⟨r, hr, rfl, fun _ => rfl, fun h => h⟩
  have hsl : ∀ r, r < m.length → (row (swp m k q) r).length = w := fun r hr => by
    obtain ⟨t, ht, e, _⟩ := hsm r hr
    rw [e]; exact h.len _ (row_mem ht)
  have hrow : ∀ r, r < m.length → row (stp p inv m k q c) r = if r = k then bas p inv m k q c else elm p (at0 (row (swp m k q) r) c) (bas p inv m k q c) (row (swp m k q) r) := fun r hr => elims_row (by rw [swp_len]; exact hr)
  have hba : ∀ j, at0 (bas p inv m k q c) j = at0 (row m q) j * inv (at0 (row m q) c) % p := fun j => scl_at ..
  have hbc : at0 (bas p inv m k q c) c = 1 := by rw [hba]; exact hI.2 _ r0.1 r0.2 q3
  have hb0 : ∀ j, at0 (row m q) j = 0 → at0 (bas p inv m k q c) j = 0 := fun j hj => by rw [hba, hj, Int.zero_mul, Int.zero_emod]
  have helm : ∀ r, r < m.length → r ≠ k → ∀ j, at0 (row (stp p inv m k q c) r) j = (at0 (row (swp m k q) r) j - at0 (row (swp m k q) r) c * at0 (bas p inv m k q c) j % p) % p := fun r hr hrk j => by
    rw [hrow r hr, if_neg hrk, elm_at p _ (by rw [hsl r hr, hbl])]
  refine ⟨fun r hr => ?_, fun r hr j => ?_, ?_, fun x hx => ?_, ?_, fun i hi r hr => ?_, fun r h1 hr j hj => ?_⟩
  · obtain ⟨t, ht, rfl⟩ := mem_row hr
    rw [stp_len] at ht
    rw [hrow t ht]
    by_cases e : t = k
    · rw [if_pos e]; exact hbl
    · rw [if_neg e, elm_len p _ (by rw [hsl t ht, hbl])]; exact hsl t ht
  · rw [stp_len] at hr
    by_cases e : r = k
    · rw [hrow r hr, if_pos e, hba]; exact emod_red hp _
    · rw [helm r hr e]; exact emod_red hp _
  · rw [stp_len, List.length_append, hk]; show k + 1 ≤ _; omega
  · rcases List.mem_append.1 hx with hx | hx
    · have := h.lt x hx; omega
    · rw [List.mem_singleton.1 hx]; omega
  · rw [List.pairwise_append]
    exact ⟨h.inc, List.pairwise_singleton _ _, fun x hx y hy => by rw [List.mem_singleton.1 hy]; exact h.lt x hx⟩
  · rw [stp_len] at hr
    rw [List.length_append, hk] at hi
    have hi : i < k + 1 := hi
    by_cases hik : i < k
    · have hia : (a ++ [c])[i]'(by simp; omega) = a[i]'(by omega) := List.getElem_append_left _
      rw [hia]
      have hqz : at0 (row m q) (a[i]'(by omega)) = 0 := by rw [h.one i (by omega) q q2, if_neg (by omega)]
      by_cases e : r = k
      · rw [hrow r hr, if_pos e, hb0 _ hqz, if_neg (by omega)]
      · rw [helm r hr e, hb0 _ hqz, Int.mul_zero, Int.zero_emod, Int.sub_zero]
        obtain ⟨t, ht, e1, e2, e3⟩ := hsm r hr
        rw [e1, h.one i (by omega) t ht]
        by_cases hri : r = i
        · have : t = i := by rw [e2 (by omega), hri]
          rw [if_pos this, if_pos hri]
          exact Int.emod_eq_of_lt (by omega) hp
        · have : t ≠ i := fun e' => by
            by_cases hrk : r < k
            · exact hri (by rw [← e2 hrk, e'])
            · have := e3 (by omega); omega
          rw [if_neg this, if_neg hri, Int.zero_emod]
    · have hie : i = k := by omega
      subst hie
      have hia : (a ++ [c])[i]'(by simp; omega) = c := by rw [List.getElem_append_right (by omega)]; simp [hk]
      rw [hia]
      by_cases e : r = i
      · rw [hrow r hr, if_pos e, hbc, if_pos e]
      · rw [helm r hr e, hbc, Int.mul_one, if_neg e]
        obtain ⟨t, ht, e1, _⟩ := hsm r hr
        rw [e1]
        have := h.red t ht c
        rw [Int.emod_eq_of_lt this.1 this.2, Int.sub_self, Int.zero_emod]
  · rw [stp_len] at hr
    rw [List.length_append, hk] at h1
    have h1 : k + 1 ≤ r := h1
    obtain ⟨t, ht, e1, _, e3⟩ := hsm r hr
    have h3 := e3 (by omega)
    rw [helm r hr (by omega), e1]
    by_cases e : j = c
    · subst e
      rw [hbc, Int.mul_one]
      have := h.red t ht j
      rw [Int.emod_eq_of_lt this.1 this.2, Int.sub_self, Int.zero_emod]
    · rw [hb0 j (h.zero q (by omega) q2 j (by omega)), Int.mul_zero, Int.zero_emod, Int.sub_zero, h.zero t (by omega) ht j (by omega), Int.zero_emod]
def clrTo (p : Int) (inv : Int → Int) (m : List (List Int)) (c : Nat) : List (List Int) × List Nat := (List.range c).foldl (clrS p inv) (m, [])
theorem clrTo_succ (p : Int) (inv : Int → Int) (m : List (List Int)) (c : Nat) : clrTo p inv m (c + 1) = clrS p inv (clrTo p inv m c) c := by
  unfold clrTo
  rw [List.range_succ, List.foldl_append]
  rfl
theorem clr_inv {p : Int} {inv : Int → Int} (hI : Inv p inv) {m : List (List Int)} {w : Nat} (h1 : ∀ r ∈ m, r.length = w) (h2 : ∀ r, r < m.length → ∀ j, 0 ≤ at0 (row m r) j ∧ at0 (row m r) j < p) : ∀ c, Ech p (clrTo p inv m c).1 w c (clrTo p inv m c).2 ∧ (∀ y, Ann p (clrTo p inv m c).1 y ↔ Ann p m y) ∧ (clrTo p inv m c).1.length = m.length
  | 0 => ⟨Ech.start h1 h2, fun _ => Iff.rfl, rfl⟩
  | c + 1 => by
    obtain ⟨g1, g2, g3⟩ := clr_inv hI h1 h2 c
    rw [clrTo_succ]
    unfold clrS
    cases hq : pvt (clrTo p inv m c).1 c (clrTo p inv m c).2.length with
    | none => exact ⟨g1.pass hq, g2, g3⟩
    | some q =>
      obtain ⟨e1, e2⟩ := g1.step hI hq
      exact ⟨e1, fun y => (e2 y).trans (g2 y), by rw [stp_len, g3]⟩
/-- Is there a row behind the steps with a number on the right? -/
def badR (st : List (List Int) × List Nat) (n : Nat) : Bool := (List.range' st.2.length (st.1.length - st.2.length)).any fun r => decide (at0 (row st.1 r) n ≠ 0)
theorem badR_iff {st : List (List Int) × List Nat} {n : Nat} : badR st n = true ↔ ∃ r, st.2.length ≤ r ∧ r < st.1.length ∧ at0 (row st.1 r) n ≠ 0 := by
  unfold badR
  rw [List.any_eq_true]
  constructor
  · rintro ⟨r, hr, h⟩
    simp only [List.mem_range'_1] at hr
    exact ⟨r, hr.1, by omega, of_decide_eq_true h⟩
  · rintro ⟨r, h1, h2, h3⟩
    exact ⟨r, by simp only [List.mem_range'_1]; omega, decide_eq_true h3⟩
def solF (p : Int) (inv : Int → Int) (m : List (List Int)) (n : Nat) : Int × List Int :=
  if badR (clrTo p inv m n) n = true then (6, []) else if (clrTo p inv m n).2.length < n then (7, []) else (0, (List.range n).map fun i => at0 (row (clrTo p inv m n).1 i) n)
/-- The equations in steps tell just this. -/
structure Told (p : Int) (m : List (List Int)) (n : Nat) (r : Int × List Int) : Prop where
  none : r.1 = 6 → ∀ x : List Int, x.length = n → ¬ Ann p m (x ++ [-1])
  more : r.1 = 7 → (∃ x : List Int, x.length = n ∧ Ann p m (x ++ [-1])) ∧ ∃ v : List Int, v.length = n ∧ Ann p m (v ++ [0]) ∧ ∃ j, j < n ∧ at0 v j = 1
  one : r.1 = 0 → r.2.length = n ∧ (∀ x ∈ r.2, 0 ≤ x ∧ x < p) ∧ Ann p m (r.2 ++ [-1]) ∧ ∀ x : List Int, ∀ s, x.length = n → Ann p m (x ++ [s]) → ∀ j, j < n → p ∣ at0 x j + s * at0 r.2 j
  cases : r.1 = 0 ∨ r.1 = 6 ∧ r.2 = [] ∨ r.1 = 7 ∧ r.2 = []
theorem inc_ge {a : List Nat} (h : a.Pairwise (· < ·)) : ∀ i (hi : i < a.length), i ≤ a[i]
  | 0, _ => Nat.zero_le _
  | i + 1, hi => by
    have h1 := inc_ge h i (by omega)
    have h2 := List.pairwise_iff_getElem.1 h i (i + 1) (by omega) hi (by omega)
    omega
theorem inc_le {a : List Nat} (h : a.Pairwise (· < ·)) {n : Nat} (hn : ∀ x ∈ a, x < n) : ∀ d i (hi : i < a.length), a.length = i + 1 + d → a[i] + d < n
  | 0, i, hi, _ => hn _ (List.getElem_mem hi)
  | d + 1, i, hi, hd => by
    have h1 := inc_le h hn d (i + 1) (by omega) (by omega)
    have h2 := List.pairwise_iff_getElem.1 h i (i + 1) hi (by omega) (by omega)
    omega
theorem at0_map {n : Nat} (g : Nat → Int) (j : Nat) : at0 ((List.range n).map g) j = if j < n then g j else 0 := by
  unfold at0
  rw [List.getD_eq_getElem?_getD, List.getElem?_map]
  by_cases h : j < n
  · rw [if_pos h, List.getElem?_range h]; rfl
  · rw [if_neg h, List.getElem?_eq_none (by simpa using h)]; rfl
theorem sol_told {p : Int} {inv : Int → Int} (hI : Inv p inv) {m : List (List Int)} {n : Nat} (h1 : ∀ r ∈ m, r.length = n + 1) (h2 : ∀ r, r < m.length → ∀ j, 0 ≤ at0 (row m r) j ∧ at0 (row m r) j < p) : Told p m n (solF p inv m n) := by
  obtain ⟨hE, hA, hL⟩ := clr_inv hI h1 h2 n
  have hp := hI.1
  unfold solF
  obtain ⟨st, hst⟩ : ∃ st, clrTo p inv m n = st := ⟨_, rfl⟩
  rw [hst] at hE hA hL ⊢
  obtain ⟨M, a⟩ := st
  dsimp only at hE hA hL ⊢
  have hlen : ∀ r, r < M.length → (row M r).length = n + 1 := fun r hr => hE.len _ (row_mem hr)
  by_cases hb : badR (M, a) n = true
  · rw [if_pos hb]
    refine ⟨fun _ x hx hx2 => ?_, (fun h => by cases h), (fun h => by cases h), .inr (.inl ⟨rfl, rfl⟩)⟩
    obtain ⟨r, k1, k2, k3⟩ := badR_iff.1 hb
    have hd := (hA _).2 hx2 _ (row_mem k2)
    rw [dot_app (hlen r k2) hx, sumTo_zero (fun j hj => by rw [hE.zero r k1 k2 j hj, Int.zero_mul])] at hd
    have hr := hE.red r k2 n
    have hd2 : p ∣ at0 (row M r) n := by
      obtain ⟨t, ht⟩ := hd
      exact ⟨-t, by rw [Int.mul_neg]; omega⟩
    have := Int.le_of_dvd (by dsimp only at k3; omega) hd2
    omega
  have hnb : ∀ r, a.length ≤ r → r < M.length → at0 (row M r) n = 0 := fun r k1 k2 => by
    by_cases e : at0 (row M r) n = 0
    · exact e
    · exact absurd (badR_iff.2 ⟨r, k1, k2, e⟩) hb
  have hzero : ∀ r, a.length ≤ r → r < M.length → ∀ (x : List Int) s, x.length = n → dot (row M r) (x ++ [s]) = 0 := fun r k1 k2 x s hx => by
    rw [dot_app (hlen r k2) hx, sumTo_zero (fun j hj => by rw [hE.zero r k1 k2 j hj, Int.zero_mul]), hnb r k1 k2, Int.zero_mul]
    rfl
  rw [if_neg hb]
  by_cases hc : a.length < n
  · rw [if_pos hc]
    have hnd : a.Nodup := hE.inc.imp fun h => by omega
    have hix : ∀ i (h : i < a.length), a.idxOf a[i] = i := fun i h => hnd.idxOf_getElem i h
    have hpos : ∀ {j}, j ∈ a → ∃ i, ∃ h : i < a.length, a[i] = j := fun hj => List.getElem_of_mem hj
    refine ⟨(fun h => by cases h), fun _ => ⟨?_, ?_⟩, (fun h => by cases h), .inr (.inr ⟨rfl, rfl⟩)⟩
    · refine ⟨(List.range n).map fun j => if j ∈ a then at0 (row M (a.idxOf j)) n else 0, by simp, (hA _).1 fun x hx => ?_⟩
      obtain ⟨r, hr, rfl⟩ := mem_row hx
      by_cases hra : r < a.length
      · rw [dot_app (hlen r hr) (by simp)]
        have har := hE.lt _ (List.getElem_mem hra)
        rw [sumTo_one (t := a[r]) har fun j hj hjt => ?_]
        · rw [at0_map, if_pos har, if_pos (List.getElem_mem hra), hix r hra, hE.one r hra r hr, if_pos rfl]
          exact ⟨0, by omega⟩
        · rw [at0_map, if_pos hj]
          by_cases hja : j ∈ a
          · obtain ⟨i, hi, rfl⟩ := hpos hja
            rw [hE.one i hi r hr, if_neg (fun e => hjt (by subst e; rfl)), Int.zero_mul]
          · rw [if_neg hja, Int.mul_zero]
      · rw [hzero r (by omega) hr _ _ (by simp)]; exact ⟨0, by simp⟩
    · obtain ⟨f, hf, hfa⟩ : ∃ f, f < n ∧ f ∉ a := by
        apply Classical.byContradiction
        intro hno
        have hall : ∀ j, j < n → j ∈ a := fun j hj => Classical.byContradiction fun hja => hno ⟨j, hj, hja⟩
        have := (perm_of_nodup (l := List.range n) (m := a) List.nodup_range (fun x hx => hall x (List.mem_range.1 hx)) (by rw [List.length_range]; omega)).length_eq
        rw [List.length_range] at this
        omega
      refine ⟨(List.range n).map fun j => if j = f then 1 else if j ∈ a then - at0 (row M (a.idxOf j)) f else 0, by simp, (hA _).1 fun x hx => ?_, f, hf, by rw [at0_map, if_pos hf, if_pos rfl]⟩
      obtain ⟨r, hr, rfl⟩ := mem_row hx
      by_cases hra : r < a.length
      · rw [dot_app (hlen r hr) (by simp)]
        have har := hE.lt _ (List.getElem_mem hra)
        have hne : a[r] ≠ f := fun e => hfa (e ▸ List.getElem_mem hra)
        rw [sumTo_two (t := a[r]) (u := f) hne har hf fun j hj hjt hjf => ?_]
        · rw [at0_map, if_pos har, if_neg hne, if_pos (List.getElem_mem hra), hix r hra, hE.one r hra r hr, if_pos rfl, at0_map, if_pos hf, if_pos rfl]
          exact ⟨0, by omega⟩
        · rw [at0_map, if_pos hj, if_neg hjf]
          by_cases hja : j ∈ a
          · obtain ⟨i, hi, rfl⟩ := hpos hja
            rw [hE.one i hi r hr, if_neg (fun e => hjt (by subst e; rfl)), Int.zero_mul]
          · rw [if_neg hja, Int.mul_zero]
      · rw [hzero r (by omega) hr _ _ (by simp)]; exact ⟨0, by simp⟩
  rw [if_neg hc]
  have hal : a.length = n := by
    have : a.length ≤ n := by
      by_cases h0 : a.length = 0
      · omega
      · have := inc_le hE.inc hE.lt (a.length - 1) 0 (by omega) (by omega)
        omega
    omega
  have hai : ∀ i (h : i < a.length), a[i] = i := fun i h => by
    have g1 := inc_ge hE.inc i h
    have g2 := inc_le hE.inc hE.lt (a.length - 1 - i) i h (by omega)
    omega
  have hone : ∀ i r, i < n → r < M.length → at0 (row M r) i = if r = i then 1 else 0 := fun i r hi hr => by
    have := hE.one i (by omega) r hr
    rw [hai i (by omega)] at this
    exact this
  have hle := hE.le
  have hdot : ∀ r, r < n → ∀ (x : List Int) s, x.length = n → dot (row M r) (x ++ [s]) = at0 x r + at0 (row M r) n * s := fun r hr x s hx => by
    rw [dot_app (hlen r (by omega)) hx, sumTo_one (t := r) hr fun j hj hjr => by rw [hone j r hj (by omega), if_neg (fun e => hjr e.symm), Int.zero_mul]]
    rw [hone r r hr (by omega), if_pos rfl, Int.one_mul]
  refine ⟨(fun h => by cases h), (fun h => by cases h), fun _ => ⟨by simp, fun x hx => ?_, (hA _).1 fun x hx => ?_, fun x s hx hx2 j hj => ?_⟩, .inl rfl⟩
  · obtain ⟨i, hi, rfl⟩ := List.mem_map.1 hx
    exact hE.red i (by have := List.mem_range.1 hi; omega) n
  · obtain ⟨r, hr, rfl⟩ := mem_row hx
    by_cases hra : r < n
    · rw [hdot r hra _ _ (by simp), at0_map, if_pos hra]
      exact ⟨0, by omega⟩
    · rw [hzero r (by omega) hr _ _ (by simp)]; exact ⟨0, by simp⟩
  · have := (hA _).2 hx2 _ (row_mem (show j < M.length by omega))
    rw [hdot j hj x s hx] at this
    rw [at0_map, if_pos hj, Int.mul_comm s]
    exact this
end Go.Proofs.Vm.Fld
end

section
/- Rank by definition: a base of rows, each without what those ahead of it have (no program here). -/
namespace Go.Proofs.Vm.Fld

/-- The place of the first number that is not 0; the length, if there is none. -/
def fst : List Int → Nat
  | [] => 0
  | a :: r => if a ≠ 0 then 0 else fst r + 1
theorem fst_le : ∀ r : List Int, fst r ≤ r.length
  | [] => Nat.le_refl _
  | a :: r => by
    unfold fst
    split
    · exact Nat.zero_le _
    · have := fst_le r; rw [List.length_cons]; omega
theorem fst_ne : ∀ {r : List Int}, fst r < r.length → at0 r (fst r) ≠ 0
  | [], h => by simp at h
  | a :: r, h => by
    unfold fst at h ⊢
    by_cases c : a ≠ 0
    · rw [if_pos c]; exact c
    · rw [if_neg c] at h ⊢
      rw [at0_succ]
      exact fst_ne (by rw [List.length_cons] at h; omega)
theorem fst_zero : ∀ {r : List Int} {j : Nat}, j < fst r → at0 r j = 0
  | [], j, h => by simp [fst] at h
  | a :: r, j, h => by
    unfold fst at h
    by_cases c : a ≠ 0
    · rw [if_pos c] at h; omega
    · rw [if_neg c] at h
      cases j with
      | zero => rw [at0_zero]; exact Classical.not_not.1 c
      | succ j => rw [at0_succ]; exact fst_zero (by omega)
theorem fst_unique {r : List Int} {k : Nat} (hk : k ≤ r.length) (h1 : ∀ j, j < k → at0 r j = 0) (h2 : k < r.length → at0 r k ≠ 0) : fst r = k := by
  rcases Nat.lt_trichotomy (fst r) k with h | h | h
  · exact absurd (h1 _ h) (fst_ne (by omega))
  · exact h
  · exact absurd (fst_zero h) (h2 (by have := fst_le r; omega))
variable (p : Int) (inv : Int → Int)
def lesS (out b : List Int) : List Int := elm p (at0 out (fst b) * inv (at0 b (fst b)) % p) b out
def lessF (r : List Int) (base : List (List Int)) : List Int := base.foldl (lesS p inv) r
def basS (base : List (List Int)) (r : List Int) : List (List Int) := if fst (lessF p inv r base) < (lessF p inv r base).length then base ++ [lessF p inv r base] else base
def baseF (rows : List (List Int)) : List (List Int) := rows.foldl (basS p inv) []
variable {p inv}
def Red (p : Int) (w : Nat) (r : List Int) : Prop := r.length = w ∧ ∀ j, 0 ≤ at0 r j ∧ at0 r j < p
/-- A base. -/
def Bas (p : Int) (w : Nat) : List (List Int) → Prop
  | [] => True
  | b :: l => Red p w b ∧ fst b < w ∧ (∀ x ∈ l, at0 x (fst b) = 0) ∧ Bas p w l
theorem Bas.mem : ∀ {l : List (List Int)} {w : Nat}, Bas p w l → ∀ b ∈ l, Red p w b ∧ fst b < w
  | [], _, _, b, h => by simp at h
  | b :: l, w, h, x, hx => by
    rcases List.mem_cons.1 hx with rfl | hx
    · exact ⟨h.1, h.2.1⟩
    · exact Bas.mem h.2.2.2 x hx
theorem Bas.snoc : ∀ {l : List (List Int)} {w : Nat} {x : List Int}, Bas p w l → Red p w x → fst x < w → (∀ b ∈ l, at0 x (fst b) = 0) → Bas p w (l ++ [x])
  | [], w, x, _, h1, h2, _ => ⟨h1, h2, by simp, trivial⟩
  | b :: l, w, x, h, h1, h2, h3 => ⟨h.1, h.2.1, fun y hy => by
    rcases List.mem_append.1 hy with hy | hy
    · exact h.2.2.1 y hy
    · rw [List.mem_singleton.1 hy]; exact h3 b List.mem_cons_self, Bas.snoc h.2.2.2 h1 h2 fun b hb => h3 b (List.mem_cons_of_mem _ hb)⟩
theorem lesS_red (hp : 1 < p) {w : Nat} {out b : List Int} (ho : Red p w out) (hb : Red p w b) : Red p w (lesS p inv out b) := by
  refine ⟨by rw [lesS, elm_len p _ (by rw [ho.1, hb.1])]; exact ho.1, fun j => ?_⟩
  rw [lesS, elm_at p _ (by rw [ho.1, hb.1])]
  exact emod_red hp _
theorem lesS_keep (_hp : 1 < p) {w : Nat} {out b : List Int} (ho : Red p w out) (hb : Red p w b) {j : Nat} (h1 : at0 b j = 0) : at0 (lesS p inv out b) j = at0 out j := by
  rw [lesS, elm_at p _ (by rw [ho.1, hb.1]), h1, Int.mul_zero, Int.zero_emod, Int.sub_zero]
  exact Int.emod_eq_of_lt (ho.2 j).1 (ho.2 j).2
theorem lesS_zero (hI : Inv p inv) {w : Nat} {out b : List Int} (ho : Red p w out) (hb : Red p w b) (hf : fst b < w) : at0 (lesS p inv out b) (fst b) = 0 := by
  rw [lesS, elm_at p _ (by rw [ho.1, hb.1])]
  obtain ⟨o, ho'⟩ : ∃ o, at0 out (fst b) = o := ⟨_, rfl⟩
  have hn : at0 b (fst b) ≠ 0 := fst_ne (by rw [hb.1]; exact hf)
  have hr := hb.2 (fst b)
  obtain ⟨v, hv⟩ : ∃ v, at0 b (fst b) = v := ⟨_, rfl⟩
  rw [hv] at hn hr
  rw [ho', hv]
  have h1 := hI.2 v hr.1 hr.2 hn
  have h2 : o * inv v % p * v % p = o % p := by
    rw [Int.mul_emod, Int.emod_emod, ← Int.mul_emod, Int.mul_assoc, Int.mul_comm (inv v), Int.mul_emod, h1, Int.mul_one, Int.emod_emod]
  rw [h2, Int.sub_emod, Int.emod_emod, Int.sub_self, Int.zero_emod]
theorem lesS_dot {w : Nat} {out b : List Int} (ho : Red p w out) (hb : Red p w b) {y : List Int} (hy : p ∣ dot b y) : p ∣ dot (lesS p inv out b) y ↔ p ∣ dot out y := by
  obtain ⟨t, ht⟩ := dot_elm p (at0 out (fst b) * inv (at0 b (fst b)) % p) b out y (by rw [ho.1, hb.1])
  obtain ⟨s, hs⟩ := hy
  unfold lesS
  obtain ⟨f, hf⟩ : ∃ f, at0 out (fst b) * inv (at0 b (fst b)) % p = f := ⟨_, rfl⟩
  rw [hf] at ht ⊢
  rw [hs, Int.mul_left_comm] at ht
  constructor
  · rintro ⟨u, hu⟩
    exact ⟨u - t + f * s, by rw [Int.mul_add, Int.mul_sub]; omega⟩
  · rintro ⟨u, hu⟩
    exact ⟨t + u - f * s, by rw [Int.mul_sub, Int.mul_add]; omega⟩
theorem lessF_facts (hI : Inv p inv) {w : Nat} : ∀ {base : List (List Int)} {r : List Int}, Bas p w base → Red p w r →
    Red p w (lessF p inv r base) ∧ (∀ b ∈ base, at0 (lessF p inv r base) (fst b) = 0) ∧ (∀ j, (∀ b ∈ base, at0 b j = 0) → at0 (lessF p inv r base) j = at0 r j) ∧ ∀ y, Ann p base y → (p ∣ dot (lessF p inv r base) y ↔ p ∣ dot r y)
  | [], r, _, hr => ⟨hr, by simp, fun _ _ => rfl, fun _ _ => Iff.rfl⟩
  | b :: l, r, hB, hr => by
    obtain ⟨b1, b2, b3, b4⟩ := hB
    obtain ⟨g1, g2, g3, g4⟩ := lessF_facts hI (base := l) (r := lesS p inv r b) b4 (lesS_red hI.1 hr b1)
    refine ⟨g1, fun x hx => ?_, fun j hj => ?_, fun y hy => ?_⟩
    · rcases List.mem_cons.1 hx with rfl | hx
      · show at0 (lessF p inv (lesS p inv r x) l) _ = 0
        rw [g3 _ b3]
        exact lesS_zero hI hr b1 b2
      · exact g2 x hx
    · show at0 (lessF p inv (lesS p inv r b) l) _ = _
      rw [g3 j fun x hx => hj x (List.mem_cons_of_mem _ hx)]
      exact lesS_keep hI.1 hr b1 (hj b List.mem_cons_self)
    · exact (g4 y fun x hx => hy x (List.mem_cons_of_mem _ hx)).trans (lesS_dot hr b1 (hy b List.mem_cons_self))
theorem ann_snoc {m : List (List Int)} {x y : List Int} : Ann p (m ++ [x]) y ↔ Ann p m y ∧ p ∣ dot x y := by
  unfold Ann
  simp only [List.mem_append, List.mem_singleton]
  constructor
  · intro h; exact ⟨fun r hr => h r (.inl hr), h x (.inr rfl)⟩
  · rintro ⟨h1, h2⟩ r (hr | rfl)
    · exact h1 r hr
    · exact h2
theorem zero_of_fst {r : List Int} (h : ¬ fst r < r.length) (j : Nat) : at0 r j = 0 := by
  by_cases c : j < r.length
  · exact fst_zero (by omega)
  · unfold at0; rw [List.getD_eq_getElem?_getD, List.getElem?_eq_none (by omega)]; rfl
theorem dot_zero {r : List Int} (h : ∀ j, at0 r j = 0) (y : List Int) : dot r y = 0 := by
  rw [dot_sum r.length r y (Nat.le_refl _)]
  exact sumTo_zero fun j _ => by rw [h j, Int.zero_mul]
theorem baseF_facts (hI : Inv p inv) {w : Nat} : ∀ {rows : List (List Int)} {base : List (List Int)}, Bas p w base → (∀ r ∈ rows, Red p w r) → Bas p w (rows.foldl (basS p inv) base) ∧ ∀ y, Ann p (rows.foldl (basS p inv) base) y ↔ Ann p base y ∧ Ann p rows y
  | [], base, hB, _ => ⟨hB, fun y => by simp [Ann]⟩
  | r :: rows, base, hB, hr => by
    obtain ⟨g1, g2, g3, g4⟩ := lessF_facts hI hB (hr r List.mem_cons_self)
    have hB' : Bas p w (basS p inv base r) := by
      unfold basS
      by_cases c : fst (lessF p inv r base) < (lessF p inv r base).length
      · rw [if_pos c]; exact hB.snoc g1 (by rw [← g1.1]; exact c) g2
      · rw [if_neg c]; exact hB
    obtain ⟨k1, k2⟩ := baseF_facts hI (rows := rows) hB' fun x hx => hr x (List.mem_cons_of_mem _ hx)
    refine ⟨k1, fun y => (k2 y).trans ?_⟩
    have hA : Ann p (basS p inv base r) y ↔ Ann p base y ∧ p ∣ dot r y := by
      unfold basS
      by_cases c : fst (lessF p inv r base) < (lessF p inv r base).length
      · rw [if_pos c, ann_snoc]
        exact ⟨fun h => ⟨h.1, (g4 y h.1).1 h.2⟩, fun h => ⟨h.1, (g4 y h.1).2 h.2⟩⟩
      · rw [if_neg c]
        refine ⟨fun h => ⟨h, (g4 y h).1 ?_⟩, fun h => h.1⟩
        rw [dot_zero (zero_of_fst c)]
        exact ⟨0, by simp⟩
    rw [hA]
    constructor
    · rintro ⟨⟨h1, h2⟩, h3⟩
      exact ⟨h1, fun x hx => by rcases List.mem_cons.1 hx with rfl | hx; · exact h2
                                exact h3 x hx⟩
    · rintro ⟨h1, h2⟩
      exact ⟨⟨h1, h2 r List.mem_cons_self⟩, fun x hx => h2 x (List.mem_cons_of_mem _ hx)⟩
theorem base_facts (hI : Inv p inv) {w : Nat} {rows : List (List Int)} (h : ∀ r ∈ rows, Red p w r) : Bas p w (baseF p inv rows) ∧ ∀ y, Ann p (baseF p inv rows) y ↔ Ann p rows y := by
  obtain ⟨g1, g2⟩ := baseF_facts hI (w := w) (rows := rows) (base := []) trivial h
  exact ⟨g1, fun y => (g2 y).trans ⟨fun h => h.2, fun h => ⟨fun r hr => by simp at hr, h⟩⟩⟩
theorem at0_set {x : List Int} {k : Nat} {t : Int} (hk : k < x.length) (j : Nat) : at0 (x.set k t) j = if j = k then t else at0 x j := by
  unfold at0
  simp only [List.getD_eq_getElem?_getD, List.getElem?_set]
  by_cases h : k = j
  · subst h; simp [hk]
  · have h' : ¬ j = k := fun e => h e.symm
    simp [h, h']
theorem sumTo_congr {f g : Nat → Int} : ∀ {n}, (∀ j, j < n → f j = g j) → sumTo f n = sumTo g n
  | 0, _ => rfl
  | n + 1, h => by
    show sumTo f n + f n = sumTo g n + g n
    rw [sumTo_congr fun j hj => h j (by omega), h n (by omega)]
theorem sumTo_add (f g : Nat → Int) : ∀ n, sumTo (fun j => f j + g j) n = sumTo f n + sumTo g n
  | 0 => rfl
  | n + 1 => by
    have := sumTo_add f g n
    show sumTo _ n + (f n + g n) = sumTo f n + f n + (sumTo g n + g n)
    omega
theorem dot_set {r x : List Int} {w k : Nat} (hr : r.length = w) (hx : x.length = w) (hk : k < w) (t : Int) : dot r (x.set k t) = dot r x + at0 r k * (t - at0 x k) := by
  rw [dot_sum w r _ (by omega), dot_sum w r x (by omega)]
  have h1 : sumTo (fun j => at0 r j * at0 (x.set k t) j) w = sumTo (fun j => at0 r j * at0 x j + (if j = k then at0 r k * (t - at0 x k) else 0)) w := sumTo_congr fun j hj => by
    rw [at0_set (by omega)]
    by_cases e : j = k
    · rw [if_pos e, if_pos e, e, Int.mul_sub]; omega
    · rw [if_neg e, if_neg e, Int.add_zero]
  have h2 : sumTo (fun j => if j = k then at0 r k * (t - at0 x k) else 0) w = at0 r k * (t - at0 x k) := by
    rw [sumTo_one (t := k) hk fun j hj hjk => by rw [if_neg hjk], if_pos rfl]
  rw [h1, sumTo_add, h2]
/-- Whatever the numbers off the firsts are, those at the firsts can be chosen. -/
theorem bas_solve (hI : Inv p inv) {w : Nat} : ∀ {l : List (List Int)}, Bas p w l → ∀ x0 : List Int, x0.length = w → ∃ x : List Int, x.length = w ∧ Ann p l x ∧ ∀ j, (∀ b ∈ l, fst b ≠ j) → at0 x j = at0 x0 j
  | [], _, x0, h0 => ⟨x0, h0, fun r hr => by simp at hr, fun _ _ => rfl⟩
  | b :: l, hB, x0, h0 => by
    obtain ⟨b1, b2, b3, b4⟩ := hB
    obtain ⟨x, g1, g2, g3⟩ := bas_solve hI b4 x0 h0
    have hn : at0 b (fst b) ≠ 0 := fst_ne (by rw [b1.1]; exact b2)
    have hr := b1.2 (fst b)
    have h1 := hI.2 _ hr.1 hr.2 hn
    obtain ⟨v, hv⟩ : ∃ v, at0 b (fst b) = v := ⟨_, rfl⟩
    obtain ⟨d, hd⟩ : ∃ d, dot b x = d := ⟨_, rfl⟩
    refine ⟨x.set (fst b) (at0 x (fst b) - d * inv v), by simp [g1], fun r hr => ?_, fun j hj => ?_⟩
    · rcases List.mem_cons.1 hr with rfl | hr
      · rw [dot_set b1.1 g1 b2, hv, hd]
        rw [hv] at h1
        have ht : v * inv v = p * (v * inv v / p) + 1 := by have := Int.emod_add_mul_ediv (v * inv v) p; omega
        obtain ⟨q, hq⟩ : ∃ q, v * inv v / p = q := ⟨_, rfl⟩
        rw [hq] at ht
        refine ⟨-(d * q), ?_⟩
        have e : v * (at0 x (fst r) - d * inv v - at0 x (fst r)) = -(d * (v * inv v)) := by
          rw [show at0 x (fst r) - d * inv v - at0 x (fst r) = -(d * inv v) by omega, Int.mul_neg, Int.mul_left_comm]
        rw [e, ht, Int.mul_add, Int.mul_one, Int.mul_neg, Int.mul_left_comm]
        omega
      · rw [dot_set (b4.mem r hr).1.1 g1 b2, b3 r hr, Int.zero_mul, Int.add_zero]
        exact g2 r hr
    · rw [at0_set (by rw [g1]; exact b2), if_neg fun e => hj b List.mem_cons_self e.symm]
      exact g3 j fun x hx => hj x (List.mem_cons_of_mem _ hx)
theorem dvd_sum {f : Nat → Int} : ∀ {n}, (∀ j, j < n → p ∣ f j) → p ∣ sumTo f n
  | 0, _ => ⟨0, by simp [sumTo]⟩
  | n + 1, h => Int.dvd_add (dvd_sum fun j hj => h j (by omega)) (h n (by omega))
/-- What all rows of a base tell nothing of, and is 0 off the firsts, is 0. -/
theorem bas_zero (hI : Inv p inv) {w : Nat} : ∀ {l : List (List Int)}, Bas p w l → ∀ x : List Int, x.length = w → Ann p l x → (∀ j, j < w → (∀ b ∈ l, fst b ≠ j) → p ∣ at0 x j) → ∀ j, j < w → p ∣ at0 x j
  | [], _, x, _, _, h, j, hj => h j hj (by simp)
  | b :: l, hB, x, hx, hA, h, j, hj => by
    obtain ⟨b1, b2, b3, b4⟩ := hB
    have hA' : Ann p l (x.set (fst b) 0) := fun r hr => by
      rw [dot_set (b4.mem r hr).1.1 hx b2, b3 r hr, Int.zero_mul, Int.add_zero]
      exact hA r (List.mem_cons_of_mem _ hr)
    have key := bas_zero hI b4 (x.set (fst b) 0) (by simp [hx]) hA' fun i hi hni => by
      rw [at0_set (by rw [hx]; exact b2)]
      by_cases e : i = fst b
      · rw [if_pos e]; exact ⟨0, by simp⟩
      · rw [if_neg e]
        refine h i hi fun c hc => ?_
        rcases List.mem_cons.1 hc with rfl | hc
        · exact fun e' => e e'.symm
        · exact hni c hc
    by_cases e : j = fst b
    · have h0 := hA b List.mem_cons_self
      have hs := dot_set b1.1 hx b2 0
      have hz : p ∣ dot b (x.set (fst b) 0) := by
        rw [dot_sum w b _ (by rw [b1.1]; exact Nat.le_refl _)]
        exact dvd_sum fun i hi => Int.dvd_mul_of_dvd_right (key i hi)
      have hm : p ∣ at0 b (fst b) * at0 x (fst b) := by
        rw [Int.zero_sub, Int.mul_neg] at hs
        have : at0 b (fst b) * at0 x (fst b) = dot b x - dot b (x.set (fst b) 0) := by omega
        rw [this]
        exact Int.dvd_sub h0 hz
      have hn : at0 b (fst b) ≠ 0 := fst_ne (by rw [b1.1]; exact b2)
      have hr := b1.2 (fst b)
      have h1 := hI.2 _ hr.1 hr.2 hn
      rw [e]
      rw [Int.mul_comm] at h1
      refine (dvd_scale (v := inv (at0 b (fst b))) (u := at0 b (fst b)) h1 hI.1 (d := at0 x (fst b)) (e := at0 b (fst b) * at0 x (fst b)) ⟨0, by omega⟩).1 hm
    · have := key j hj
      rw [at0_set (by rw [hx]; exact b2), if_neg e] at this
      exact this
theorem bas_nodup {w : Nat} : ∀ {l : List (List Int)}, Bas p w l → (l.map fst).Nodup
  | [], _ => List.nodup_nil
  | b :: l, h => by
    rw [List.map_cons, List.nodup_cons]
    refine ⟨fun hm => ?_, bas_nodup h.2.2.2⟩
    obtain ⟨x, hx, e⟩ := List.mem_map.1 hm
    have h1 := h.2.2.2.mem x hx
    have h2 := h.2.2.1 x hx
    rw [← e] at h2
    exact fst_ne (by rw [h1.1.1]; exact h1.2) h2
theorem bas_len {w : Nat} {l : List (List Int)} (h : Bas p w l) : l.length ≤ w ∧ (l.length < w → ∃ f, f < w ∧ ∀ b ∈ l, fst b ≠ f) := by
  have hn := bas_nodup h
  have hlt : ∀ x ∈ l.map fst, x < w := fun x hx => by obtain ⟨b, hb, rfl⟩ := List.mem_map.1 hx; exact (h.mem b hb).2
  constructor
  · apply Classical.byContradiction
    intro hc
    have := (perm_of_nodup (l := l.map fst) (m := List.range w) hn (fun x hx => List.mem_range.2 (hlt x hx)) (by rw [List.length_map, List.length_range]; omega)).length_eq
    rw [List.length_map, List.length_range] at this
    omega
  · intro hl
    apply Classical.byContradiction
    intro hno
    have hall : ∀ f, f < w → f ∈ l.map fst := fun f hf => Classical.byContradiction fun hm => hno ⟨f, hf, fun b hb e => hm (List.mem_map.2 ⟨b, hb, e⟩)⟩
    have := (perm_of_nodup (l := List.range w) (m := l.map fst) List.nodup_range (fun x hx => hall x (List.mem_range.1 hx)) (by rw [List.length_map, List.length_range]; omega)).length_eq
    rw [List.length_map, List.length_range] at this
    omega
end Go.Proofs.Vm.Fld
end

section
/- Ranks tell whether equations have one solution (no program here). -/
namespace Go.Proofs.Vm.Fld
variable {p : Int} {inv : Int → Int}

theorem ext_at0 {a b : List Int} (h : a.length = b.length) (h2 : ∀ j, j < a.length → at0 a j = at0 b j) : a = b := by
  apply List.ext_getElem h
  intro j h3 h4
  have := h2 j h3
  unfold at0 at this
  rw [List.getD_eq_getElem?_getD, List.getD_eq_getElem?_getD, List.getElem?_eq_getElem h3, List.getElem?_eq_getElem h4] at this
  exact this
theorem at0_take (r : List Int) (n j : Nat) : at0 (r.take n) j = if j < n then at0 r j else 0 := by
  unfold at0
  simp only [List.getD_eq_getElem?_getD, List.getElem?_take]
  by_cases h : j < n
  · rw [if_pos h, if_pos h]
  · rw [if_neg h, if_neg h]; rfl
theorem fst_take {r : List Int} {n : Nat} (h : n ≤ r.length) : fst (r.take n) = if fst r < n then fst r else n := by
  by_cases c : fst r < n
  · rw [if_pos c]
    refine fst_unique (by rw [List.length_take]; omega) (fun j hj => ?_) (fun _ => ?_)
    · rw [at0_take, if_pos (by omega)]; exact fst_zero hj
    · rw [at0_take, if_pos c]; exact fst_ne (by omega)
  · rw [if_neg c]
    refine fst_unique (by rw [List.length_take]; omega) (fun j hj => ?_) (fun h2 => ?_)
    · rw [at0_take, if_pos hj]; exact fst_zero (by omega)
    · rw [List.length_take] at h2; omega
theorem red_take {n : Nat} {r : List Int} (hp : 1 < p) (h : Red p (n + 1) r) : Red p n (r.take n) := by
  refine ⟨by rw [List.length_take, h.1]; omega, fun j => ?_⟩
  rw [at0_take]
  split
  · exact h.2 j
  · omega
def prj (n : Nat) (bw : List (List Int)) : List (List Int) := (bw.filter fun b => decide (fst b < n)).map (·.take n)
theorem lesS_take (hp : 1 < p) {n : Nat} {out b : List Int} (ho : Red p (n + 1) out) (hb : Red p (n + 1) b) : (lesS p inv out b).take n = if fst b < n then lesS p inv (out.take n) (b.take n) else out.take n := by
  have hol := ho.1
  have hbl := hb.1
  by_cases c : fst b < n
  · rw [if_pos c]
    unfold lesS
    rw [fst_take (by omega), if_pos c, at0_take, if_pos c, at0_take, if_pos c]
    exact List.take_zipWith
  · rw [if_neg c]
    refine ext_at0 (by rw [List.length_take, List.length_take, (lesS_red hp ho hb).1, hol]) fun j hj => ?_
    rw [List.length_take] at hj
    rw [at0_take, at0_take, if_pos (by omega), if_pos (by omega)]
    exact lesS_keep hp ho hb (fst_zero (by omega))
theorem lessF_take (hp : 1 < p) {n : Nat} : ∀ {bw : List (List Int)} {r : List Int}, (∀ b ∈ bw, Red p (n + 1) b) → Red p (n + 1) r → (lessF p inv r bw).take n = lessF p inv (r.take n) (prj n bw)
  | [], _, _, _ => rfl
  | b :: bw, r, hb, hr => by
    have h1 := hb b List.mem_cons_self
    have ih := lessF_take hp (bw := bw) (r := lesS p inv r b) (fun x hx => hb x (List.mem_cons_of_mem _ hx)) (lesS_red hp hr h1)
    show (lessF p inv (lesS p inv r b) bw).take n = _
    rw [ih, lesS_take hp hr h1]
    unfold prj
    rw [List.filter_cons]
    by_cases c : fst b < n
    · rw [if_pos c, if_pos (decide_eq_true c)]; rfl
    · rw [if_neg c, if_neg (by simpa using c)]
def high (n : Nat) (bw : List (List Int)) : Nat := bw.countP fun b => !decide (fst b < n)
theorem prj_len (n : Nat) : ∀ bw : List (List Int), bw.length = (prj n bw).length + high n bw
  | [] => rfl
  | b :: bw => by
    have ih := prj_len n bw
    unfold prj high at *
    rw [List.filter_cons, List.countP_cons]
    by_cases c : fst b < n
    · rw [if_pos (decide_eq_true c), List.map_cons, List.length_cons, List.length_cons, decide_eq_true c]
      simp
      simp at ih
      omega
    · rw [if_neg (by simpa using c), List.length_cons, decide_eq_false c]
      simp
      simp at ih
      omega
theorem prj_snoc (n : Nat) (bw : List (List Int)) (x : List Int) : prj n (bw ++ [x]) = if fst x < n then prj n bw ++ [x.take n] else prj n bw := by
  unfold prj
  rw [List.filter_append, List.map_append]
  by_cases c : fst x < n
  · rw [if_pos c]; simp [c]
  · rw [if_neg c]; simp [c]
theorem high_snoc (n : Nat) (bw : List (List Int)) (x : List Int) : high n (bw ++ [x]) = high n bw + if fst x < n then 0 else 1 := by
  unfold high
  rw [List.countP_append]
  by_cases c : fst x < n <;> simp [c]
theorem bas_par (hI : Inv p inv) {n : Nat} : ∀ {rows : List (List Int)} {bw : List (List Int)}, (∀ r ∈ rows, Red p (n + 1) r) → Bas p (n + 1) bw → high n bw ≤ 1 → prj n (rows.foldl (basS p inv) bw) = (rows.map (·.take n)).foldl (basS p inv) (prj n bw) ∧ high n (rows.foldl (basS p inv) bw) ≤ 1
  | [], bw, _, _, h => ⟨rfl, h⟩
  | r :: rows, bw, hr, hB, h1 => by
    have hr0 := hr r List.mem_cons_self
    obtain ⟨g1, g2, _, _⟩ := lessF_facts hI hB hr0
    have ht := lessF_take (inv := inv) hI.1 (fun b hb => (hB.mem b hb).1) hr0
    obtain ⟨x, hx⟩ : ∃ x, lessF p inv r bw = x := ⟨_, rfl⟩
    rw [hx] at g1 g2 ht
    have hxl := g1.1
    have hfx := fst_le x
    have hft := fst_take (r := x) (n := n) (by omega)
    have key : Bas p (n + 1) (basS p inv bw r) ∧ high n (basS p inv bw r) ≤ 1 ∧ prj n (basS p inv bw r) = basS p inv (prj n bw) (r.take n) := by
      unfold basS
      rw [← ht, hx, hft]
      have hxt : (x.take n).length = n := by rw [List.length_take]; omega
      rw [hxt, hxl]
      by_cases c1 : fst x < n
      · rw [if_pos (by omega), if_pos c1, if_pos c1, high_snoc, if_pos c1, prj_snoc, if_pos c1]
        exact ⟨hB.snoc g1 (by omega) g2, h1, rfl⟩
      · rw [if_neg c1, if_neg (Nat.lt_irrefl n)]
        by_cases c2 : fst x < n + 1
        · rw [if_pos c2, high_snoc, if_neg c1, prj_snoc, if_neg c1]
          refine ⟨hB.snoc g1 c2 g2, ?_, rfl⟩
          have h0 : high n bw = 0 := by
            unfold high
            rw [List.countP_eq_zero]
            intro b hb hc
            have hc' : ¬ fst b < n := by simpa using hc
            have := (hB.mem b hb).2
            have h2 := g2 b hb
            rw [show fst b = fst x by omega] at h2
            exact fst_ne (by omega) h2
          omega
        · rw [if_neg c2]
          exact ⟨hB, h1, rfl⟩
    obtain ⟨k1, k2, k3⟩ := key
    have := bas_par hI (rows := rows) (fun y hy => hr y (List.mem_cons_of_mem _ hy)) k1 k2
    rw [k3] at this
    exact this
theorem dvd_at0 {p a : Int} (h0 : 0 ≤ a) (h1 : a < p) (h : p ∣ a) : a = 0 := by
  by_cases c : a = 0
  · exact c
  · have := Int.le_of_dvd (by omega) h; omega
def errF (p : Int) (inv : Int → Int) (W : List (List Int)) (n : Nat) : Int :=
  if (baseF p inv (W.map (·.take n))).length < (baseF p inv W).length then 6 else if (baseF p inv (W.map (·.take n))).length < n then 7 else 0
theorem ann_take {W : List (List Int)} {n : Nat} (hW : ∀ r ∈ W, r.length = n + 1) {v : List Int} (hv : v.length = n) : Ann p W (v ++ [0]) ↔ Ann p (W.map (·.take n)) v := by
  have key : ∀ r ∈ W, dot r (v ++ [0]) = dot (r.take n) v := fun r hr => by
    have hl := hW r hr
    rw [dot_app hl hv, Int.mul_zero, Int.add_zero, dot_sum n (r.take n) v (by rw [List.length_take]; omega)]
    exact sumTo_congr fun j hj => by rw [at0_take, if_pos hj]
  unfold Ann
  constructor
  · intro h x hx
    obtain ⟨r, hr, rfl⟩ := List.mem_map.1 hx
    rw [← key r hr]; exact h r hr
  · intro h r hr
    rw [key r hr]; exact h _ (List.mem_map.2 ⟨r, hr, rfl⟩)
theorem err_eq (hI : Inv p inv) {W : List (List Int)} {n : Nat} (hW : ∀ r ∈ W, Red p (n + 1) r) : errF p inv W n = (solF p inv W n).1 := by
  have hp := hI.1
  have hl : ∀ r ∈ W, r.length = n + 1 := fun r hr => (hW r hr).1
  have hT := sol_told hI hl fun r hr j => (hW _ (row_mem hr)).2 j
  obtain ⟨B1, B2⟩ := base_facts hI hW
  have hA : ∀ r ∈ W.map (·.take n), Red p n r := fun x hx => by obtain ⟨r, hr, rfl⟩ := List.mem_map.1 hx; exact red_take hp (hW r hr)
  obtain ⟨A1, A2⟩ := base_facts hI hA
  obtain ⟨P1, P2⟩ := bas_par hI (n := n) (rows := W) (bw := []) hW trivial (Nat.zero_le _)
  have hlen := prj_len n (baseF p inv W)
  have P1' : prj n (baseF p inv W) = baseF p inv (W.map (·.take n)) := P1
  rw [P1'] at hlen
  have hbl := bas_len A1
  -- whether there is a solution
  have hsol : (baseF p inv (W.map (·.take n))).length < (baseF p inv W).length → ∀ x : List Int, x.length = n → ¬ Ann p W (x ++ [-1]) := fun hlt x hx hann => by
    have hpos : 0 < high n (baseF p inv W) := by omega
    obtain ⟨b, hb, hc⟩ := List.countP_pos_iff.1 hpos
    have hc : ¬ fst b < n := by simpa using hc
    have hm := B1.mem b hb
    have hfb : fst b = n := by omega
    have hd := (B2 _).2 hann b hb
    rw [dot_app hm.1.1 hx, sumTo_zero (fun j hj => by rw [fst_zero (by omega), Int.zero_mul])] at hd
    have hr := hm.1.2 n
    have hd2 : p ∣ at0 b n := by
      obtain ⟨t, ht⟩ := hd
      exact ⟨-t, by rw [Int.mul_neg]; omega⟩
    exact fst_ne (by rw [hm.1.1]; omega) (by rw [hfb]; exact dvd_at0 hr.1 hr.2 hd2)
  have hsol2 : ¬ (baseF p inv (W.map (·.take n))).length < (baseF p inv W).length → ∃ x : List Int, x.length = n ∧ Ann p W (x ++ [-1]) := fun hlt => by
    have h0 : high n (baseF p inv W) = 0 := by omega
    have hall : ∀ b ∈ baseF p inv W, fst b < n := fun b hb => by
      have := List.countP_eq_zero.1 h0 b hb
      simpa using this
    obtain ⟨y, y1, y2, y3⟩ := bas_solve hI B1 (List.replicate n 0 ++ [-1]) (by simp)
    have hy : y = y.take n ++ [-1] := by
      refine ext_at0 (by rw [List.length_append, List.length_take]; simp; omega) fun j hj => ?_
      rw [at0_app (n := n) (by rw [List.length_take]; omega), at0_take]
      by_cases c : j < n
      · rw [if_pos c, if_pos c]
      · have : j = n := by omega
        rw [if_neg c, if_pos this, this, y3 n fun b hb e => by have := hall b hb; omega, at0_app (n := n) (by simp), if_neg (Nat.lt_irrefl n), if_pos rfl]
    exact ⟨y.take n, by rw [List.length_take]; omega, by rw [← hy]; exact (B2 y).1 y2⟩
  have hker : (baseF p inv (W.map (·.take n))).length < n → ∃ v : List Int, v.length = n ∧ Ann p W (v ++ [0]) ∧ ∃ j, j < n ∧ at0 v j = 1 := fun hlt => by
    obtain ⟨f, hf, hnf⟩ := hbl.2 hlt
    obtain ⟨v, v1, v2, v3⟩ := bas_solve hI A1 ((List.range n).map fun j => if j = f then 1 else 0) (by simp)
    refine ⟨v, v1, (ann_take hl v1).2 ((A2 v).1 v2), f, hf, ?_⟩
    rw [v3 f hnf, at0_map, if_pos hf, if_pos rfl]
  have hker2 : ¬ (baseF p inv (W.map (·.take n))).length < n → ∀ v : List Int, v.length = n → Ann p W (v ++ [0]) → ∀ j, j < n → p ∣ at0 v j := fun hlt v hv hann => by
    refine bas_zero hI A1 v hv ((A2 v).2 ((ann_take hl hv).1 hann)) fun j hj hno => ?_
    exfalso
    have hn := bas_nodup A1
    have := (perm_of_nodup (l := j :: (baseF p inv (W.map (·.take n))).map fst) (m := List.range n) (by
      rw [List.nodup_cons]
      refine ⟨fun hm => ?_, hn⟩
      obtain ⟨b, hb, e⟩ := List.mem_map.1 hm
      exact hno b hb e) (fun x hx => by
      rcases List.mem_cons.1 hx with rfl | hx
      · exact List.mem_range.2 hj
      · obtain ⟨b, hb, rfl⟩ := List.mem_map.1 hx
        exact List.mem_range.2 (A1.mem b hb).2) (by rw [List.length_range, List.length_cons, List.length_map]; omega)).length_eq
    rw [List.length_range, List.length_cons, List.length_map] at this
    omega
  unfold errF
  rcases hT.cases with h | ⟨h, _⟩ | ⟨h, _⟩
  · obtain ⟨g1, g2, g3, g4⟩ := hT.one h
    have c1 : ¬ (baseF p inv (W.map (·.take n))).length < (baseF p inv W).length := fun c => hsol c _ g1 g3
    rw [if_neg c1, h]
    have c2 : ¬ (baseF p inv (W.map (·.take n))).length < n := fun c => by
      obtain ⟨v, v1, v2, j, hj, hv⟩ := hker c
      have := g4 v 0 v1 v2 j hj
      rw [hv, Int.zero_mul, Int.add_zero] at this
      have := Int.le_of_dvd (by omega) this
      omega
    rw [if_neg c2]
  · rw [h]
    by_cases c : (baseF p inv (W.map (·.take n))).length < (baseF p inv W).length
    · rw [if_pos c]
    · obtain ⟨x, x1, x2⟩ := hsol2 c
      exact absurd x2 (hT.none h x x1)
  · obtain ⟨⟨x, x1, x2⟩, v, v1, v2, j, hj, hv⟩ := hT.more h
    have c1 : ¬ (baseF p inv (W.map (·.take n))).length < (baseF p inv W).length := fun c => hsol c x x1 x2
    rw [if_neg c1, h]
    by_cases c2 : (baseF p inv (W.map (·.take n))).length < n
    · rw [if_pos c2]
    · have := hker2 c2 v v1 v2 j hj
      rw [hv] at this
      have := Int.le_of_dvd (by omega) this
      omega
end Go.Proofs.Vm.Fld
end

section
/- Inverses modulo 2^61 - 1. -/
namespace Go.Proofs.Vm.Fld
def E61 : Nat := 2305843009213693949
theorem E61_eq : P61 = E61 + 2 := by decide
theorem E61_val : (E61 : Int) = 2305843009213693949 := by decide
attribute [irreducible] E61
/-- The power that is two less than the prime. -/
def invF (a : Int) : Int := a ^ E61 % 2305843009213693951
theorem inv_nat (a : Nat) (h : a % P61 ≠ 0) : a * a ^ E61 % P61 = 1 := by
  have := inv61 h
  rw [E61_eq] at this
  exact E61_eq ▸ this
theorem inv_ok : Inv 2305843009213693951 invF := by
  refine ⟨by decide, fun a h0 h1 hn => ?_⟩
  obtain ⟨n, rfl⟩ := Int.eq_ofNat_of_zero_le h0
  have hP : ((P61 : Nat) : Int) = 2305843009213693951 := rfl
  have hn2 : n % P61 ≠ 0 := by
    have : n < P61 := by omega
    rw [Nat.mod_eq_of_lt this]
    omega
  have h := congrArg (fun x : Nat => (x : Int)) (inv_nat n hn2)
  unfold invF
  rw [← hP]
  simp only [Int.natCast_emod, Int.natCast_mul, Int.natCast_pow] at h
  rw [Int.mul_emod, Int.emod_emod, ← Int.mul_emod]
  exact h
end Go.Proofs.Vm.Fld
end

section
/- Solve: the field, and whether rows are even. -/
set_option maxRecDepth 8192
set_option maxHeartbeats 1000000
namespace Go.Proofs.YtmgnmnogiajlgaaF
open Go Go.Proofs.Vm Go.Proofs.Vm.Fld

def cUr (r : List Int) : CV := .arr (r.map cU)
def cUm (m : List (List Int)) : CV := .arr (m.map fun r => [cUr r])
theorem field_Sub {a b : Int} (h0 : 0 ≤ a) (h1 : a < 18446744073709551616) (h2 : 0 ≤ b) (h3 : b < 18446744073709551616) : TV.pu 87 [cI .u64 a, cI .u64 b] = some (cI .u64 ((a - b) % 2305843009213693951)) := by
  refine run87 (by simp) ?_
  have e1 : IntKind.u64.wrap (a % 2305843009213693951 + 2305843009213693951) = a % 2305843009213693951 + 2305843009213693951 := u64_id (by omega) (by omega)
  have e2 : IntKind.u64.wrap (a % 2305843009213693951 + 2305843009213693951 - b % 2305843009213693951) = a % 2305843009213693951 + 2305843009213693951 - b % 2305843009213693951 := u64_id (by omega) (by omega)
  have e3 : (a % 2305843009213693951 + 2305843009213693951 - b % 2305843009213693951) % 2305843009213693951 = (a - b) % 2305843009213693951 := by omega
  have hO := field_Of (a := a % 2305843009213693951 + 2305843009213693951 - b % 2305843009213693951) (by omega) (by omega)
  rw [e3] at hO
  simp [Try.f87, field_Of h0 h1, field_Of h2 h3, e1, e2, hO]
theorem field_Inv {a : Int} (h0 : 0 ≤ a) (h1 : a < 2305843009213693951) (hn : a ≠ 0) : TV.pu 86 [cI .u64 a] = some (.tup [(false, [.v (.int .u64 (invF a))]), (false, [.v (.bool true)])]) := by
  refine run86 (by simp) ?_
  have hO := field_Of (a := a) h0 (by omega)
  rw [Int.emod_eq_of_lt h0 h1] at hO
  have hP := field_Pow (x := a) (n := E61) h0 (by omega) (by rw [E61_val]; omega)
  rw [E61_val] at hP
  have hi : a ^ E61 % 2305843009213693951 = invF a := rfl
  rw [hi] at hP
  obtain ⟨v, hv⟩ : ∃ v, invF a = v := ⟨_, rfl⟩
  rw [hv] at hP ⊢
  simp -implicitDefEqProofs [Try.f86, hO, hP, hn]

theorem index_urows {g : CV} {caps : List CV} {f : FuncId} (hg : g = .fn f caps) {p : List Int → Bool} {r : List (List Int)} (hp : ∀ n ∈ r, TV.pu f (.one (cUr n) :: caps.map .one) = some (cB (p n))) (hl : r.length < 9223372036854775807) :
    TV.pu 94 [.one (cUm r), .one g] = some (cI .i64 (idxF p r)) := by
  subst hg
  refine run94 (by simp) ?_
  simp [Try.f94, cUm]
  obtain ⟨I, hI⟩ : ∃ I : Nat → St → Prop, ∀ k s', I k s' ↔ (∃ e j, s' = ⟨e, []⟩ ∧ e 0 = .one (.c (cUm r)) ∧ e 1 = .one (.c (.fn f caps)) ∧ e 7 = vI .i64 r.length ∧ e 8 = vI .i64 (j : Nat) ∧ j + k = r.length ∧ ∀ q, q < j → ∀ x, r[q]? = some x → p x = false) := ⟨_, fun _ _ => Iff.rfl⟩
  refine wpL_ind I ?_ r.length _ ((hI _ _).2 ⟨_, 0, rfl, by simp [cUm], by simp, by simp, by simp, by omega, by simp⟩)
  intro k st hst
  obtain ⟨e, j, rfl, e0, e1, e7, e8, hk, hno⟩ := (hI _ _).1 hst
  by_cases c : j < r.length
  · have hx : r[j]? = some r[j] := List.getElem?_eq_getElem c
    have hpj := hp r[j] (List.getElem_mem c)
    have w1 : IntKind.i64.wrap ((j : Int) + 1) = ((j + 1 : Nat) : Int) := by rw [w64_id (by omega) (by omega)]; omega
    simp only [cUr] at hpj
    simp [e0, e1, e7, e8, cUm, cUr, c, hpj, w1]
    by_cases hj : p r[j] = true
    · simp [hj, idxF_at p r j c hj hno]
    · simp [hj]
      refine ⟨k - 1, by omega, (hI _ _).2 ⟨_, j + 1, rfl, by simp [e0], by simp [e1], by simp [e7], by simp, by omega, ?_⟩⟩
      intro q hq x hx2
      by_cases hqj : q = j
      · subst hqj
        rw [hx] at hx2
        cases hx2
        simpa using hj
      · exact hno q (by omega) x hx2
  · have c' : ¬ (j : Int) < (r.length : Int) := by omega
    simp [e0, e1, e7, e8, c']
    rw [idxF_none p r fun q hq => hno q (by omega)]
theorem contains_urows {g : CV} {caps : List CV} {f : FuncId} (hg : g = .fn f caps) {p : List Int → Bool} {r : List (List Int)} (hp : ∀ n ∈ r, TV.pu f (.one (cUr n) :: caps.map .one) = some (cB (p n))) (hl : r.length < 9223372036854775807) :
    TV.pu 84 [.one (cUm r), .one g] = some (cB (r.any p)) := by
  refine run84 (by simp) ?_
  have h := index_urows hg hp hl
  subst hg
  simp [Try.f84, h, idxF_ge, cUm] at h ⊢


def unevB (m : List (List Int)) (r : List Int) : Bool := decide (r.length ≠ (m.headD []).length) || decide (32 < r.length)
def evenB (m : List (List Int)) : Bool := decide (m.length ≤ 32) && !m.any (unevB m)
theorem sv_unev {m : List (List Int)} {r : List Int} (hm : m ≠ []) : TV.pu 85 [.one (cUr r), .one (.cptr [cUm m])] = some (cB (unevB m r)) := by
  refine run85 (by simp) ?_
  obtain ⟨h, t, rfl⟩ : ∃ h t, m = h :: t := by cases m with | nil => exact absurd rfl hm | cons h t => exact ⟨h, t, rfl⟩
  have hB : unevB (h :: t) r = (decide (r.length ≠ h.length) || decide (32 < r.length)) := rfl
  rw [hB]
  by_cases h3 : (r.length : Int) = h.length
  · have g3 : ¬ r.length ≠ h.length := by omega
    rw [decide_eq_false g3, Bool.false_or]
    have h3' : ((r.length : Int) != (h.length : Int)) = false := by simp [h3]
    by_cases h4 : 32 < r.length
    · have h4' : 32 < (r.length : Int) := by omega
      simp -implicitDefEqProofs [Try.f85, cUm, cUr, h3', h4, h4']
    · have h4' : ¬ 32 < (r.length : Int) := by omega
      simp -implicitDefEqProofs [Try.f85, cUm, cUr, h3', h4, h4']
  · have g3 : r.length ≠ h.length := by omega
    rw [decide_eq_true g3, Bool.true_or]
    have h3' : ((r.length : Int) != (h.length : Int)) = true := by simp; omega
    simp -implicitDefEqProofs [Try.f85, cUm, cUr, h3']
theorem sv_even {m : List (List Int)} (hl : m.length < 4611686018427387904) : TV.pu 68 [.one (cUm m)] = some (cB (evenB m)) := by
  refine run68 (by simp) ?_
  have hc : TV.pu 84 [.one (cUm m), .one (.fn 85 [.cptr [cUm m]])] = some (cB (m.any (unevB m))) :=
    contains_urows rfl (fun n hn => sv_unev (by rintro rfl; simp at hn)) (by omega)
  unfold evenB
  simp only [cUm] at hc
  by_cases h : m.length ≤ 32
  · have h' : (m.length : Int) ≤ 32 := by omega
    simp -implicitDefEqProofs [Try.f68, cUm, h, h', hc]
  · have h' : ¬ (m.length : Int) ≤ 32 := by omega
    simp -implicitDefEqProofs [Try.f68, cUm, h, h']
end Go.Proofs.YtmgnmnogiajlgaaF
end

section
/- Rewriting rules for rows of own rows. -/
namespace Go.Proofs.Vm
open Go

variable {P : Program} {H : Hp}

theorem vbuildN_yes {cb : Bool} {nid : Nat} {ρ : Operand → Option AV} {t : TypeId} {len : Nat} {ps : List (Nat × Operand)} : vbuildN P true cb H nid ρ t len ps = if ownPart ρ ps = true then vbuildO P nid ρ t len ps else vbuildT P cb H nid ρ t len ps := by
  unfold vbuildN
  simp
theorem vbuildO_eq {nid : Nat} {ρ : Operand → Option AV} {t e : TypeId} {ps : List (Nat × Operand)} {b : Nat} {z : List CV} (he : elemOfSlice P t = some e) (hel : elOf P e = some (1, b, z)) {c : Cell} (hp : partsOf ρ ps = some [(0, [c])]) :
    vbuildO P nid ρ t 1 ps = some (.one (.sl nid 0 1 1), [.opn [[c]] false], []) := by
  obtain ⟨i, v, h1, h2, h3, h4, h5, h6, h7⟩ := elOf_facts hel
  unfold vbuildO
  simp only [he, hp, h1, h2]
  rw [if_pos ⟨trivial, h3, h6⟩]
theorem vbuildO_m {nid : Nat} {ρ : Operand → Option AV} {t e : TypeId} {ps : List (Nat × Operand)} {b : Nat} {z : List CV} (he : elemOfSlice P t = some e) (hel : elOf P e = some (1, b, z)) :
    vbuildO P nid ρ t 1 ps = match partsOf ρ ps with
      | some [(0, [c])] => some (.one (.sl nid 0 1 1), [.opn [[c]] false], [])
      | _ => none := by
  split
  · rename_i c h
    exact vbuildO_eq he hel h
  · rename_i hn
    obtain ⟨i, v, h1, h2, h3, h4, h5, h6, h7⟩ := elOf_facts hel
    unfold vbuildO
    split
    · rename_i e' c he' hp
      exact absurd hp (hn c)
    · rfl
theorem vappendN_yes {t tx : TypeId} {s x : AV} : vappendN P true H t tx s x = if (elemsO H x).isSome = true then vappendO P H t tx s x else vappend P H t tx s x := by
  unfold vappendN
  simp
theorem vappendO_eq {t tx e ex : TypeId} {id n : Nat} {l xs : List (List Cell)} {x : AV} {sz b : Nat} {z : List CV} (he : elemOfSlice P t = some e) (hex : elemOfSlice P tx = some ex) (hel : elOf P e = some (sz, b, z))
    (hH : opnOf H id = some l) (hx : elemsO H x = some xs) (hn : l.length = n) (hl : ∀ e ∈ l, e.length = sz) (hxs : ∀ e ∈ xs, e.length = sz) (hs : b * (n + xs.length) ≤ 140737488355328) (h62 : n + xs.length ≤ 4611686018427387904) (hx0 : 0 < xs.length) :
    vappendO P H t tx (.one (.sl id 0 n n)) x = some (.one (.sl id 0 (n + xs.length) (n + xs.length)), H.set id (.opn (l ++ xs) false)) := by
  obtain ⟨i, v, h1, h2, h3, h4, h5, h6, h7⟩ := elOf_facts hel
  unfold vappendO
  simp only [he, hex, hx, hH, h1, h2, h3, h4]
  rw [if_pos ⟨trivial, trivial, hn, hl, hxs, h6, by simp [small]; exact hs, h62, hx0⟩]
/-- An open row of own rows: one more. -/
theorem vappendO_own {t e : TypeId} {id n k : Nat} {l : List (List Cell)} {c : Cell} {b : Nat} {z : List CV} (he : elemOfSlice P t = some e) (hel : elOf P e = some (1, b, z))
    (hH : opnOf H id = some l) (hk : H[k]? = some (.opn [[c]] false)) (hn : l.length = n) (hl : ∀ e ∈ l, e.length = 1) (hs : b * (n + 1) ≤ 140737488355328) (h62 : n + 1 ≤ 4611686018427387904) :
    vappendN P true H t t (.one (.sl id 0 n n)) (.one (.sl k 0 1 1)) = some (.one (.sl id 0 (n + 1) (n + 1)), H.set id (.opn (l ++ [[c]]) false)) := by
  have hx : elemsO H (.one (.sl k 0 1 1)) = some [[c]] := by simp [elemsO, hk]
  rw [vappendN_yes, if_pos (by rw [hx]; rfl)]
  exact vappendO_eq he he hel hH hx hn hl (by simp) hs h62 (by simp)
theorem vappendN_clo {t tx : TypeId} {s x : AV} (h : elemsO H x = none) : vappendN P true H t tx s x = vappend P H t tx s x := by rw [vappendN_yes, h]; rfl
attribute [simp] vbuildN_yes ownPart
end Go.Proofs.Vm
end

section
/- Solve: rows in own places. -/
set_option maxRecDepth 8192
set_option maxHeartbeats 2000000
namespace Go.Proofs.YtmgnmnogiajlgaaF
open Go Go.Proofs.Vm Go.Proofs.Vm.Fld

def rowC (x : Nat × List Int) : List Cell := [.sl x.1 0 x.2.length x.2.length]
def topE (L : List (Nat × List Int)) : Ent := if L = [] then .clo [] false else .opn (L.map rowC) false
def rowE (r : List Int) : Ent := .clo (r.map cU) false
/-- Rows that lie in a heap, each in its own place. -/
structure MH (H : Hp) (L : List (Nat × List Int)) : Prop where
  top : H[2]? = some (topE L)
  rows : ∀ k (h : k < L.length), H[L[k].1]? = some (rowE L[k].2)
  nd : (2 :: L.map (·.1)).Nodup
theorem MH.ext {H K : Hp} {L : List (Nat × List Int)} (h : MH H L) (h2 : K[2]? = H[2]?) (hr : ∀ k (h : k < L.length), K[L[k].1]? = H[L[k].1]?) : MH K L :=
  ⟨h2.trans h.top, fun k hk => (hr k hk).trans (h.rows k hk), h.nd⟩
theorem MH.app {H : Hp} {L : List (Nat × List Int)} (h : MH H L) (T : Hp) : MH (H ++ T) L :=
  h.ext (List.getElem?_append_left (List.getElem?_eq_some_iff.1 h.top).1) fun k hk => List.getElem?_append_left (List.getElem?_eq_some_iff.1 (h.rows k hk)).1
theorem MH.other {H : Hp} {L : List (Nat × List Int)} (h : MH H L) {j : Nat} (hj : j ≠ 2) (hl : ∀ k (h : k < L.length), L[k].1 ≠ j) (e : Ent) : MH (H.set j e) L :=
  h.ext (set_get fun e => hj e.symm) fun k hk => set_get (hl k hk)
theorem MH.lt {H : Hp} {L : List (Nat × List Int)} (h : MH H L) {k : Nat} (hk : k < L.length) : L[k].1 < H.length := (List.getElem?_eq_some_iff.1 (h.rows k hk)).1
theorem MH.lt2 {H : Hp} {L : List (Nat × List Int)} (h : MH H L) : 2 < H.length := (List.getElem?_eq_some_iff.1 h.top).1
theorem MH.ne {H : Hp} {L : List (Nat × List Int)} (h : MH H L) {k : Nat} (hk : k < L.length) : L[k].1 ≠ 2 := fun e =>
  (List.nodup_cons.1 h.nd).1 (List.mem_map.2 ⟨L[k], List.getElem_mem hk, e⟩)
theorem MH.inj {H : Hp} {L : List (Nat × List Int)} (h : MH H L) {j k : Nat} (hj : j < L.length) (hk : k < L.length) (e : L[j].1 = L[k].1) : j = k := by
  have := (List.nodup_cons.1 h.nd).2
  exact (List.getElem_inj (h₀ := by simpa using hj) (h₁ := by simpa using hk) this).1 (by simpa using e)
theorem MH.opn {H : Hp} {L : List (Nat × List Int)} (h : MH H L) : opnOf H 2 = some (L.map rowC) := by
  unfold opnOf
  rw [h.top]
  unfold topE
  by_cases e : L = []
  · subst e; rfl
  · rw [if_neg e]
theorem MH.top' {H : Hp} {L : List (Nat × List Int)} (h : MH H L) (h0 : 0 < L.length) : H[2]? = some (.opn (L.map rowC) false) := by
  rw [h.top, topE, if_neg (List.length_pos_iff.1 h0)]
theorem MH.push {H : Hp} {L : List (Nat × List Int)} (h : MH H L) {id : Nat} {r : List Int} (h2 : id ≠ 2) (hn : ∀ k (h : k < L.length), L[k].1 ≠ id) (hr : H[id]? = some (rowE r)) :
    MH (H.set 2 (.opn (L.map rowC ++ [[.sl id 0 r.length r.length]]) false)) (L ++ [(id, r)]) := by
  refine ⟨?_, fun k hk => ?_, ?_⟩
  · rw [set_self h.top, topE, if_neg (by simp), List.map_append]
    rfl
  · rw [List.getElem_append]
    split
    · rename_i hk'
      rw [set_get (h.ne hk')]
      exact h.rows k hk'
    · rename_i hk'
      simp only [List.getElem_singleton]
      rw [set_get h2]
      exact hr
  · rw [List.map_append, ← List.cons_append, List.nodup_append]
    refine ⟨h.nd, by simp, ?_⟩
    intro a ha b hb
    simp only [List.map_cons, List.map_nil, List.mem_singleton] at hb
    subst hb
    rcases List.mem_cons.1 ha with rfl | ha
    · exact fun e => h2 e.symm
    · obtain ⟨x, hx, rfl⟩ := List.mem_map.1 ha
      obtain ⟨k, hk, rfl⟩ := List.getElem_of_mem hx
      exact hn k hk
theorem MH.row {H : Hp} {L : List (Nat × List Int)} (h : MH H L) {k : Nat} (hk : k < L.length) {r : List Int} (hr : r.length = L[k].2.length) : MH (H.set L[k].1 (rowE r)) (L.set k (L[k].1, r)) := by
  have e : (L.set k (L[k].1, r)).map (·.1) = L.map (·.1) := by
    rw [List.map_set]
    apply List.ext_getElem (by simp)
    intro i h1 h2
    rw [List.getElem_set]
    split
    · rename_i e; subst e; simp
    · rfl
  have e2 : (L.set k (L[k].1, r)).map rowC = L.map rowC := by
    rw [List.map_set]
    apply List.ext_getElem (by simp)
    intro i h1 h2
    rw [List.getElem_set]
    split
    · rename_i e; subst e; simp [rowC, hr]
    · rfl
  refine ⟨?_, fun i hi => ?_, by rw [e]; exact h.nd⟩
  · rw [set_get (fun e => h.ne hk e.symm), h.top]
    have : L ≠ [] := by rintro rfl; simp at hk
    rw [topE, topE, if_neg this, if_neg (by intro e; exact this ((List.set_eq_nil_iff _ _).1 e)), e2]
  · have hi' : i < L.length := by simpa using hi
    rw [List.getElem_set]
    by_cases ek : k = i
    · subst ek
      rw [if_pos rfl]
      exact set_self (h.rows k hk)
    · rw [if_neg ek, set_get (fun e => ek (h.inj hk hi' e.symm))]
      exact h.rows i hi'
def swpL (L : List (Nat × List Int)) (i j : Nat) (hi : i < L.length) (hj : j < L.length) : List (Nat × List Int) := (L.set i L[j]).set j L[i]
theorem swpL_get {L : List (Nat × List Int)} {i j : Nat} (hi : i < L.length) (hj : j < L.length) (k : Nat) (hk : k < (swpL L i j hi hj).length) (hk' : k < L.length) : (swpL L i j hi hj)[k] = if j = k then L[i] else if i = k then L[j] else L[k] := by
  simp only [swpL, List.getElem_set]
theorem MH.swp {H : Hp} {L : List (Nat × List Int)} (h : MH H L) {i j : Nat} (hi : i < L.length) (hj : j < L.length) : MH (H.set 2 (.opn ((swpL L i j hi hj).map rowC) false)) (swpL L i j hi hj) := by
  have hlen : (swpL L i j hi hj).length = L.length := by simp [swpL]
  have hget : ∀ k (hk : k < (swpL L i j hi hj).length), ∃ q, ∃ hq : q < L.length, (swpL L i j hi hj)[k] = L[q] := fun k hk => by
    rw [swpL_get hi hj k hk (by rw [← hlen]; exact hk)]
    split
    · exact ⟨i, hi, rfl⟩
    · split
      · exact ⟨j, hj, rfl⟩
      · exact ⟨k, by rw [← hlen]; exact hk, rfl⟩
  have key : ∀ k (hk : k < L.length), ∃ q, ∃ hq : q < L.length, (if j = k then L[i] else if i = k then L[j] else L[k]) = L[q] ∧ q = (if j = k then i else if i = k then j else k) := fun k hk => by
    by_cases c1 : j = k
    · exact ⟨i, hi, by rw [if_pos c1], by rw [if_pos c1]⟩
    · by_cases c2 : i = k
      · exact ⟨j, hj, by rw [if_neg c1, if_pos c2], by rw [if_neg c1, if_pos c2]⟩
      · exact ⟨k, hk, by rw [if_neg c1, if_neg c2], by rw [if_neg c1, if_neg c2]⟩
  refine ⟨?_, fun k hk => ?_, ?_⟩
  · rw [set_self h.top, topE, if_neg (by intro e; rw [e] at hlen; simp at hlen; omega)]
  · obtain ⟨q, hq, e⟩ := hget k hk
    rw [e, set_get (h.ne hq)]
    exact h.rows q hq
  · rw [List.nodup_cons]
    constructor
    · intro hm
      obtain ⟨x, hx, ex⟩ := List.mem_map.1 hm
      obtain ⟨k, hk, rfl⟩ := List.getElem_of_mem hx
      obtain ⟨q, hq, e⟩ := hget k hk
      exact h.ne hq (by rw [← e]; exact ex)
    · rw [List.nodup_iff_pairwise_ne, List.pairwise_iff_getElem]
      intro a b ha hb hab e
      have ha' : a < L.length := by simpa [hlen] using ha
      have hb' : b < L.length := by simpa [hlen] using hb
      simp only [List.getElem_map] at e
      obtain ⟨qa, hqa, ea, fa⟩ := key a ha'
      obtain ⟨qb, hqb, eb, fb⟩ := key b hb'
      rw [swpL_get hi hj a _ ha', swpL_get hi hj b _ hb', ea, eb] at e
      have e := h.inj hqa hqb e
      rw [fa, fb] at e
      clear fa fb
      split at e <;> (try split at e) <;> (try split at e) <;> (try split at e) <;> omega
end Go.Proofs.YtmgnmnogiajlgaaF
end
