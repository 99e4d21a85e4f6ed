/- SignedAlone: a key that shares its cell with no other key, in more than half of the rows, is told as it was added; in any case the answer lies, in some row, within what was added for other keys of its cell there; for every input, without conditions. -/
import Derived.Test.YteaeigpeaneicaaCSignedAlone1
import Derived.Test.YteaeigpeaneicaaRows
import Derived.WalkKit
import Derived.ProofKit
import Derived.OpenShut
import Derived.ShutString
import Derived.ChangeOld
import Derived.Below
import Derived.SizedLaws
section
set_option maxRecDepth 8192
set_option maxHeartbeats 1000000
namespace Go.Proofs.YteaeigpeaneicaaF
open Go Go.Proofs.Vm

structure OkR (rows : List (List Int)) : Prop where
  l7 : rows.length ≤ 7
  odd : rows.length % 2 = 1
  row : ∀ r ∈ rows, 1 ≤ r.length ∧ r.length ≤ 256 ∧ r.length = (rows.headD []).length ∧ ∀ v ∈ r, -1099511627776 ≤ v ∧ v ≤ 1099511627776
theorem fitsB_iff (n : Int) : fitsB n = true ↔ -1099511627776 ≤ n ∧ n ≤ 1099511627776 := by simp [fitsB]
theorem okB_iff (rows : List (List Int)) : okB rows = true ↔ OkR rows := by
  simp only [okB, Bool.and_eq_true, decide_eq_true_eq, Bool.not_eq_true', List.any_eq_false, rowB, Bool.or_eq_true, not_or, List.any_eq_true, not_exists, not_and, ne_eq]
  constructor
  · rintro ⟨⟨a, b⟩, c⟩
    exact ⟨a, b, fun r hr => ⟨by have := (c r hr).1.1.1; omega, by have := (c r hr).1.1.2; omega, by have := (c r hr).1.2; omega, fun v hv => (fitsB_iff v).1 (by have := (c r hr).2 v hv; simpa using this)⟩⟩
  · rintro ⟨a, b, c⟩
    exact ⟨⟨a, b⟩, fun r hr => ⟨⟨⟨by have := (c r hr).1; omega, by have := (c r hr).2.1; omega⟩, by have := (c r hr).2.2.1; omega⟩, fun v hv => by have := (fitsB_iff v).2 ((c r hr).2.2.2 v hv); simpa using this⟩⟩
theorem OkR.ne {rows : List (List Int)} (h : OkR rows) : rows ≠ [] := by rintro rfl; have := h.odd; simp at this

def zH (seed : Int) (key : ByteArray) (n : Int) (rows : List (List Int)) (i : Nat) : List Ent :=
  .clo [] false :: .opn [[.c (.v (.int .u64 seed)), .sl 6 0 rows.length rows.length]] false :: .opn [[.c (.v (.int .u64 seed)), .sl 6 0 rows.length rows.length]] false :: .clo [] false :: .opn (clRows 3 rows rows.length) false :: cl (updTo seed key n i rows)

theorem zH_fz (seed : Int) (key : ByteArray) (n : Int) (rows : List (List Int)) (i : Nat) (X Y : Ent) : fzc 5 (X :: Y :: zH seed key n rows i) (.sl 6 0 rows.length rows.length) = some (cRows (updTo seed key n i rows)) := by
  refine fz_rows (b := 3) (updTo_len ..) (by simp [zH]) (fun j hj hj2 => ⟨?_, updTo_rowlen _ _ _ _ _ _ hj hj2⟩) 3
  show (X :: Y :: _ :: _ :: _ :: _ :: _ :: cl (updTo seed key n i rows))[3 + (5 + 2 * j)]? = _
  rw [show 3 + (5 + 2 * j) = (2 * j + 1) + 7 by omega]
  simp only [List.getElem?_cons_succ]
  rw [cl_get, List.getElem?_eq_getElem hj2]
  rfl

theorem signed_Add_arg {seed : Int} {rows : List (List Int)} {key : ByteArray} {n : Int} (hl : rows.length < 9223372036854775807) (hl2 : ∀ x ∈ rows, x.length < 9223372036854775807) (h : okB rows = false ∨ fitsB n = false) :
    TV.pu 15 [.agg (cSk seed rows), cS key, cI .i64 n] = some (.tup [(true, cSk 0 []), (false, [.v (.int .i64 1)])]) := by
  refine run15 (by simp) ?_
  have hR := signed_Right (seed := seed) hl hl2
  have hf := signed_fits n
  simp only [cSk, cRows] at hR
  by_cases hk : okB rows = true
  · rw [hk] at hR
    have hn : fitsB n = false := by
      rcases h with h | h
      · rw [h] at hk; cases hk
      · exact h
    rw [hn] at hf
    simp [Try.f15, cSk, cRows, hR, hf, vstore, cellsOf?, Ent.wrO, wr, vmove, isNil]
    simp [qa]
  · have hk : okB rows = false := by simpa using hk
    rw [hk] at hR
    simp [Try.f15, cSk, cRows, hR, vstore, cellsOf?, Ent.wrO, wr, vmove, isNil]
    simp [qa]

theorem signed_Add {seed : Int} {rows : List (List Int)} {key : ByteArray} {n : Int} (h0 : 0 ≤ seed) (h1 : seed < 18446744073709551616) (hs : key.size ≤ 140737488351232) (hok : OkR rows) (hn : fitsB n = true) :
    TV.pu 15 [.agg (cSk seed rows), cS key, cI .i64 n] = some (if ∀ j, ∀ h : j < rows.length, fitsB (newV seed key n (j : Int) rows[j]) = true then .tup [(true, cSk seed (addRows seed key n rows)), (false, [.v (.int .i64 0)])] else .tup [(true, cSk 0 []), (false, [.v (.int .i64 5)])]) := by
  refine run15 (by simp) ?_
  have l7 := hok.l7
  have hR := signed_Right (seed := seed) (rows := rows) (by omega) (fun x hx => by have := (hok.row x hx).2.1; omega)
  rw [(okB_iff rows).2 hok] at hR
  have hf := signed_fits n
  rw [hn] at hf
  have hc := signed_clone (seed := seed) (rows := rows) (H := [.opn [[.c (.v (.int .u64 seed)), .c (cRows rows)]] false, .opn [[.c (.v (.int .u64 0)), .sl 2 0 0 0]] false, .clo [] false]) hok.ne (by omega) (fun r hr => ⟨by have := (hok.row r hr).1; rintro rfl; simp at this, by have := (hok.row r hr).2.1; omega⟩)
  simp only [cSk, cRows] at hR hc
  simp [Try.f15, cSk, cRows, hR, hf, hc, vstore, cellsOf?, Ent.wrO, wr, vmove, isNil, clH, clRows_len]
  obtain ⟨I, hI⟩ : ∃ I : Nat → St → Prop, ∀ k s', I k s' ↔ (∃ e h i, s' = ⟨e, h⟩ ∧ h = .opn [[.c (.v (.int .u64 seed)), .sl 6 0 rows.length rows.length]] false :: .opn [[.c (.v (.int .u64 0)), .sl 2 0 0 0]] false :: zH seed key n rows i ∧
      e 1 = vS key ∧ e 2 = vI .i64 n ∧ e 3 = .one (.ptr ⟨0, 0, 0, 1⟩) ∧ e 6 = .one (.ptr ⟨1, 0, 0, 1⟩) ∧ e 24 = .one (.sl 6 0 rows.length rows.length) ∧ e 25 = vI .i64 rows.length ∧ e 26 = vI .i64 (i : Nat) ∧ i + k = rows.length ∧
      ∀ j, j < i → ∀ h : j < rows.length, fitsB (newV seed key n (j : Int) rows[j]) = true) := ⟨_, fun _ _ => Iff.rfl⟩
  refine wpL_ind I ?_ rows.length _ ((hI _ _).2 ⟨_, _, 0, rfl, by simp [zH, updTo_zero], by simp, by simp, by simp, by simp, by simp, by simp, by simp, by omega, by omega⟩)
  intro k st hst
  obtain ⟨e, h, i, rfl, rfl, e1, e2, e3, e6, e24, e25, e26, hk, hall⟩ := (hI _ _).1 hst
  have hz := zH_fz seed key n rows
  have hzl : ∀ i, (zH seed key n rows i) = .clo [] false :: .opn [[.c (.v (.int .u64 seed)), .sl 6 0 rows.length rows.length]] false :: .opn [[.c (.v (.int .u64 seed)), .sl 6 0 rows.length rows.length]] false :: .clo [] false :: .opn (clRows 3 rows rows.length) false :: cl (updTo seed key n i rows) := fun _ => rfl
  by_cases c : i < rows.length
  · have c' : (i : Int) < rows.length := by omega
    have hrw := hok.row rows[i] (List.getElem_mem c)
    have hul : i < (updTo seed key n i rows).length := by rw [updTo_len]; exact c
    have hat : (updTo seed key n i rows)[i] = rows[i] := by
      have := updTo_at seed key n i rows c
      rw [List.getElem?_eq_getElem hul] at this
      exact Option.some.inj this
    have hp := signed_place (seed := seed) (rows := updTo seed key n i rows) (key := key) (i := i) h0 h1 hs hul (by rw [updTo_len]; omega) (by rw [hat]; omega)
    rw [hat] at hp
    have hcell := hcell_range (hrow seed (2 * (i : Int))) key (rows[i].length : Int) (by omega)
    obtain ⟨q, hq⟩ : ∃ q : Nat, scell seed key (i : Int) (rows[i].length : Int) = (q : Int) := ⟨_, (Int.toNat_of_nonneg hcell.1).symm⟩
    have hql : q < rows[i].length := by
      have : (q : Int) < rows[i].length := by rw [← hq]; exact hcell.2
      omega
    have hsg := hsign_or (hrow seed (2 * (i : Int) + 1)) key
    rw [hq] at hp
    have hv := hrw.2.2.2 rows[i][q] (List.getElem_mem hql)
    have hnn := (fitsB_iff n).1 hn
    have hnew : newV seed key n (i : Int) rows[i] = rows[i][q] + ssign seed key (i : Int) * n := by simp [newV, hq, hql]
    have hupd : updRow seed key n (i : Int) rows[i] = rows[i].set q (rows[i][q] + ssign seed key (i : Int) * n) := by rw [updRow, hnew, hq]; simp
    have hsn : -1099511627776 ≤ ssign seed key (i : Int) * n ∧ ssign seed key (i : Int) * n ≤ 1099511627776 := by
      rcases hsg with h | h
      · rw [ssign, h]; omega
      · rw [ssign, h]; omega
    have w1 : IntKind.i64.wrap (ssign seed key (i : Int) * n) = ssign seed key (i : Int) * n := w64_id (by omega) (by omega)
    have w2 : IntKind.i64.wrap (rows[i][q] + ssign seed key (i : Int) * n) = rows[i][q] + ssign seed key (i : Int) * n := w64_id (by omega) (by omega)
    have w3 : IntKind.i64.wrap ((i : Int) + 1) = ((i + 1 : Nat) : Int) := by rw [w64_id (by omega) (by omega)]; omega
    have hg : ∀ X Y : Ent, (X :: Y :: zH seed key n rows i)[3 + (5 + 2 * i)]? = some (.clo (rows[i].map cInt) false) := fun X Y => by
      show (X :: Y :: _ :: _ :: _ :: _ :: _ :: cl (updTo seed key n i rows))[3 + (5 + 2 * i)]? = _
      rw [show 3 + (5 + 2 * i) = (2 * i + 1) + 7 by omega]
      simp only [List.getElem?_cons_succ]
      rw [cl_get, List.getElem?_eq_getElem hul, hat]
      rfl
    have h6 : ∀ X Y : Ent, (X :: Y :: zH seed key n rows i)[6]? = some (.opn (clRows 3 rows rows.length) false) := fun X Y => rfl
    have hra : ∀ h : i < (clRows 3 rows rows.length).length, (clRows 3 rows rows.length)[i]'h = [.sl (3 + (5 + 2 * i)) 0 rows[i].length rows[i].length] := by simp [clRows]
    have hset : ∀ X Y : Ent, (X :: Y :: zH seed key n rows i).set (3 + (5 + 2 * i)) (.clo ((updRow seed key n (i : Int) rows[i]).map cInt) false) = X :: Y :: zH seed key n rows (i + 1) := fun X Y => by
      show (X :: Y :: _ :: _ :: _ :: _ :: _ :: cl (updTo seed key n i rows)).set (3 + (5 + 2 * i)) _ = _
      rw [show 3 + (5 + 2 * i) = (2 * i + 1) + 7 by omega]
      simp only [List.set_cons_succ]
      rw [cl_set, updTo_set _ _ _ _ _ c]
      rfl
    have hwr : Ent.wrC (rows[i].map cInt) q 0 [.v (.int .i64 (rows[i][q] + ssign seed key (i : Int) * n))] = (updRow seed key n (i : Int) rows[i]).map cInt := by
      rw [hupd]
      apply List.ext_getElem
      · simp [Ent.wrC]
      · intro j h1 h2
        simp only [Ent.wrC, List.getElem_modify, List.getElem_map, List.getElem_set]
        by_cases hj : q = j
        · subst hj; simp [wr, cInt]
        · rw [if_neg hj, if_neg hj]
    have hul1 : i < (updTo seed key n (i + 1) rows).length := by rw [updTo_len]; exact c
    have hg1 : ∀ X Y : Ent, (X :: Y :: zH seed key n rows (i + 1))[3 + (5 + 2 * i)]? = some (.clo ((updRow seed key n (i : Int) rows[i]).map cInt) false) := fun X Y => by
      show (X :: Y :: _ :: _ :: _ :: _ :: _ :: cl (updTo seed key n (i + 1) rows))[3 + (5 + 2 * i)]? = _
      rw [show 3 + (5 + 2 * i) = (2 * i + 1) + 7 by omega]
      simp only [List.getElem?_cons_succ]
      rw [cl_get, List.getElem?_eq_getElem hul1]
      simp [updTo]
    have hlu : (updRow seed key n (i : Int) rows[i]).length = rows[i].length := by simp [updRow]
    have hgq : ∀ h : q < (updRow seed key n (i : Int) rows[i]).length, (updRow seed key n (i : Int) rows[i])[q]'h = rows[i][q] + ssign seed key (i : Int) * n := by simp [hupd]
    have hf2 := signed_fits (rows[i][q] + ssign seed key (i : Int) * n)
    simp only [cSk] at hp
    by_cases hfit : fitsB (rows[i][q] + ssign seed key (i : Int) * n) = true
    · rw [hfit] at hf2
      simp [-fzc, fz_v, e1, e2, e3, e6, e24, e25, e26, c, c', vmove, isNil, h6, hra, clRows_len, hz, hp, hql, hg, vstore, cellsOf?, hwr, hset, hg1, hlu, hgq, hasRef, cInt, w1, w2, hf2]
      refine ⟨k - 1, by omega, (hI _ _).2 ⟨_, _, i + 1, rfl, rfl, by simp [e1], by simp [e2], by simp [e3], by simp [e6], by simp [e24], by simp [e25], by simp [w3], by omega, fun j hj h => ?_⟩⟩
      by_cases hji : j = i
      · subst hji
        rw [hnew]; exact hfit
      · exact hall j (by omega) h
    · rw [if_neg fun hx => hfit (by have := hx i c; rw [hnew] at this; exact this)]
      have hfit : fitsB (rows[i][q] + ssign seed key (i : Int) * n) = false := by simpa using hfit
      rw [hfit] at hf2
      simp [-fzc, fz_v, e1, e2, e3, e6, e24, e25, e26, c, c', vmove, isNil, h6, hra, clRows_len, hz, hp, hql, hg, vstore, cellsOf?, hwr, hset, hg1, hlu, hgq, hasRef, cInt, w1, w2, hf2, Ent.wrO, wr]
      simp [fzc, qa]
  · have c' : ¬ (i : Int) < rows.length := by omega
    have hi : i = rows.length := by omega
    subst hi
    rw [if_pos fun j h => hall j h h]
    simp [-fzc, e3, e6, e24, e25, e26, c', vstore, cellsOf?, Ent.wrO, wr, vmove, isNil]
    simp [-fzc, fz_v, qa, hz, addRows]
    rfl
end Go.Proofs.YteaeigpeaneicaaF
end

section
set_option maxRecDepth 8192
set_option maxHeartbeats 1000000
namespace Go.Proofs.YteaeigpeaneicaaF
open Go Go.Proofs.Vm

def newOk (rows cols : Int) : Prop := 1 ≤ rows ∧ rows ≤ 7 ∧ rows % 2 = 1 ∧ 1 ≤ cols ∧ cols ≤ 256
def zRow (cols : Nat) : List (List CV) := List.replicate cols (cInt 0)
theorem signed_New {seed rows cols : Int} (h : newOk rows cols) : TV.pu 9 [cI .u64 seed, cI .i64 rows, cI .i64 cols] = some (.tup [(true, cSk seed (List.replicate rows.toNat (List.replicate cols.toNat 0))), (false, [.v (.int .i64 0)])]) := by
  refine run9 (by simp) ?_
  obtain ⟨a1, a2, a3, a4, a5⟩ := h
  obtain ⟨n, rfl⟩ := Int.eq_ofNat_of_zero_le (show 0 ≤ rows by omega)
  obtain ⟨m, rfl⟩ := Int.eq_ofNat_of_zero_le (show 0 ≤ cols by omega)
  have g1 : ¬ (n : Int) < 1 := by omega
  have g2 : ¬ 7 < (n : Int) := by omega
  have g3 : ((n : Int).tmod 2 == 0) = false := by rw [Int.tmod_eq_emod_of_nonneg (by omega), a3]; rfl
  have g4 : ¬ (m : Int) < 1 := by omega
  have g5 : ¬ 256 < (m : Int) := by omega
  simp [Try.f9, g1, g2, g3, g4, g5, bin_rem, vstore, cellsOf?, Ent.wrO, wr, vmove, isNil]
  obtain ⟨I, hI⟩ : ∃ I : Nat → St → Prop, ∀ k s', I k s' ↔ (∃ e h i L, s' = ⟨e, h⟩ ∧ h = .opn [[.c (.v (.int .u64 0)), .sl 1 0 0 0]] false :: .clo [] false :: .clo (List.replicate i [.arr (zRow m)]) false :: .opn [[.c (.v (.int .u64 seed)), .sl 2 0 i i]] false :: L ∧
      e 0 = vI .u64 seed ∧ e 2 = vI .i64 (m : Nat) ∧ e 6 = .one (.ptr ⟨0, 0, 0, 1⟩) ∧ e 8 = .one (.ptr ⟨3, 0, 0, 1⟩) ∧ e 31 = vI .i64 (n : Nat) ∧ e 32 = vI .i64 (i : Nat) ∧ i + k = n) := ⟨_, fun _ _ => Iff.rfl⟩
  refine wpL_ind I ?_ n _ ((hI _ _).2 ⟨_, _, 0, _, rfl, rfl, by simp, by simp, by simp, by simp, by simp, by simp, by omega⟩)
  intro k st hst
  obtain ⟨e, h, i, L, rfl, rfl, e0, e2, e6, e8, e31, e32, hk⟩ := (hI _ _).1 hst
  by_cases c : i < n
  · have c' : (i : Int) < n := by omega
    have w3 : IntKind.i64.wrap ((i : Int) + 1) = ((i + 1 : Nat) : Int) := by rw [w64_id (by omega) (by omega)]; omega
    have ha : ∀ (A B C D : Ent), vappend Try.prog (A :: B :: .clo (List.replicate i [.arr (zRow m)]) false :: D :: (L ++ [C, .clo [[.arr (zRow m)]] false])) 23 23 (.one (.sl 2 0 i i)) (.one (.sl (L.length + 1 + 1 + 1 + 1 + 1) 0 1 1)) =
        some (.one (.sl 2 0 (i + 1) (i + 1)), A :: B :: .clo (List.replicate (i + 1) [.arr (zRow m)]) false :: D :: (L ++ [C, .clo [[.arr (zRow m)]] false])) := by
      intro A B C D
      have := vappend_eq (P := Try.prog) (H := A :: B :: .clo (List.replicate i [.arr (zRow m)]) false :: D :: (L ++ [C, .clo [[.arr (zRow m)]] false])) (t := 23) (tx := 23) (id := 2) (n := i) (l := List.replicate i [.arr (zRow m)]) (xs := [[.arr (zRow m)]]) (x := .one (.sl (L.length + 1 + 1 + 1 + 1 + 1) 0 1 1)) es23 es23 el33
        (by simp) (by simp [elemsOf]) (by simp) (by intro x hx; rw [List.eq_of_mem_replicate hx]; rfl) (by simp) (by simp; omega) (by simp; omega)
      simp only [List.length_cons, List.length_nil, ← List.replicate_succ'] at this
      exact this
    have hz : List.replicate m [CV.v (.int .i64 0)] = zRow m := rfl
    have hzl : (zRow m).length = m := by simp [zRow]
    have hzt : List.take m (zRow m) = zRow m := List.take_of_length_le (by omega)
    have b1 : 8 * m ≤ 70368744177664 := by omega
    have b2 : (m : Int) ≤ 4611686018427387904 := by omega
    simp [e2, e6, e8, e31, e32, c', w3, b1, b2, hzl, hzt, vstore, Ent.wrO, wr, vmakeSlice_eq es33 el3, vbuildSlice_eq es23 el33, small, vmove, isNil, cellsOf?, fzParts, setAll, rchParts, rch, frzAll, Ent.frz, hz, ha]
    exact ⟨k - 1, by omega, (hI _ _).2 ⟨_, _, i + 1, _, rfl, rfl, by simp [e0], by simp [e2], by simp [e6], by simp [e8], by simp [e31], by simp, by omega⟩⟩
  · have c' : ¬ (i : Int) < n := by omega
    have hi : i = n := by omega
    subst hi
    simp [e2, e6, e8, e31, e32, c', vstore, cellsOf?, Ent.wrO, wr, vmove, isNil]
    simp [qa, cSk, cRows, cRow, zRow]

theorem signed_New_arg {seed rows cols : Int} (h : ¬ newOk rows cols) : TV.pu 9 [cI .u64 seed, cI .i64 rows, cI .i64 cols] = some (.tup [(true, cSk 0 []), (false, [.v (.int .i64 1)])]) := by
  refine run9 (by simp) ?_
  by_cases g1 : rows < 1
  · simp [Try.f9, g1, vstore, cellsOf?, Ent.wrO, wr, vmove, isNil]
    simp [qa, cSk, cRows]
  by_cases g2 : 7 < rows
  · simp [Try.f9, g1, g2, vstore, cellsOf?, Ent.wrO, wr, vmove, isNil]
    simp [qa, cSk, cRows]
  by_cases g3 : (rows.tmod 2 == 0) = true
  · simp [Try.f9, g1, g2, g3, bin_rem, vstore, cellsOf?, Ent.wrO, wr, vmove, isNil]
    simp [qa, cSk, cRows]
  have g3 : (rows.tmod 2 == 0) = false := by simpa using g3
  by_cases g4 : cols < 1
  · simp [Try.f9, g1, g2, g3, g4, bin_rem, vstore, cellsOf?, Ent.wrO, wr, vmove, isNil]
    simp [qa, cSk, cRows]
  by_cases g5 : 256 < cols
  · simp [Try.f9, g1, g2, g3, g4, g5, bin_rem, vstore, cellsOf?, Ent.wrO, wr, vmove, isNil]
    simp [qa, cSk, cRows]
  · refine absurd ⟨by omega, by omega, ?_, by omega, by omega⟩ h
    rw [Int.tmod_eq_emod_of_nonneg (by omega)] at g3
    have : rows % 2 ≠ 0 := by simpa using g3
    omega
end Go.Proofs.YteaeigpeaneicaaF
end

section
set_option maxRecDepth 8192
set_option maxHeartbeats 1000000
namespace Go.Proofs.YteaeigpeaneicaaF
open Go Go.Proofs.Vm

def getL (seed : Int) (key : ByteArray) (rows : List (List Int)) : List Int := rows.mapIdx fun i r => ssign seed key (i : Int) * r.getD (scell seed key (i : Int) r.length).toNat 0
def srt (l : List Int) : List Int := l.mergeSort fun x y => decide (x ≤ y)
def med (l : List Int) : Int := (srt l).getD (l.length / 2) 0

theorem sort_run {H : Hp} {id : Nat} {l : List Int} (h : H[id]? = some (.clo (l.map cInt) false)) (hlt : l.length < 4611686018427387904) : TV.S 31 [.one (.sl id 0 l.length l.length)] H = some (und, H.set id (.clo ((srt l).map cInt) false)) := by
  refine TT_baseS ?_
  show (if (31 : FuncId) = 31 then sortRun [.one (.sl id 0 l.length l.length)] H else none) = _
  rw [if_pos rfl]
  simp only [sortRun, h, mapO_intOf, List.length_map]
  simp [srt, hlt]

theorem getL_len (seed : Int) (key : ByteArray) (rows : List (List Int)) : (getL seed key rows).length = rows.length := by simp [getL]

theorem signed_Get {seed : Int} {rows : List (List Int)} {key : ByteArray} (h0 : 0 ≤ seed) (h1 : seed < 18446744073709551616) (hs : key.size ≤ 140737488351232) (hok : OkR rows) :
    TV.pu 16 [.agg (cSk seed rows), cS key] = some (cI .i64 (med (getL seed key rows))) := by
  refine run16 (by simp) ?_
  have l7 := hok.l7
  have hR := signed_Right (seed := seed) (rows := rows) (by omega) (fun x hx => by have := (hok.row x hx).2.1; omega)
  rw [(okB_iff rows).2 hok] at hR
  simp only [cSk, cRows] at hR
  simp [Try.f16, cSk, cRows, hR, vmove, isNil]
  obtain ⟨I, hI⟩ : ∃ I : Nat → St → Prop, ∀ k s', I k s' ↔ (∃ e h i L, s' = ⟨e, h⟩ ∧ h = .opn [[.c (.v (.int .u64 seed)), .c (cRows rows)]] false :: .clo (((getL seed key rows).take i).map cInt) false :: L ∧
      e 1 = vS key ∧ e 2 = .one (.ptr ⟨0, 0, 0, 1⟩) ∧ e 5 = .one (.sl 1 0 i i) ∧ e 14 = .one (.c (cRows rows)) ∧ e 15 = vI .i64 rows.length ∧ e 16 = vI .i64 (i : Nat) ∧ i + k = rows.length) := ⟨_, fun _ _ => Iff.rfl⟩
  refine wpL_ind I ?_ rows.length _ ((hI _ _).2 ⟨_, _, 0, _, rfl, rfl, by simp, by simp, by simp, by simp [cRows], by simp, by simp, by omega⟩)
  intro k st hst
  obtain ⟨e, h, i, L, rfl, rfl, e1, e2, e5, e14, e15, e16, hk⟩ := (hI _ _).1 hst
  by_cases c : i < rows.length
  · have c' : (i : Int) < rows.length := by omega
    have hrw := hok.row rows[i] (List.getElem_mem c)
    have hp := signed_place (seed := seed) (rows := rows) (key := key) (i := i) h0 h1 hs c (by omega) (by omega)
    have hcell := hcell_range (hrow seed (2 * (i : Int))) key (rows[i].length : Int) (by omega)
    obtain ⟨q, hq⟩ : ∃ q : Nat, scell seed key (i : Int) (rows[i].length : Int) = (q : Int) := ⟨_, (Int.toNat_of_nonneg hcell.1).symm⟩
    have hql : q < rows[i].length := by
      have : (q : Int) < rows[i].length := by rw [← hq]; exact hcell.2
      omega
    have hsg := hsign_or (hrow seed (2 * (i : Int) + 1)) key
    rw [hq] at hp
    have hv := hrw.2.2.2 rows[i][q] (List.getElem_mem hql)
    have hsn : -1099511627776 ≤ ssign seed key (i : Int) * rows[i][q] ∧ ssign seed key (i : Int) * rows[i][q] ≤ 1099511627776 := by
      rcases hsg with h | h
      · rw [ssign, h]; omega
      · rw [ssign, h]; omega
    have w1 : IntKind.i64.wrap (ssign seed key (i : Int) * rows[i][q]) = ssign seed key (i : Int) * rows[i][q] := w64_id (by omega) (by omega)
    have w3 : IntKind.i64.wrap ((i : Int) + 1) = ((i + 1 : Nat) : Int) := by rw [w64_id (by omega) (by omega)]; omega
    have hgl : (getL seed key rows).take (i + 1) = (getL seed key rows).take i ++ [ssign seed key (i : Int) * rows[i][q]] := by
      rw [List.take_add_one]
      simp [getL, c, hq, hql]
    have ha : vappend Try.prog (.opn [[.c (.v (.int .u64 seed)), .c (cRows rows)]] false :: .clo (((getL seed key rows).take i).map cInt) false :: (L ++ [.clo [cInt (ssign seed key (i : Int) * rows[i][q])] false])) 33 33 (.one (.sl 1 0 i i)) (.one (.sl (L.length + 1 + 1) 0 1 1)) =
        some (.one (.sl 1 0 (i + 1) (i + 1)), .opn [[.c (.v (.int .u64 seed)), .c (cRows rows)]] false :: .clo (((getL seed key rows).take (i + 1)).map cInt) false :: (L ++ [.clo [cInt (ssign seed key (i : Int) * rows[i][q])] false])) := by
      have := vappend_eq (P := Try.prog) (H := .opn [[.c (.v (.int .u64 seed)), .c (cRows rows)]] false :: .clo (((getL seed key rows).take i).map cInt) false :: (L ++ [.clo [cInt (ssign seed key (i : Int) * rows[i][q])] false])) (t := 33) (tx := 33) (id := 1) (n := i) (l := ((getL seed key rows).take i).map cInt) (xs := [cInt (ssign seed key (i : Int) * rows[i][q])]) (x := .one (.sl (L.length + 1 + 1) 0 1 1)) es33 es33 el3
        (by simp) (by simp [elemsOf]) (by simp [getL_len]; omega) (by intro x hx; obtain ⟨y, _, rfl⟩ := List.mem_map.1 hx; rfl) (by simp) (by simp; omega) (by simp; omega)
      rw [this, hgl]
      simp
    simp only [cSk, cRows, cRow] at hp
    simp only [cRows, cRow, cInt, List.map_take] at ha
    simp [e1, e2, e5, e14, e15, e16, c, c', cRows, cRow, w1, w3, hp, hql, cInt, vmove, isNil, vbuildSlice_eq es33 el3, cellsOf?, fzParts, setAll, rchParts, rch, ha]
    exact ⟨k - 1, by omega, (hI _ _).2 ⟨_, _, i + 1, _, rfl, by simp [cRows, cRow, List.map_take]; rfl, by simp [e1], by simp [e2], by simp, by simp [e14, cRows, cRow], by simp [e15], by simp, by omega⟩⟩
  · have c' : ¬ (i : Int) < rows.length := by omega
    have hi : i = rows.length := by omega
    subst hi
    have ht : (getL seed key rows).take rows.length = getL seed key rows := List.take_of_length_le (by rw [getL_len]; omega)
    have hso := sort_run (H := .opn [[.c (.v (.int .u64 seed)), .c (cRows rows)]] false :: .clo ((getL seed key rows).map cInt) false :: L) (id := 1) (l := getL seed key rows) (by simp) (by rw [getL_len]; omega)
    rw [getL_len] at hso
    simp only [cRows] at hso
    obtain ⟨p, hpe⟩ : ∃ p, p = rows.length / 2 := ⟨_, rfl⟩
    have wq : IntKind.i64.wrap ((rows.length : Int) / 2) = (p : Int) := by rw [w64_id (by omega) (by omega)]; omega
    have hsl : (srt (getL seed key rows)).length = rows.length := by simp [srt, getL_len]
    have hlt : p < rows.length := by have := hok.odd; omega
    simp [e5, e14, e15, e16, c, c', cRows, cInt, ht, hso, wq, hsl, hlt, bin_quo, vmove, isNil]
    simp [med, getL_len, ← hpe, hsl, hlt]
end Go.Proofs.YteaeigpeaneicaaF
end

section
set_option maxRecDepth 8192
set_option maxHeartbeats 1000000
namespace Go.Proofs.YteaeigpeaneicaaF
open Go Go.Proofs.Vm

theorem ref12_Fits (n : Int) : TV.pu 21 [cI .i64 n] = some (cB (fitsB n)) := by
  refine run21 (by simp) ?_
  by_cases h : -1099511627776 ≤ n <;> simp [Try.f21, h, fitsB]

theorem ref11_SameRows {a b : List (List Int)} (ha : a.length < 9223372036854775807) (hr : ∀ x ∈ a, x.length < 9223372036854775807) : TV.pu 27 [.one (cRows a), .one (cRows b)] = some (cB (decide (a = b))) := by
  refine run27 (by simp) ?_
  by_cases hl : a.length = b.length
  · have hl' : ((a.length : Int) != (b.length : Int)) = false := by simp [hl]
    simp [Try.f27, cRows, hl']
    obtain ⟨I, hI⟩ : ∃ I : Nat → St → Prop, ∀ k s', I k s' ↔ (∃ e i, s' = ⟨e, []⟩ ∧ e 0 = .one (.c (cRows a)) ∧ e 1 = .one (.c (cRows b)) ∧ e 5 = vI .i64 (i : Nat) ∧ i + k = a.length ∧ ∀ j, j < i → a[j]? = b[j]?) := ⟨_, fun _ _ => Iff.rfl⟩
    refine wpL_ind I ?_ a.length _ ((hI _ _).2 ⟨_, 0, rfl, by simp [cRows], by simp [cRows], by simp, by omega, by omega⟩)
    intro k st hst
    obtain ⟨e, i, rfl, e0, e1, e5, hk, hall⟩ := (hI _ _).1 hst
    by_cases c : i < a.length
    · have c' : (i : Int) < a.length := by omega
      have cb : i < b.length := by omega
      have hai := hr a[i] (List.getElem_mem c)
      have w3 : IntKind.i64.wrap ((i : Int) + 1) = ((i + 1 : Nat) : Int) := by rw [w64_id (by omega) (by omega)]; omega
      by_cases hlr : a[i].length = b[i].length
      · have hlr' : ((a[i].length : Int) != (b[i].length : Int)) = false := by simp [hlr]
        simp [e0, e1, e5, c, c', cb, cRows, cRow, hlr']
        obtain ⟨J, hJ⟩ : ∃ J : Nat → St → Prop, ∀ k s', J k s' ↔ (∃ e q, s' = ⟨e, []⟩ ∧ e 0 = .one (.c (cRows a)) ∧ e 1 = .one (.c (cRows b)) ∧ e 5 = vI .i64 (i : Nat) ∧ e 6 = vI .i64 (q : Nat) ∧ q + k = a[i].length ∧ ∀ j, j < q → a[i][j]? = b[i][j]?) := ⟨_, fun _ _ => Iff.rfl⟩
        refine wpL_ind J ?_ a[i].length _ ((hJ _ _).2 ⟨_, 0, rfl, by simp [e0, cRows], by simp [e1, cRows], by simp [e5], by simp, by omega, by omega⟩)
        intro k2 st hst
        obtain ⟨e, q, rfl, f0, f1, f5, f6, hk2, hall2⟩ := (hJ _ _).1 hst
        by_cases d : q < a[i].length
        · have d' : (q : Int) < a[i].length := by omega
          have db : q < b[i].length := by omega
          have w4 : IntKind.i64.wrap ((q : Int) + 1) = ((q + 1 : Nat) : Int) := by rw [w64_id (by omega) (by omega)]; omega
          by_cases hv : a[i][q] = b[i][q]
          · have hv' : (a[i][q] != b[i][q]) = false := by simp [hv]
            simp [f0, f1, f5, f6, c, cb, d, d', db, cRows, cRow, cInt, hv', w4]
            refine ⟨k2 - 1, by omega, (hJ _ _).2 ⟨_, q + 1, rfl, by simp [f0, cRows], by simp [f1, cRows], by simp [f5], by simp, by omega, fun j hj => ?_⟩⟩
            by_cases hjq : j = q
            · subst hjq
              rw [List.getElem?_eq_getElem d, List.getElem?_eq_getElem db, hv]
            · exact hall2 j (by omega)
          · have hv' : (a[i][q] != b[i][q]) = true := by simp [hv]
            have hne : ¬ a = b := by rintro rfl; exact hv rfl
            simp [f0, f1, f5, f6, c, cb, d, d', db, cRows, cRow, cInt, hv', hne]
        · have d' : ¬ (q : Int) < a[i].length := by omega
          have heq : a[i] = b[i] := by
            apply List.ext_getElem?
            intro j
            by_cases hj : j < q
            · exact hall2 j hj
            · rw [List.getElem?_eq_none (by omega), List.getElem?_eq_none (by omega)]
          simp [f0, f5, f6, c, d', cRows, cRow, w3]
          refine ⟨k - 1, by omega, (hI _ _).2 ⟨_, i + 1, rfl, by simp [f0, cRows], by simp [f1, cRows], by simp, by omega, fun j hj => ?_⟩⟩
          by_cases hji : j = i
          · subst hji
            rw [List.getElem?_eq_getElem c, List.getElem?_eq_getElem cb, heq]
          · exact hall j (by omega)
      · have hlr' : ((a[i].length : Int) != (b[i].length : Int)) = true := by simp; omega
        have hne : ¬ a = b := by rintro rfl; exact hlr rfl
        simp [e0, e1, e5, c, c', cb, cRows, cRow, hlr', hne]
    · have c' : ¬ (i : Int) < a.length := by omega
      have heq : a = b := by
        apply List.ext_getElem?
        intro j
        by_cases hj : j < i
        · exact hall j hj
        · rw [List.getElem?_eq_none (by omega), List.getElem?_eq_none (by omega)]
      subst heq
      simp [e0, e5, c', cRows]
  · have hl' : ((a.length : Int) != (b.length : Int)) = true := by simp; omega
    have hne : ¬ a = b := by rintro rfl; exact hl rfl
    simp [Try.f27, cRows, hl', hne]

theorem ref12_Equal {s t : Int} {a b : List (List Int)} (ha : a.length < 9223372036854775807) (hr : ∀ x ∈ a, x.length < 9223372036854775807) : TV.pu 10 [.agg (cSk s a), .agg (cSk t b)] = some (cB (decide (s = t ∧ a = b))) := by
  refine run10 (by simp) ?_
  have h := ref11_SameRows (b := b) ha hr
  simp only [cRows] at h
  by_cases hs : s = t
  · have hs' : (s == t) = true := by simp [hs]
    simp [Try.f10, cSk, cRows, hs', h]
    exact fun _ => hs
  · have hs' : (s == t) = false := by simp [hs]
    simp [Try.f10, cSk, cRows, hs', hs]

/-- What the document takes for right is what the program takes for right. -/
theorem ref12_Right {seed : Int} {rows : List (List Int)} (hl : rows.length < 9223372036854775807) (hl2 : ∀ x ∈ rows, x.length < 9223372036854775807) : TV.pu 13 [.agg (cSk seed rows)] = some (cB (okB rows)) := by
  refine run13 (by simp) ?_
  by_cases hn : rows.length = 1 ∨ rows.length = 3 ∨ rows.length = 5 ∨ rows.length = 7
  · have h7 : rows.length ≤ 7 := by omega
    have hodd : rows.length % 2 = 1 := by omega
    have key : okB rows = !rows.any (rowB rows) := by simp [okB, h7, hodd]
    rw [key]
    have h0 : 0 < rows.length := by omega
    have hhd : rows.headD [] = rows[0] := by cases rows with | nil => simp at h0 | cons h t => rfl
    have bad : ∀ i, ∀ h : i < rows.length, rowB rows rows[i] = true → (!rows.any (rowB rows)) = false := fun i h hb => by
      rw [List.any_eq_true.2 ⟨_, List.getElem_mem h, hb⟩]; rfl
    have good : (∀ i, ∀ h : i < rows.length, rowB rows rows[i] = false) → (!rows.any (rowB rows)) = true := fun hg => by
      have : rows.any (rowB rows) = false := by
        rw [List.any_eq_false]
        intro x hx
        obtain ⟨i, hi, rfl⟩ := List.getElem_of_mem hx
        rw [hg i hi]; simp
      rw [this]; rfl
    obtain ⟨R, hR⟩ : ∃ R, R = (!rows.any (rowB rows)) := ⟨_, rfl⟩
    rw [← hR] at bad good ⊢
    obtain ⟨N, hN⟩ : ∃ N, N = rows.length := ⟨_, rfl⟩
    rw [← hN] at hn
    obtain ⟨I, hI⟩ : ∃ I : Nat → St → Prop, ∀ k s', I k s' ↔ (∃ e i, s' = ⟨e, [.opn [[.c (.v (.int .u64 seed)), .c (cRows rows)]] false]⟩ ∧ e 1 = .one (.ptr ⟨0, 0, 0, 1⟩) ∧ e 3 = vI .i64 (N : Nat) ∧ e 4 = vI .i64 (i : Nat) ∧ i + k = N ∧ ∀ j, j < i → ∀ h : j < rows.length, rowB rows rows[j] = false) := ⟨_, fun _ _ => Iff.rfl⟩
    have hNi : (rows.length : Int) = (N : Int) := by omega
    rcases hn with hn | hn | hn | hn
    all_goals
      simp [Try.f13, cSk, cRows, hNi, hn]
      refine wpL_ind I ?_ N _ ((hI _ _).2 ⟨_, 0, rfl, by simp, by simp [hn], by simp, by omega, by omega⟩)
      intro k st hst
      obtain ⟨e, i, rfl, e1, e3, e4, hk, hall⟩ := (hI _ _).1 hst
      by_cases c : i < rows.length
      · have c' : (i : Int) < (N : Int) := by omega
        have hai := hl2 rows[i] (List.getElem_mem c)
        have hB : rowB rows rows[i] = (decide (rows[i].length < 1) || decide (256 < rows[i].length) || decide (rows[i].length ≠ rows[0].length) || rows[i].any (fun n => !fitsB n)) := by unfold rowB; rw [hhd]
        have w3 : IntKind.i64.wrap ((i : Int) + 1) = ((i + 1 : Nat) : Int) := by rw [w64_id (by omega) (by omega)]; omega
        by_cases z1 : ((rows[i].length : Int) == 0) = true
        · have hb : R = false := bad i c (by rw [hB, decide_eq_true (show rows[i].length < 1 by simp at z1; simp [z1])]; simp)
          simp [e1, e3, e4, c, c', cRows, cRow, z1, hb]
        have z1' : ((rows[i].length : Int) == 0) = false := by simpa using z1
        by_cases z2 : 256 < (rows[i].length : Int)
        · have hb : R = false := bad i c (by rw [hB, decide_eq_true (show 256 < rows[i].length by omega)]; simp)
          simp [e1, e3, e4, c, c', cRows, cRow, z1', z2, hb]
        by_cases z3 : ((rows[i].length : Int) != (rows[0].length : Int)) = true
        · have hb : R = false := bad i c (by rw [hB, decide_eq_true (show rows[i].length ≠ rows[0].length by simp at z3; omega)]; simp)
          simp [e1, e3, e4, c, c', h0, cRows, cRow, z1', z2, z3, hb]
        have z3' : ((rows[i].length : Int) != (rows[0].length : Int)) = false := by simpa using z3
        simp [e1, e3, e4, c, c', h0, cRows, cRow, z1', z2, z3']
        obtain ⟨J, hJ⟩ : ∃ J : Nat → St → Prop, ∀ k s', J k s' ↔ (∃ e q, s' = ⟨e, [.opn [[.c (.v (.int .u64 seed)), .c (cRows rows)]] false]⟩ ∧ e 1 = .one (.ptr ⟨0, 0, 0, 1⟩) ∧ e 3 = vI .i64 (N : Nat) ∧ e 4 = vI .i64 (i : Nat) ∧ e 5 = vI .i64 rows[i].length ∧ e 6 = vI .i64 (q : Nat) ∧ q + k = rows[i].length ∧ ∀ j, j < q → ∀ h : j < rows[i].length, fitsB rows[i][j] = true) := ⟨_, fun _ _ => Iff.rfl⟩
        refine wpL_ind J ?_ rows[i].length _ ((hJ _ _).2 ⟨_, 0, by simp only [cRows, cRow]; rfl, by simp [e1], by simp [e3], by simp [e4], by simp, by simp, by omega, by omega⟩)
        intro k2 st hst
        obtain ⟨e, q, rfl, f1, f3, f4, f5, f6, hk2, hall2⟩ := (hJ _ _).1 hst
        by_cases d : q < rows[i].length
        · have d' : (q : Int) < rows[i].length := by omega
          have w4 : IntKind.i64.wrap ((q : Int) + 1) = ((q + 1 : Nat) : Int) := by rw [w64_id (by omega) (by omega)]; omega
          have hf := ref12_Fits rows[i][q]
          by_cases hv : fitsB rows[i][q] = true
          · rw [hv] at hf
            simp [f1, f4, f5, f6, c, d, d', cRows, cRow, cInt, hf, w4]
            refine ⟨k2 - 1, by omega, (hJ _ _).2 ⟨_, q + 1, by simp only [cRows, cRow]; rfl, by simp [f1], by simp [f3], by simp [f4], by simp [f5], by simp, by omega, fun j hj h => ?_⟩⟩
            by_cases hjq : j = q
            · subst hjq; exact hv
            · exact hall2 j (by omega) h
          · have hv : fitsB rows[i][q] = false := by simpa using hv
            have hb : R = false := bad i c (by
              rw [hB]
              have : rows[i].any (fun n => !fitsB n) = true := List.any_eq_true.2 ⟨rows[i][q], List.getElem_mem d, by simp [hv]⟩
              rw [this]; simp)
            rw [hv] at hf
            simp [f1, f4, f5, f6, c, d, d', cRows, cRow, cInt, hf, hb]
        · have d' : ¬ (q : Int) < rows[i].length := by omega
          have hrowB : rowB rows rows[i] = false := by
            rw [hB]
            have t1 : ¬ rows[i].length < 1 := by simp at z1'; intro h; exact z1' (by cases hx : rows[i] with | nil => rfl | cons a l => rw [hx] at h; simp at h)
            have t2 : ¬ 256 < rows[i].length := by omega
            have t3 : ¬ rows[i].length ≠ rows[0].length := by simp at z3'; omega
            have t4 : rows[i].any (fun n => !fitsB n) = false := by
              rw [List.any_eq_false]
              intro x hx
              obtain ⟨j, hj, rfl⟩ := List.getElem_of_mem hx
              rw [hall2 j (by omega) hj]; simp
            rw [t4, decide_eq_false t1, decide_eq_false t2, decide_eq_false t3]; rfl
          simp [f1, f4, f5, f6, d', w3]
          refine ⟨k - 1, by omega, (hI _ _).2 ⟨_, i + 1, by rfl, by simp [f1], by simp [f3], by simp, by omega, fun j hj h => ?_⟩⟩
          by_cases hji : j = i
          · subst hji; exact hrowB
          · exact hall j (by omega) h
      · have c' : ¬ (i : Int) < (N : Int) := by omega
        have hg : R = true := good fun j h => hall j (by omega) h
        simp [e1, e3, e4, c', hg]
  · have g1 : ((rows.length : Int) != 1) = true := by simp; omega
    have g2 : ((rows.length : Int) != 3) = true := by simp; omega
    have g3 : ((rows.length : Int) != 5) = true := by simp; omega
    have g4 : ((rows.length : Int) != 7) = true := by simp; omega
    have hb : okB rows = false := by
      by_cases h7 : rows.length ≤ 7
      · have : ¬ rows.length % 2 = 1 := by omega
        simp [okB, this]
      · simp [okB, h7]
    simp [Try.f13, cSk, cRows, g1, g2, g3, g4, hb]
end Go.Proofs.YteaeigpeaneicaaF
end

section
set_option maxRecDepth 8192
set_option maxHeartbeats 1000000
namespace Go.Proofs.YteaeigpeaneicaaF
open Go Go.Proofs.Vm

theorem law_ref {seed : Int} {rows : List (List Int)} : TV.pu 11 [.agg (cSk seed rows)] = some (.agg (cSk seed rows)) := by
  refine run11 (by simp) ?_
  simp [Try.f11, cSk, cRows, vstore, cellsOf?, Ent.wrO, wr]
  simp [qa]

/-- Rows of numbers within a bound. -/
def Within (B : Int) (rows : List (List Int)) : Prop := ∀ r ∈ rows, ∀ v ∈ r, -B ≤ v ∧ v ≤ B
theorem ssign_or (seed : Int) (key : ByteArray) (i : Int) : ssign seed key i = 1 ∨ ssign seed key i = -1 := hsign_or _ _
theorem newV_within {B N : Int} {rows : List (List Int)} (hw : Within B rows) (hok : OkR rows) {seed : Int} {key : ByteArray} {n : Int} (hn : -N ≤ n ∧ n ≤ N) (i : Nat) (h : i < rows.length) :
    -(B + N) ≤ newV seed key n (i : Int) rows[i] ∧ newV seed key n (i : Int) rows[i] ≤ B + N := by
  have hcell := hcell_range (hrow seed (2 * (i : Int))) key (rows[i].length : Int) (by have := (hok.row _ (List.getElem_mem h)).1; omega)
  have hql : (scell seed key (i : Int) rows[i].length).toNat < rows[i].length := by
    have h1 : scell seed key (i : Int) rows[i].length < rows[i].length := hcell.2
    have h2 : 0 ≤ scell seed key (i : Int) rows[i].length := hcell.1
    omega
  have hv := hw _ (List.getElem_mem h) _ (List.getElem_mem hql)
  unfold newV
  rw [List.getD_eq_getElem?_getD, List.getElem?_eq_getElem hql]
  simp only [Option.getD_some]
  rcases ssign_or seed key (i : Int) with h | h <;> rw [h] <;> omega

theorem addRows_at {seed : Int} {key : ByteArray} {n : Int} {rows : List (List Int)} (i : Nat) (h : i < rows.length) (h2 : i < (addRows seed key n rows).length) : (addRows seed key n rows)[i] = updRow seed key n (i : Int) rows[i] := by
  simp [addRows, updTo, h]
theorem addRows_len {seed : Int} {key : ByteArray} {n : Int} {rows : List (List Int)} : (addRows seed key n rows).length = rows.length := updTo_len ..
theorem addRows_within {B N : Int} {rows : List (List Int)} (hw : Within B rows) (hok : OkR rows) {seed : Int} {key : ByteArray} {n : Int} (hn : -N ≤ n ∧ n ≤ N) : Within (B + N) (addRows seed key n rows) := by
  intro r hr v hv
  obtain ⟨i, hi, rfl⟩ := List.getElem_of_mem hr
  have hi' : i < rows.length := by rw [addRows_len] at hi; exact hi
  rw [addRows_at i hi' hi] at hv
  unfold updRow at hv
  rcases List.mem_or_eq_of_mem_set hv with h | h
  · have := hw _ (List.getElem_mem hi') _ h
    omega
  · subst h
    exact newV_within hw hok hn i hi'
theorem addRows_ok {B N : Int} {rows : List (List Int)} (hw : Within B rows) (hok : OkR rows) {seed : Int} {key : ByteArray} {n : Int} (hn : -N ≤ n ∧ n ≤ N) (hB : B + N ≤ 1099511627776) : OkR (addRows seed key n rows) where
  l7 := by rw [addRows_len]; exact hok.l7
  odd := by rw [addRows_len]; exact hok.odd
  row r hr := by
    have hwi := addRows_within hw hok (seed := seed) (key := key) hn r hr
    obtain ⟨i, hi, rfl⟩ := List.getElem_of_mem hr
    have hi' : i < rows.length := by rw [addRows_len] at hi; exact hi
    have hlen : ∀ j (h : j < rows.length) (h2 : j < (addRows seed key n rows).length), (addRows seed key n rows)[j].length = rows[j].length := fun j h h2 => by rw [addRows_at j h h2]; simp [updRow]
    have h := hok.row _ (List.getElem_mem hi')
    have h0 : 0 < rows.length := by omega
    have hd : ((addRows seed key n rows).headD []).length = (rows.headD []).length := by
      have e1 : ∀ l : List (List Int), (h : 0 < l.length) → l.headD [] = l[0] := fun l h => by cases l with | nil => simp at h | cons a t => rfl
      rw [e1 _ (by rw [addRows_len]; exact h0), e1 _ h0]
      exact hlen 0 h0 _
    rw [hlen i hi' hi, hd]
    exact ⟨h.1, h.2.1, h.2.2.1, fun v hv => by have := hwi v hv; omega⟩
theorem addRows_fits {B N : Int} {rows : List (List Int)} (hw : Within B rows) (hok : OkR rows) {seed : Int} {key : ByteArray} {n : Int} (hn : -N ≤ n ∧ n ≤ N) (hB : B + N ≤ 1099511627776) : ∀ j, ∀ h : j < rows.length, fitsB (newV seed key n (j : Int) rows[j]) = true := fun j h => by
  have := newV_within hw hok (seed := seed) (key := key) hn j h
  rw [fitsB_iff]; omega
theorem new_ok {rows cols : Int} (h : newOk rows cols) : OkR (List.replicate rows.toNat (List.replicate cols.toNat (0 : Int))) where
  l7 := by have := h.2.1; simp; omega
  odd := by have := h.2.2.1; have := h.1; simp; omega
  row r hr := by
    have := List.eq_of_mem_replicate hr
    subst this
    have h1 := h.1; have h2 := h.2.2.2.1; have h3 := h.2.2.2.2
    have hd : (List.replicate rows.toNat (List.replicate cols.toNat (0 : Int))).headD [] = List.replicate cols.toNat 0 := by
      obtain ⟨k, hk⟩ : ∃ k, rows.toNat = k + 1 := ⟨rows.toNat - 1, by omega⟩
      rw [hk, List.replicate_succ]; rfl
    rw [hd]
    refine ⟨by simp; omega, by simp; omega, rfl, fun v hv => ?_⟩
    rw [List.eq_of_mem_replicate hv]; omega
theorem new_within {rows cols : Int} : Within 0 (List.replicate rows.toNat (List.replicate cols.toNat (0 : Int))) := by
  intro r hr v hv
  rw [List.eq_of_mem_replicate hr] at hv
  rw [List.eq_of_mem_replicate hv]; omega
theorem med_mem {l : List Int} (h : l ≠ []) : med l ∈ l := by
  have hl : l.length / 2 < (srt l).length := by
    have : 0 < l.length := List.length_pos_iff.2 h
    simp [srt]; omega
  unfold med
  rw [List.getD_eq_getElem?_getD, List.getElem?_eq_getElem hl]
  exact List.mem_mergeSort.1 (List.getElem_mem hl)
end Go.Proofs.YteaeigpeaneicaaF
end

section
set_option maxRecDepth 8192
set_option maxHeartbeats 1000000
namespace Go.Proofs.YteaeigpeaneicaaF
open Go Go.Proofs.Vm

theorem ssign_sq (seed : Int) (key : ByteArray) (i : Int) : ssign seed key i * ssign seed key i = 1 := by
  rcases ssign_or seed key i with h | h <;> rw [h] <;> rfl
theorem getL_add {rows : List (List Int)} (hok : OkR rows) (seed : Int) (key : ByteArray) (n : Int) : getL seed key (addRows seed key n rows) = (getL seed key rows).map (· + n) := by
  apply List.ext_getElem
  · simp [getL, addRows_len]
  · intro i h1 h2
    have hi : i < rows.length := by simpa [getL] using h2
    have hcell := hcell_range (hrow seed (2 * (i : Int))) key (rows[i].length : Int) (by have := (hok.row _ (List.getElem_mem hi)).1; omega)
    have hql : (scell seed key (i : Int) rows[i].length).toNat < rows[i].length := by
      have h1 : scell seed key (i : Int) rows[i].length < rows[i].length := hcell.2
      have h2 : 0 ≤ scell seed key (i : Int) rows[i].length := hcell.1
      omega
    have hl : (updRow seed key n (i : Int) rows[i]).length = rows[i].length := by simp [updRow]
    simp only [getL, List.getElem_mapIdx, List.getElem_map, addRows_at i hi]
    rw [hl]
    have hg : (updRow seed key n (i : Int) rows[i]).getD (scell seed key (i : Int) rows[i].length).toNat 0 = newV seed key n (i : Int) rows[i] := by
      unfold updRow
      rw [List.getD_eq_getElem?_getD, List.getElem?_set_self hql]
      rfl
    rw [hg, newV, Int.mul_add, ← Int.mul_assoc, ssign_sq, Int.one_mul]
theorem med_const {l : List Int} (h : l ≠ []) (n : Int) (hc : ∀ x ∈ l, x = n) : med l = n := hc _ (med_mem h)

theorem law_awake : TV.pu 12 [] = some (cB true) := by
  refine run12 (by simp) ?_
  have hno : newOk 1 1 := by unfold newOk; omega
  have hn3 : newOk 3 8 := by unfold newOk; omega
  obtain ⟨R0, hR0⟩ : ∃ R, R = List.replicate (3 : Int).toNat (List.replicate (8 : Int).toNat (0 : Int)) := ⟨_, rfl⟩
  have a0 := signed_New (seed := 1) hn3
  have o0 := new_ok hn3
  have w0 := new_within (rows := 3) (cols := 8)
  rw [← hR0] at a0 o0 w0
  obtain ⟨ky, hky⟩ : ∃ ky : ByteArray, ky = { data := #[97] } := ⟨_, rfl⟩
  have hks : ky.size ≤ 140737488351232 := by rw [hky]; decide
  have a1 := signed_Add (seed := 1) (rows := R0) (key := ky) (n := 5) (by omega) (by omega) hks o0 (by rw [fitsB_iff]; omega)
  rw [if_pos (addRows_fits (N := 5) w0 o0 (by omega) (by omega))] at a1
  have o1 := addRows_ok (N := 5) w0 o0 (seed := 1) (key := ky) (n := 5) (by omega) (by omega)
  have w1 := addRows_within (N := 5) w0 o0 (seed := 1) (key := ky) (n := 5) (by omega)
  have g1 := getL_add o0 1 ky 5
  have g2 := getL_add o1 1 ky (-2)
  rw [g1] at g2
  obtain ⟨R1, hR1⟩ : ∃ R, R = addRows 1 ky 5 R0 := ⟨_, rfl⟩
  rw [← hR1] at a1 o1 w1 g2
  have a2 := signed_Add (seed := 1) (rows := R1) (key := ky) (n := -2) (by omega) (by omega) hks o1 (by rw [fitsB_iff]; omega)
  rw [if_pos (addRows_fits (N := 2) w1 o1 (by omega) (by omega))] at a2
  have o2 := addRows_ok (N := 2) w1 o1 (seed := 1) (key := ky) (n := -2) (by omega) (by omega)
  obtain ⟨R2, hR2⟩ : ∃ R, R = addRows 1 ky (-2) R1 := ⟨_, rfl⟩
  rw [← hR2] at a2 o2 g2
  have a3 := signed_Get (seed := 1) (rows := R2) (key := ky) (by omega) (by omega) hks o2
  have hm : med (getL 1 ky R2) = 3 := by
    refine med_const ?_ 3 ?_
    · intro h
      have := congrArg List.length h
      rw [getL_len] at this
      have := o2.odd
      simp_all
    · intro x hx
      rw [g2] at hx
      simp only [List.map_map, List.mem_map] at hx
      obtain ⟨y, hy, rfl⟩ := hx
      have : y = 0 := by
        unfold getL at hy
        obtain ⟨i, hi, rfl⟩ := List.getElem_of_mem hy
        simp only [List.getElem_mapIdx]
        have hi' : i < R0.length := by simpa using hi
        have : ∀ q, R0[i].getD q 0 = 0 := by
          intro q
          rw [List.getD_eq_getElem?_getD]
          cases hx : R0[i][q]? with
          | none => rfl
          | some v =>
            have := w0 _ (List.getElem_mem hi') v (List.mem_of_getElem? hx)
            simp only [Option.getD_some]; omega
        rw [this]; simp
      subst this
      rfl
  rw [hm] at a3
  simp only [cSk, cRows] at a0 a1 a2 a3
  simp [Try.f12, a0, ← hky, a1, a2, a3, vstore, cellsOf?, Ent.wrO, wr, vmove, isNil]

theorem law_SignedNews {seed rows cols : Int} : TV.pu 3 [cI .u64 seed, cI .i64 rows, cI .i64 cols] = some (cB true) := by
  refine run3 (by simp) ?_
  have haw := law_awake
  by_cases h : newOk rows cols
  · obtain ⟨R0, hR0⟩ : ∃ R, R = List.replicate rows.toNat (List.replicate cols.toNat (0 : Int)) := ⟨_, rfl⟩
    have a0 := signed_New (seed := seed) h
    have o0 := new_ok h
    rw [← hR0] at a0 o0
    have hr := law_ref (seed := seed) (rows := R0)
    have hrt := ref12_Right (seed := seed) (rows := R0) (by have := o0.l7; omega) (fun x hx => by have := (o0.row x hx).2.1; omega)
    rw [(okB_iff R0).2 o0] at hrt
    have hlen : R0.length = rows.toNat := by rw [hR0]; simp
    have hl0 : ∀ h : 0 < R0.length, R0[0].length = cols.toNat := by subst hR0; simp
    obtain ⟨a1, a2, a3, a4, a5⟩ := h
    obtain ⟨n, rfl⟩ := Int.eq_ofNat_of_zero_le (show 0 ≤ rows by omega)
    obtain ⟨m, rfl⟩ := Int.eq_ofNat_of_zero_le (show 0 ≤ cols by omega)
    simp only [Int.toNat_natCast] at hlen hl0
    have g1 : ¬ (n : Int) < 1 := by omega
    have g2 : ¬ 7 < (n : Int) := by omega
    have g3 : ((n : Int).tmod 2 == 0) = false := by rw [Int.tmod_eq_emod_of_nonneg (by omega), a3]; rfl
    have g4 : ¬ (m : Int) < 1 := by omega
    have g5 : ¬ 256 < (m : Int) := by omega
    have g0 : 0 < R0.length := by omega
    have g6 := hl0 g0
    have g7 : ((R0.length : Int) != (n : Int)) = false := by simp; omega
    have g8 : ((R0[0].length : Int) != (m : Int)) = false := by simp; omega
    simp only [cSk, cRows, cRow] at a0 hr hrt
    simp [Try.f3, a0, hr, hrt, g1, g2, g3, g4, g5, g0, g7, g8, bin_rem, vstore, cellsOf?, Ent.wrO, wr, vmove, isNil]
    have hz : ∀ i, ∀ h : i < R0.length, ∀ j, ∀ h2 : j < R0[i].length, R0[i][j] = 0 := fun i h j h2 => by
      have := new_within (rows := n) (cols := m)
      rw [← hR0] at this
      have := this _ (List.getElem_mem h) _ (List.getElem_mem h2)
      omega
    obtain ⟨I, hI⟩ : ∃ I : Nat → St → Prop, ∀ k s', I k s' ↔ (∃ e h i L, s' = ⟨e, h⟩ ∧ h = .opn [[.c (.v (.int .u64 seed)), .c (cRows R0)]] false :: L ∧ e 7 = .one (.ptr ⟨0, 0, 0, 1⟩) ∧ e 8 = vI .i64 0 ∧ e 77 = vI .i64 R0.length ∧ e 78 = vI .i64 (i : Nat) ∧ i + k = R0.length) := ⟨_, fun _ _ => Iff.rfl⟩
    refine wpL_ind I ?_ R0.length _ ((hI _ _).2 ⟨_, _, 0, _, rfl, by simp only [cRows, cRow]; rfl, by simp, by simp, by simp, by simp, by omega⟩)
    intro k st hst
    obtain ⟨e, h, i, L, rfl, rfl, e7, e8, e77, e78, hk⟩ := (hI _ _).1 hst
    by_cases c : i < R0.length
    · have c' : (i : Int) < R0.length := by omega
      have hrw := o0.row R0[i] (List.getElem_mem c)
      have l7 := o0.l7
      have w3 : IntKind.i64.wrap ((i : Int) + 1) = ((i + 1 : Nat) : Int) := by rw [w64_id (by omega) (by omega)]; omega
      simp [e7, e8, e77, e78, c, c', cRows, cRow]
      obtain ⟨J, hJ⟩ : ∃ J : Nat → St → Prop, ∀ k s', J k s' ↔ (∃ e h q L, s' = ⟨e, h⟩ ∧ h = .opn [[.c (.v (.int .u64 seed)), .c (cRows R0)]] false :: L ∧ e 7 = .one (.ptr ⟨0, 0, 0, 1⟩) ∧ e 8 = vI .i64 0 ∧ e 77 = vI .i64 R0.length ∧ e 78 = vI .i64 (i : Nat) ∧ e 85 = .one (.c (cRow R0[i])) ∧ e 86 = vI .i64 R0[i].length ∧ e 87 = vI .i64 (q : Nat) ∧ q + k = R0[i].length) := ⟨_, fun _ _ => Iff.rfl⟩
      refine wpL_ind J ?_ R0[i].length _ ((hJ _ _).2 ⟨_, _, 0, _, rfl, by simp only [cRows, cRow]; rfl, by simp [e7], by simp [e8], by simp [e77], by simp [e78], by simp [cRow], by simp, by simp, by omega⟩)
      intro k2 st hst
      obtain ⟨e, h, q, L, rfl, rfl, f7, f8, f77, f78, f85, f86, f87, hk2⟩ := (hJ _ _).1 hst
      by_cases d : q < R0[i].length
      · have d' : (q : Int) < R0[i].length := by omega
        have w4 : IntKind.i64.wrap ((q : Int) + 1) = ((q + 1 : Nat) : Int) := by rw [w64_id (by omega) (by omega)]; omega
        have hv := hz i c q d
        simp [f78, f85, f86, f87, d, d', cRow, cInt, hv, w4]
        exact ⟨k2 - 1, by omega, (hJ _ _).2 ⟨_, _, q + 1, _, rfl, rfl, by simp [f7], by simp [f8], by simp [f77], by simp [f78], by simp [f85, cRow], by simp [f86], by simp, by omega⟩⟩
      · have d' : ¬ (q : Int) < R0[i].length := by omega
        simp [f78, f85, f86, f87, d', w3]
        exact ⟨k - 1, by omega, (hI _ _).2 ⟨_, _, i + 1, _, rfl, rfl, by simp [f7], by simp [f8], by simp [f77], by simp, by omega⟩⟩
    · have c' : ¬ (i : Int) < R0.length := by omega
      simp [e7, e8, e77, e78, c', haw]
  · have a0 := signed_New_arg (seed := seed) h
    have hr := law_ref (seed := 0) (rows := [])
    have he := ref12_Equal (s := 0) (t := 0) (a := []) (b := []) (by simp) (by simp)
    simp only [cSk, cRows, List.map_nil] at a0 hr he
    by_cases g1 : rows < 1
    · simp [Try.f3, a0, hr, he, haw, g1, vstore, cellsOf?, Ent.wrO, wr, vmove, isNil]
    by_cases g2 : 7 < rows
    · simp [Try.f3, a0, hr, he, haw, g1, g2, vstore, cellsOf?, Ent.wrO, wr, vmove, isNil]
    by_cases g3 : (rows.tmod 2 == 0) = true
    · simp [Try.f3, a0, hr, he, haw, g1, g2, g3, bin_rem, vstore, cellsOf?, Ent.wrO, wr, vmove, isNil]
    have g3 : (rows.tmod 2 == 0) = false := by simpa using g3
    by_cases g4 : cols < 1
    · simp [Try.f3, a0, hr, he, haw, g1, g2, g3, g4, bin_rem, vstore, cellsOf?, Ent.wrO, wr, vmove, isNil]
    by_cases g5 : 256 < cols
    · simp [Try.f3, a0, hr, he, haw, g1, g2, g3, g4, g5, bin_rem, vstore, cellsOf?, Ent.wrO, wr, vmove, isNil]
    · refine absurd ⟨by omega, by omega, ?_, by omega, by omega⟩ h
      rw [Int.tmod_eq_emod_of_nonneg (by omega)] at g3
      have : rows % 2 ≠ 0 := by simpa using g3
      omega
end Go.Proofs.YteaeigpeaneicaaF
end

section
set_option maxRecDepth 8192
set_option maxHeartbeats 1000000
namespace Go.Proofs.YteaeigpeaneicaaF
open Go Go.Proofs.Vm

abbrev Itm := ByteArray × Int
def cItem (x : Itm) : List CV := [.v (.string x.1), .v (.int .i64 x.2)]
def cItems (l : List Itm) : CV := .arr (l.map cItem)
def ItemOk (x : Itm) : Prop := x.1.size ≤ 100 ∧ -1073741824 ≤ x.2 ∧ x.2 ≤ 1073741824
instance (x : Itm) : Decidable (ItemOk x) := inferInstanceAs (Decidable (_ ∧ _))
def fewP (l : List Itm) : Prop := l.length ≤ 40 ∧ ∀ x ∈ l, ItemOk x
def addAll (seed : Int) (rows : List (List Int)) (l : List Itm) : List (List Int) := l.foldl (fun r x => addRows seed x.1 x.2 r) rows

theorem law_adds {seed : Int} {rows : List (List Int)} {l : List Itm} (h0 : 0 ≤ seed) (h1 : seed < 18446744073709551616) (hok : OkR rows) {B : Int} (hw : Within B rows) (hB0 : 0 ≤ B) (hB : B + l.length * 1073741824 ≤ 1099511627776) (hl : ∀ x ∈ l, ItemOk x) :
    TV.pu 24 [.agg (cSk seed rows), .one (cItems l)] = some (.agg (cSk seed (addAll seed rows l))) := by
  refine run24 (by simp) ?_
  simp [Try.f24, cSk, cRows, cItems, vmove, isNil]
  obtain ⟨I, hI⟩ : ∃ I : Nat → St → Prop, ∀ k s', I k s' ↔ (∃ e h i cur A L, s' = ⟨e, h⟩ ∧ h = .opn [[.c (.v (.int .u64 seed)), .c (cRows cur)]] false :: .opn [[.c (.v (.int .u64 0)), A]] false :: L ∧
      e 2 = .one (.ptr ⟨0, 0, 0, 1⟩) ∧ e 4 = .one (.ptr ⟨1, 0, 0, 1⟩) ∧ e 7 = .one (.c (cItems l)) ∧ e 8 = vI .i64 l.length ∧ e 9 = vI .i64 (i : Nat) ∧ i + k = l.length ∧ OkR cur ∧ Within (B + (i : Nat) * 1073741824) cur ∧ addAll seed cur (l.drop i) = addAll seed rows l) := ⟨_, fun _ _ => Iff.rfl⟩
  refine wpL_ind I ?_ l.length _ ((hI _ _).2 ⟨_, _, 0, rows, _, _, rfl, by simp only [cRows]; rfl, by simp, by simp, by simp [cItems], by simp, by simp, by omega, hok, by simpa using hw, by simp⟩)
  intro k st hst
  obtain ⟨e, h, i, cur, A, L, rfl, rfl, e2, e4, e7, e8, e9, hk, ho, hwi, hd⟩ := (hI _ _).1 hst
  by_cases c : i < l.length
  · have c' : (i : Int) < l.length := by omega
    have hi := hl l[i] (List.getElem_mem c)
    have w3 : IntKind.i64.wrap ((i : Int) + 1) = ((i + 1 : Nat) : Int) := by rw [w64_id (by omega) (by omega)]; omega
    have hBi : B + (i : Nat) * 1073741824 + 1073741824 ≤ 1099511627776 := by omega
    have ha := signed_Add (seed := seed) (rows := cur) (key := l[i].1) (n := l[i].2) h0 h1 (by have := hi.1; omega) ho (by rw [fitsB_iff]; have := hi.2; omega)
    rw [if_pos (addRows_fits (N := 1073741824) hwi ho hi.2 hBi)] at ha
    have o1 := addRows_ok (N := 1073741824) hwi ho (seed := seed) (key := l[i].1) hi.2 hBi
    have w1 := addRows_within (N := 1073741824) hwi ho (seed := seed) (key := l[i].1) hi.2
    simp only [cSk, cRows] at ha
    simp [e2, e4, e7, e8, e9, c, c', cItems, cItem, cRows, ha, w3, vstore, cellsOf?, Ent.wrO, wr, vmove, isNil]
    refine ⟨k - 1, by omega, (hI _ _).2 ⟨_, _, i + 1, _, _, _, rfl, by simp only [cRows]; rfl, by simp [e2], by simp [e4], by simp [e7, cItems], by simp [e8], by simp, by omega, o1, ?_, ?_⟩⟩
    · have : B + ((i + 1 : Nat) : Int) * 1073741824 = B + (i : Nat) * 1073741824 + 1073741824 := by omega
      rw [this]; exact w1
    · rw [← hd]
      unfold addAll
      rw [List.drop_eq_getElem_cons c, List.foldl_cons]
  · have c' : ¬ (i : Int) < l.length := by omega
    rw [← hd, List.drop_eq_nil_of_le (by omega)]
    simp [e2, e4, e7, e8, e9, c', vstore, cellsOf?, Ent.wrO, wr]
    simp [qa, addAll, cRows]

theorem law_few {l : List Itm} (hl : l.length < 9223372036854775807) : ∃ b, (b = true ↔ fewP l) ∧ TV.pu 23 [.one (cItems l)] = some (cB b) := by
  classical
  refine ⟨decide (fewP l), by simp, run23 (by simp) ?_⟩
  simp [Try.f23, cItems]
  obtain ⟨I, hI⟩ : ∃ I : Nat → St → Prop, ∀ k s', I k s' ↔ (∃ e i, s' = ⟨e, []⟩ ∧ e 0 = .one (.c (cItems l)) ∧ e 5 = vI .i64 l.length ∧ e 6 = vI .i64 (i : Nat) ∧ i + k = l.length ∧ ∀ j, j < i → ∀ h : j < l.length, ItemOk l[j]) := ⟨_, fun _ _ => Iff.rfl⟩
  refine wpL_ind I ?_ l.length _ ((hI _ _).2 ⟨_, 0, rfl, by simp [cItems], by simp, by simp, by omega, by omega⟩)
  intro k st hst
  obtain ⟨e, i, rfl, e0, e5, e6, hk, hall⟩ := (hI _ _).1 hst
  by_cases c : i < l.length
  · have c' : (i : Int) < l.length := by omega
    have w3 : IntKind.i64.wrap ((i : Int) + 1) = ((i + 1 : Nat) : Int) := by rw [w64_id (by omega) (by omega)]; omega
    have bad : ¬ ItemOk l[i] → decide (fewP l) = false := fun h => by
      rw [decide_eq_false_iff_not]
      exact fun g => h (g.2 _ (List.getElem_mem c))
    by_cases z1 : 100 < (l[i].1.size : Int)
    · have hb := bad (fun g => by have := g.1; omega)
      simp [e0, e5, e6, c, c', cItems, cItem, z1, hb]
    by_cases z2 : l[i].2 < -1073741824
    · have hb := bad (fun g => by have := g.2.1; omega)
      simp [e0, e5, e6, c, c', cItems, cItem, z1, z2, hb]
    by_cases z3 : 1073741824 < l[i].2
    · have hb := bad (fun g => by have := g.2.2; omega)
      simp [e0, e5, e6, c, c', cItems, cItem, z1, z2, z3, hb]
    simp [e0, e5, e6, c, c', cItems, cItem, z1, z2, z3]
    refine ⟨k - 1, by omega, (hI _ _).2 ⟨_, i + 1, rfl, by simp [e0, cItems], by simp [e5], by simp [w3], by omega, fun j hj h => ?_⟩⟩
    by_cases hji : j = i
    · subst hji; exact ⟨by omega, by omega, by omega⟩
    · exact hall j (by omega) h
  · have c' : ¬ (i : Int) < l.length := by omega
    have hf : fewP l ↔ l.length ≤ 40 := ⟨fun h => h.1, fun h => ⟨h, fun x hx => by obtain ⟨j, hj, rfl⟩ := List.getElem_of_mem hx; exact hall j (by omega) hj⟩⟩
    by_cases z : l.length ≤ 40
    · have z' : (l.length : Int) ≤ 40 := by omega
      simp [e0, e5, e6, c', cItems, z', hf, z]
    · have z' : ¬ (l.length : Int) ≤ 40 := by omega
      simp [e0, e5, e6, c', cItems, z', hf, z]
end Go.Proofs.YteaeigpeaneicaaF
end

section
set_option maxRecDepth 8192
set_option maxHeartbeats 1000000
namespace Go.Proofs.YteaeigpeaneicaaF
open Go Go.Proofs.Vm

theorem signed_Merge_arg {s t : Int} {a b : List (List Int)} (ha : a.length < 9223372036854775807) (ha2 : ∀ x ∈ a, x.length < 9223372036854775807) (hb : b.length < 9223372036854775807) (hb2 : ∀ x ∈ b, x.length < 9223372036854775807)
    (h : ¬ (okB a = true ∧ okB b = true ∧ s = t ∧ a.length = b.length ∧ (a.headD []).length = (b.headD []).length)) : TV.pu 25 [.agg (cSk s a), .agg (cSk t b)] = some (.tup [(true, cSk 0 []), (false, [.v (.int .i64 1)])]) := by
  refine run25 (by simp) ?_
  have hR := signed_Right (seed := s) ha ha2
  have hT := signed_Right (seed := t) hb hb2
  simp only [cSk, cRows, cRow] at hR hT
  by_cases k1 : okB a = true
  · rw [k1] at hR
    by_cases k2 : okB b = true
    · rw [k2] at hT
      by_cases k3 : (s != t) = true
      · simp [Try.f25, cSk, cRows, cRow, hR, hT, k3, vstore, cellsOf?, Ent.wrO, wr, vmove, isNil]
        simp [qa]
      have k3' : (s != t) = false := by simpa using k3
      by_cases k4 : ((a.length : Int) != (b.length : Int)) = true
      · simp [Try.f25, cSk, cRows, cRow, hR, hT, k3', k4, vstore, cellsOf?, Ent.wrO, wr, vmove, isNil]
        simp [qa]
      have k4' : ((a.length : Int) != (b.length : Int)) = false := by simpa using k4
      have oa := ((okB_iff a).1 k1).odd
      have ob := ((okB_iff b).1 k2).odd
      have a0 : 0 < a.length := by omega
      have b0 : 0 < b.length := by omega
      have e1 : ∀ l : List (List Int), (h : 0 < l.length) → l.headD [] = l[0] := fun l h => by cases l with | nil => simp at h | cons a t => rfl
      have k5 : ((a[0].length : Int) != (b[0].length : Int)) = true := by
        simp only [bne_iff_ne, ne_eq]
        intro hh
        exact h ⟨k1, k2, by simpa using k3', by simp at k4'; omega, by rw [e1 _ a0, e1 _ b0]; omega⟩
      simp [Try.f25, cSk, cRows, cRow, hR, hT, k3', k4', k5, a0, b0, vstore, cellsOf?, Ent.wrO, wr, vmove, isNil]
      simp [qa]
    · have k2 : okB b = false := by simpa using k2
      rw [k2] at hT
      simp [Try.f25, cSk, cRows, cRow, hR, hT, vstore, cellsOf?, Ent.wrO, wr, vmove, isNil]
      simp [qa]
  · have k1 : okB a = false := by simpa using k1
    rw [k1] at hR
    simp [Try.f25, cSk, cRows, cRow, hR, vstore, cellsOf?, Ent.wrO, wr, vmove, isNil]
    simp [qa]
end Go.Proofs.YteaeigpeaneicaaF
end

section
set_option maxRecDepth 8192
set_option maxHeartbeats 1000000
namespace Go.Proofs.YteaeigpeaneicaaF
open Go Go.Proofs.Vm

/-- The first c numbers of a row summed with those of another. -/
def sumRow (c : Nat) (r s : List Int) : List Int := r.mapIdx fun q v => if q < c then v + s.getD q 0 else v
def sumTo (i c : Nat) (a b : List (List Int)) : List (List Int) := a.mapIdx fun j r => if j < i then sumRow r.length r (b.getD j []) else if j = i then sumRow c r (b.getD j []) else r
def sumRows (a b : List (List Int)) : List (List Int) := sumTo a.length 0 a b
theorem sumRow_len (c : Nat) (r s : List Int) : (sumRow c r s).length = r.length := by simp [sumRow]
theorem sumTo_len (i c : Nat) (a b : List (List Int)) : (sumTo i c a b).length = a.length := by simp [sumTo]
theorem sumRow_zero (r s : List Int) : sumRow 0 r s = r := by
  apply List.ext_getElem
  · simp [sumRow]
  · intro j h1 h2
    simp [sumRow]
theorem sumTo_zero (a b : List (List Int)) : sumTo 0 0 a b = a := by
  apply List.ext_getElem
  · simp [sumTo]
  · intro j h1 h2
    simp [sumTo, sumRow_zero]
theorem sumRow_set (c : Nat) (r s : List Int) (h : c < r.length) : (sumRow c r s).set c (r[c] + s.getD c 0) = sumRow (c + 1) r s := by
  apply List.ext_getElem
  · simp [sumRow]
  · intro j h1 h2
    rw [List.getElem_set]
    simp only [sumRow, List.getElem_mapIdx]
    by_cases hj : c = j
    · subst hj; simp
    · rw [if_neg hj]
      by_cases hj2 : j < c
      · rw [if_pos hj2, if_pos (by omega)]
      · rw [if_neg hj2, if_neg (by omega)]
theorem sumTo_at (i c : Nat) (a b : List (List Int)) (h : i < a.length) (h2 : i < (sumTo i c a b).length) : (sumTo i c a b)[i] = sumRow c a[i] (b.getD i []) := by
  simp [sumTo]
theorem sumTo_set (i c : Nat) (a b : List (List Int)) (h : i < a.length) : (sumTo i c a b).set i (sumRow (c + 1) a[i] (b.getD i [])) = sumTo i (c + 1) a b := by
  apply List.ext_getElem
  · simp [sumTo]
  · intro j h1 h2
    rw [List.getElem_set]
    simp only [sumTo, List.getElem_mapIdx]
    by_cases hj : i = j
    · subst hj; simp
    · rw [if_neg hj]
      by_cases hj2 : j < i
      · rw [if_pos hj2, if_pos hj2]
      · rw [if_neg hj2, if_neg hj2, if_neg (by omega), if_neg (by omega)]
theorem sumTo_next (i : Nat) (a b : List (List Int)) (h : i < a.length) : sumTo i a[i].length a b = sumTo (i + 1) 0 a b := by
  apply List.ext_getElem
  · simp [sumTo]
  · intro j h1 h2
    simp only [sumTo, List.getElem_mapIdx]
    by_cases hj : j < i
    · rw [if_pos hj, if_pos (by omega)]
    · rw [if_neg hj]
      by_cases hj2 : j = i
      · subst hj2; rw [if_pos rfl, if_pos (by omega)]
      · rw [if_neg hj2, if_neg (by omega)]
        by_cases hj3 : j = i + 1
        · rw [if_pos hj3, sumRow_zero]
        · rw [if_neg hj3]
end Go.Proofs.YteaeigpeaneicaaF
end

section
set_option maxRecDepth 8192
set_option maxHeartbeats 2000000
namespace Go.Proofs.YteaeigpeaneicaaF
open Go Go.Proofs.Vm

def mH (s : Int) (a cur : List (List Int)) : List Ent :=
  .clo [] false :: .opn [[.c (.v (.int .u64 s)), .sl 7 0 a.length a.length]] false :: .opn [[.c (.v (.int .u64 s)), .sl 7 0 a.length a.length]] false :: .clo [] false :: .opn (clRows 4 a a.length) false :: cl cur

theorem mH_get (s : Int) (a cur : List (List Int)) (X Y Z : Ent) (i : Nat) (h : i < cur.length) : (X :: Y :: Z :: mH s a cur)[4 + (5 + 2 * i)]? = some (.clo (cur[i].map cInt) false) := by
  show (X :: Y :: Z :: _ :: _ :: _ :: _ :: _ :: cl cur)[4 + (5 + 2 * i)]? = _
  rw [show 4 + (5 + 2 * i) = (2 * i + 1) + 8 by omega]
  simp only [List.getElem?_cons_succ]
  rw [cl_get, List.getElem?_eq_getElem h]
  rfl
theorem mH_set (s : Int) (a cur : List (List Int)) (X Y Z : Ent) (i : Nat) (x : List Int) : (X :: Y :: Z :: mH s a cur).set (4 + (5 + 2 * i)) (.clo (x.map cInt) false) = X :: Y :: Z :: mH s a (cur.set i x) := by
  show (X :: Y :: Z :: _ :: _ :: _ :: _ :: _ :: cl cur).set (4 + (5 + 2 * i)) _ = _
  rw [show 4 + (5 + 2 * i) = (2 * i + 1) + 8 by omega]
  simp only [List.set_cons_succ]
  rw [cl_set]
  rfl
theorem mH_fz (s : Int) (a cur : List (List Int)) (X Y Z : Ent) (hl : cur.length = a.length) (hr : ∀ j, ∀ h : j < a.length, ∀ h2 : j < cur.length, cur[j].length = a[j].length) : fzc 5 (X :: Y :: Z :: mH s a cur) (.sl 7 0 a.length a.length) = some (cRows cur) := by
  refine fz_rows (b := 4) hl (by simp [mH]) (fun j hj hj2 => ⟨mH_get s a cur X Y Z j hj2, hr j hj hj2⟩) 3

def SumFits (a b : List (List Int)) : Prop := ∀ i, ∀ h : i < a.length, ∀ q, ∀ h2 : q < a[i].length, fitsB (a[i][q] + (b.getD i []).getD q 0) = true
open Classical in
theorem signed_Merge {s : Int} {a b : List (List Int)} (oa : OkR a) (ob : OkR b) (hl : a.length = b.length) (hc0 : (a.headD []).length = (b.headD []).length) :
    TV.pu 25 [.agg (cSk s a), .agg (cSk s b)] = some (if SumFits a b then .tup [(true, cSk s (sumRows a b)), (false, [.v (.int .i64 0)])] else .tup [(true, cSk 0 []), (false, [.v (.int .i64 5)])]) := by
  refine run25 (by simp) ?_
  have l7 := oa.l7
  have hR := signed_Right (seed := s) (rows := a) (by omega) (fun x hx => by have := (oa.row x hx).2.1; omega)
  have hT := signed_Right (seed := s) (rows := b) (by omega) (fun x hx => by have := (ob.row x hx).2.1; omega)
  rw [(okB_iff a).2 oa] at hR
  rw [(okB_iff b).2 ob] at hT
  have a0 : 0 < a.length := by have := oa.odd; omega
  have b0 : 0 < b.length := by omega
  have e1 : ∀ l : List (List Int), (h : 0 < l.length) → l.headD [] = l[0] := fun l h => by cases l with | nil => simp at h | cons a t => rfl
  have k4 : ((a.length : Int) != (b.length : Int)) = false := by simp; omega
  have k5 : ((a[0].length : Int) != (b[0].length : Int)) = false := by rw [e1 _ a0, e1 _ b0] at hc0; simp; omega
  have hc := signed_clone (seed := s) (rows := a) (H := [.opn [[.c (.v (.int .u64 s)), .c (cRows a)]] false, .opn [[.c (.v (.int .u64 s)), .c (cRows b)]] false, .opn [[.c (.v (.int .u64 0)), .sl 3 0 0 0]] false, .clo [] false]) oa.ne (by omega) (fun r hr => ⟨by have := (oa.row r hr).1; rintro rfl; simp at this, by have := (oa.row r hr).2.1; omega⟩)
  simp only [cSk, cRows, cRow] at hR hT hc
  simp [Try.f25, cSk, cRows, cRow, hR, hT, hc, k4, k5, a0, b0, vstore, cellsOf?, Ent.wrO, wr, vmove, isNil, clH, clRows_len]
  obtain ⟨I, hI⟩ : ∃ I : Nat → St → Prop, ∀ k s', I k s' ↔ (∃ e h i, s' = ⟨e, h⟩ ∧ h = .opn [[.c (.v (.int .u64 s)), .sl 7 0 a.length a.length]] false :: .opn [[.c (.v (.int .u64 s)), .c (cRows b)]] false :: .opn [[.c (.v (.int .u64 0)), .sl 3 0 0 0]] false :: mH s a (sumTo i 0 a b) ∧
      e 2 = .one (.ptr ⟨0, 0, 0, 1⟩) ∧ e 3 = .one (.ptr ⟨1, 0, 0, 1⟩) ∧ e 4 = .one (.ptr ⟨2, 0, 0, 1⟩) ∧ e 50 = .one (.sl 7 0 a.length a.length) ∧ e 51 = vI .i64 a.length ∧ e 52 = vI .i64 (i : Nat) ∧ i + k = a.length ∧
      ∀ j, j < i → ∀ h : j < a.length, ∀ q, ∀ h2 : q < a[j].length, fitsB (a[j][q] + (b.getD j []).getD q 0) = true) := ⟨_, fun _ _ => Iff.rfl⟩
  refine wpL_ind I ?_ a.length _ ((hI _ _).2 ⟨_, _, 0, rfl, by rw [sumTo_zero]; simp [mH, cRows, cRow], by simp, by simp, by simp, by simp, by simp, by simp, by omega, by omega⟩)
  intro k st hst
  obtain ⟨e, h, i, rfl, rfl, f2, f3, f4, f50, f51, f52, hk, hall⟩ := (hI _ _).1 hst
  by_cases c : i < a.length
  · have c' : (i : Int) < a.length := by omega
    have cb : i < b.length := by omega
    have hra : ∀ h : i < (clRows 4 a a.length).length, (clRows 4 a a.length)[i]'h = [.sl (4 + (5 + 2 * i)) 0 a[i].length a[i].length] := by simp [clRows]
    have h7 : ∀ X Y Z : Ent, ∀ cur, (X :: Y :: Z :: mH s a cur)[7]? = some (.opn (clRows 4 a a.length) false) := fun _ _ _ _ => rfl
    have hul : i < (sumTo i 0 a b).length := by rw [sumTo_len]; exact c
    have hg0 := fun X Y Z => mH_get s a (sumTo i 0 a b) X Y Z i hul
    have hsl : (sumTo i 0 a b)[i].length = a[i].length := by rw [sumTo_at _ _ _ _ c, sumRow_len]
    have hrw := oa.row a[i] (List.getElem_mem c)
    have w3 : IntKind.i64.wrap ((i : Int) + 1) = ((i + 1 : Nat) : Int) := by rw [w64_id (by omega) (by omega)]; omega
    simp [-fzc, f2, f4, f50, f51, f52, c, c', vmove, isNil, h7, hra, clRows_len, hg0, hsl]
    have hbl : a[i].length = b[i].length := by
      have h1 := hrw.2.2.1
      have h2 := (ob.row b[i] (List.getElem_mem cb)).2.2.1
      omega
    have hbd : b.getD i [] = b[i] := by rw [List.getD_eq_getElem?_getD, List.getElem?_eq_getElem cb]; rfl
    obtain ⟨J, hJ⟩ : ∃ J : Nat → St → Prop, ∀ k s', J k s' ↔ (∃ e h q, s' = ⟨e, h⟩ ∧ h = .opn [[.c (.v (.int .u64 s)), .sl 7 0 a.length a.length]] false :: .opn [[.c (.v (.int .u64 s)), .c (cRows b)]] false :: .opn [[.c (.v (.int .u64 0)), .sl 3 0 0 0]] false :: mH s a (sumTo i q a b) ∧
        e 2 = .one (.ptr ⟨0, 0, 0, 1⟩) ∧ e 3 = .one (.ptr ⟨1, 0, 0, 1⟩) ∧ e 4 = .one (.ptr ⟨2, 0, 0, 1⟩) ∧ e 50 = .one (.sl 7 0 a.length a.length) ∧ e 51 = vI .i64 a.length ∧ e 52 = vI .i64 (i : Nat) ∧ e 6 = vI .i64 (i : Nat) ∧ e 7 = .one (.sl (4 + (5 + 2 * i)) 0 a[i].length a[i].length) ∧ e 58 = vI .i64 a[i].length ∧ e 59 = vI .i64 (q : Nat) ∧ q + k = a[i].length ∧
        ∀ j, j < q → ∀ h : j < a[i].length, fitsB (a[i][j] + (b.getD i []).getD j 0) = true) := ⟨_, fun _ _ => Iff.rfl⟩
    refine wpL_ind J ?_ a[i].length _ ((hJ _ _).2 ⟨_, _, 0, rfl, rfl, by simp [f2], by simp [f3], by simp [f4], by simp [f50], by simp [f51], by simp [f52], by simp, by simp, by simp, by simp, by omega, by omega⟩)
    intro k2 st hst
    obtain ⟨e, h, q, rfl, rfl, g2, g3, g4, g50, g51, g52, g6, g7, g58, g59, hk2, hall2⟩ := (hJ _ _).1 hst
    by_cases d : q < a[i].length
    · have d' : (q : Int) < a[i].length := by omega
      have db : q < b[i].length := by omega
      have hu : i < (sumTo i q a b).length := by rw [sumTo_len]; exact c
      have hat : (sumTo i q a b)[i] = sumRow q a[i] b[i] := by rw [sumTo_at _ _ _ _ c, hbd]
      have hg := fun X Y Z => mH_get s a (sumTo i q a b) X Y Z i hu
      rw [hat] at hg
      have hgl : (sumRow q a[i] b[i]).length = a[i].length := sumRow_len ..
      have hgq : ∀ h : q < (sumRow q a[i] b[i]).length, (sumRow q a[i] b[i])[q]'h = a[i][q] := by simp [sumRow]
      have hva := hrw.2.2.2 a[i][q] (List.getElem_mem d)
      have hvb := (ob.row b[i] (List.getElem_mem cb)).2.2.2 b[i][q] (List.getElem_mem db)
      have w1 : IntKind.i64.wrap (a[i][q] + b[i][q]) = a[i][q] + b[i][q] := w64_id (by omega) (by omega)
      have w4 : IntKind.i64.wrap ((q : Int) + 1) = ((q + 1 : Nat) : Int) := by rw [w64_id (by omega) (by omega)]; omega
      have hdb : (b.getD i []).getD q 0 = b[i][q] := by rw [hbd, List.getD_eq_getElem?_getD, List.getElem?_eq_getElem db]; rfl
      have hwr : Ent.wrC ((sumRow q a[i] b[i]).map cInt) q 0 [.v (.int .i64 (a[i][q] + b[i][q]))] = (sumRow (q + 1) a[i] b[i]).map cInt := by
        rw [← sumRow_set q a[i] b[i] d, List.getD_eq_getElem?_getD, List.getElem?_eq_getElem db]
        apply List.ext_getElem
        · simp [Ent.wrC]
        · intro j h1 h2
          simp only [Ent.wrC, List.getElem_modify, List.getElem_map, List.getElem_set, Option.getD_some]
          by_cases hj : q = j
          · subst hj; simp [wr, cInt]
          · rw [if_neg hj, if_neg hj]
      have hset : ∀ X Y Z : Ent, (X :: Y :: Z :: mH s a (sumTo i q a b)).set (4 + (5 + 2 * i)) (.clo ((sumRow (q + 1) a[i] b[i]).map cInt) false) = X :: Y :: Z :: mH s a (sumTo i (q + 1) a b) := fun X Y Z => by
        rw [mH_set, ← hbd, sumTo_set _ _ _ _ c]
      have hu1 : i < (sumTo i (q + 1) a b).length := by rw [sumTo_len]; exact c
      have hg1 := fun X Y Z => mH_get s a (sumTo i (q + 1) a b) X Y Z i hu1
      have hat1 : (sumTo i (q + 1) a b)[i] = sumRow (q + 1) a[i] b[i] := by rw [sumTo_at _ _ _ _ c, hbd]
      rw [hat1] at hg1
      have hgl1 : (sumRow (q + 1) a[i] b[i]).length = a[i].length := sumRow_len ..
      have hgq1 : ∀ h : q < (sumRow (q + 1) a[i] b[i]).length, (sumRow (q + 1) a[i] b[i])[q]'h = a[i][q] + b[i][q] := by simp [sumRow, db]
      have hf2 := signed_fits (a[i][q] + b[i][q])
      by_cases hfit : fitsB (a[i][q] + b[i][q]) = true
      · rw [hfit] at hf2
        simp [-fzc, fz_v, g3, g4, g52, g6, g7, g58, g59, d, d', db, cb, vmove, isNil, vstore, cellsOf?, hasRef, cInt, cRows, cRow, hg, hgl, hgq, hwr, hset, hg1, hgl1, hgq1, w1, hf2]
        refine ⟨k2 - 1, by omega, (hJ _ _).2 ⟨_, _, q + 1, rfl, rfl, by simp [g2], by simp [g3], by simp [g4], by simp [g50], by simp [g51], by simp [g52], by simp [g6], by simp [g7], by simp [g58], by simp [w4], by omega, fun j hj h => ?_⟩⟩
        by_cases hjq : j = q
        · subst hjq; rw [hdb]; exact hfit
        · exact hall2 j (by omega) h
      · rw [if_neg fun hx => hfit (by have := hx i c q d; rw [hdb] at this; exact this)]
        have hfit : fitsB (a[i][q] + b[i][q]) = false := by simpa using hfit
        rw [hfit] at hf2
        simp [-fzc, fz_v, g3, g4, g52, g6, g7, g58, g59, d, d', db, cb, vmove, isNil, vstore, cellsOf?, hasRef, cInt, cRows, cRow, hg, hgl, hgq, hwr, hset, hg1, hgl1, hgq1, w1, hf2, Ent.wrO, wr]
        simp [fzc, qa]
    · have d' : ¬ (q : Int) < a[i].length := by omega
      have hq : q = a[i].length := by omega
      subst hq
      simp [g52, g7, g58, g59, d', w3]
      refine ⟨k - 1, by omega, (hI _ _).2 ⟨_, _, i + 1, rfl, by rw [sumTo_next _ _ _ c], by simp [g2], by simp [g3], by simp [g4], by simp [g50], by simp [g51], by simp, by omega, fun j hj h => ?_⟩⟩
      by_cases hji : j = i
      · subst hji; exact fun q hq => hall2 q hq hq
      · exact hall j (by omega) h
  · have c' : ¬ (i : Int) < a.length := by omega
    have hi : i = a.length := by omega
    subst hi
    have hz := fun X Y Z => mH_fz s a (sumTo a.length 0 a b) X Y Z (sumTo_len ..) (fun j h h2 => by simp [sumTo, h, sumRow_len])
    rw [if_pos (show SumFits a b from fun j h => hall j h h)]
    simp [-fzc, f2, f4, f50, f51, f52, c', vstore, cellsOf?, Ent.wrO, wr, vmove, isNil]
    simp [-fzc, fz_v, qa, hz, sumRows]
    rfl
end Go.Proofs.YteaeigpeaneicaaF
end

section
/- The value machine: appends and places as simp reckons them. -/
namespace Go.Proofs.Vm
open Go

variable {P : Program} {H : Hp}

def AllLen (l : List (List CV)) (sz : Nat) : Prop := ∀ e ∈ l, e.length = sz
instance (l : List (List CV)) (sz : Nat) : Decidable (AllLen l sz) := inferInstanceAs (Decidable (∀ e ∈ l, e.length = sz))
@[simp] theorem allLen_nil (sz : Nat) : AllLen [] sz := fun e h => by cases h
@[simp] theorem allLen_one (e : List CV) (sz : Nat) : AllLen [e] sz ↔ e.length = sz := by simp [AllLen]
theorem vappend_sp {t tx e ex : TypeId} {id n : Nat} {x : AV} {sz b : Nat} {z : List CV} (he : elemOfSlice P t = some e) (hex : elemOfSlice P tx = some ex) (hel : elOf P e = some (sz, b, z)) :
    vappend P H t tx (.one (.sl id 0 n n)) x = match elemsOf H x, H[id]? with
      | some xs, some (.clo l false) => if l.length = n ∧ AllLen l sz ∧ AllLen xs sz ∧ b * (n + xs.length) ≤ 70368744177664 ∧ n + xs.length ≤ 4611686018427387904 then some (.one (.sl id 0 (n + xs.length) (n + xs.length)), H.set id (.clo (l ++ xs) false)) else none
      | _, _ => none := by
  obtain ⟨i, v, h1, h2, h3, h4, h5, h6, h7⟩ := elOf_facts hel
  unfold vappend
  cases hx : elemsOf H x with
  | none => rfl
  | some xs =>
    simp only [he, hex, h1, h2]
    cases hH : H[id]? with
    | none => rfl
    | some en =>
      cases en with
      | clo l f =>
        cases f with
        | true => rfl
        | false =>
          simp only [h3, h4]
          by_cases hc : l.length = n ∧ AllLen l sz ∧ AllLen xs sz ∧ b * (n + xs.length) ≤ 70368744177664 ∧ n + xs.length ≤ 4611686018427387904
          · rw [if_pos hc, if_pos ⟨trivial, trivial, hc.1, hc.2.1, hc.2.2.1, h6, by simp [small]; exact hc.2.2.2.1, hc.2.2.2.2⟩]
          · rw [if_neg hc, if_neg]
            rintro ⟨_, _, k1, k2, k3, _, k4, k5⟩
            exact hc ⟨k1, k2, k3, by simpa [small] using k4, k5⟩
      | opn l f => rfl
      | mp l => rfl

/-- Closing and giving up, a step at a time: in place of the functions themselves, which unfold too far where a place is not known yet. -/
theorem fz_sl (n : Nat) (H : Hp) (id o m tot : Nat) : fzc (n + 1) H (.sl id o m tot) = match H[id]? with
    | some (.clo l _) => if l.length = tot then some (.arr ((l.drop o).take m)) else none
    | some (.opn l _) => if l.length = tot then (mapO (mapO (fzc n H)) ((l.drop o).take m)).map .arr else none
    | _ => none := rfl
theorem fz_ptr (n : Nat) (H : Hp) (p : Pt) : fzc (n + 1) H (.ptr p) = match cellsAt H p with
    | some cs => (mapO (fzc n H) cs).map .cptr
    | none => none := rfl
theorem rh_c (n : Nat) (H : Hp) (x : CV) : rch (n + 1) H (.c x) = [] := rfl
theorem rh_sl (n : Nat) (H : Hp) (id o m tot : Nat) : rch (n + 1) H (.sl id o m tot) = id :: (match H[id]? with
    | some (.opn l _) => (((l.drop o).take m).map fun e => (e.map (rch n H)).flatten).flatten
    | _ => []) := rfl
theorem rh_ptr (n : Nat) (H : Hp) (p : Pt) : rch (n + 1) H (.ptr p) = p.id :: (match cellsAt H p with
    | some cs => (cs.map (rch n H)).flatten
    | none => []) := rfl

/-- A place behind a list. -/
@[simp] theorem get_mid (L M : List Ent) (X : Ent) : (L ++ X :: M)[L.length]? = some X := by simp
@[simp] theorem set_mid (L M : List Ent) (X Y : Ent) : (L ++ X :: M).set L.length Y = L ++ Y :: M := by simp
@[simp] theorem get_mid2 (L M N : List Ent) (A X : Ent) : (L ++ A :: (M ++ X :: N))[L.length + (M.length + 1)]? = some X := by
  rw [List.getElem?_append_right (by omega)]
  simp
@[simp] theorem get_mid3 (L M : List Ent) (A X : Ent) (N : List Ent) : (L ++ A :: X :: (M ++ N))[L.length + 1]? = some X := by
  rw [List.getElem?_append_right (by omega)]
  simp

/-- The first ones of a list, told: what a loop has appended so far. -/
def tk {α β : Type} (f : α → β) (l : List α) (i : Nat) : List β := (l.take i).map f
theorem tk_zero {α β : Type} (f : α → β) (l : List α) : tk f l 0 = [] := by simp [tk]
theorem tk_len {α β : Type} {f : α → β} {l : List α} {i : Nat} (h : i ≤ l.length) : (tk f l i).length = i := by simp [tk]; omega
theorem tk_succ {α β : Type} {f : α → β} {l : List α} {i : Nat} (h : i < l.length) : tk f l i ++ [f l[i]] = tk f l (i + 1) := by
  unfold tk
  rw [List.take_add_one, List.getElem?_eq_getElem h, List.map_append]
  rfl
theorem tk_all {α β : Type} {f : α → β} {l : List α} {i : Nat} (h : l.length ≤ i) : tk f l i = l.map f := by rw [tk, List.take_of_length_le h]
theorem tk_allLen {α : Type} {f : α → List CV} {l : List α} {i sz : Nat} (h : ∀ a, (f a).length = sz) : AllLen (tk f l i) sz := by
  intro x hx
  obtain ⟨a, ha, rfl⟩ := List.mem_map.1 hx
  exact h a
theorem tk_mem {α β : Type} {f : α → β} {l : List α} {i : Nat} {p : β → Prop} (h : ∀ a ∈ l, p (f a)) : ∀ x ∈ tk f l i, p x := by
  intro x hx
  obtain ⟨a, ha, rfl⟩ := List.mem_map.1 hx
  exact h a (List.mem_of_mem_take ha)

end Go.Proofs.Vm
end

section
set_option maxRecDepth 8192
set_option maxHeartbeats 2000000
namespace Go.Proofs.YteaeigpeaneicaaF
open Go Go.Proofs.Vm

def smallB (rows : List (List Int)) : Bool := rows.all (fun r => decide (r.length ≤ 300)) && decide (rows.length < 20)
theorem ref11_Small {rows : List (List Int)} (hl : rows.length < 9223372036854775807) : TV.pu 14 [.one (cRows rows)] = some (cB (smallB rows)) := by
  refine run14 (by simp) ?_
  simp [Try.f14, cRows]
  obtain ⟨I, hI⟩ : ∃ I : Nat → St → Prop, ∀ k s', I k s' ↔ (∃ e i, s' = ⟨e, []⟩ ∧ e 0 = .one (.c (cRows rows)) ∧ e 3 = vI .i64 (i : Nat) ∧ i + k = rows.length ∧ ∀ j, j < i → ∀ h : j < rows.length, rows[j].length ≤ 300) := ⟨_, fun _ _ => Iff.rfl⟩
  refine wpL_ind I ?_ rows.length _ ((hI _ _).2 ⟨_, 0, rfl, by simp [cRows], by simp, by omega, by omega⟩)
  intro k st hst
  obtain ⟨e, i, rfl, e0, e3, hk, hall⟩ := (hI _ _).1 hst
  by_cases c : i < rows.length
  · have c' : (i : Int) < rows.length := by omega
    have w3 : IntKind.i64.wrap ((i : Int) + 1) = ((i + 1 : Nat) : Int) := by rw [w64_id (by omega) (by omega)]; omega
    by_cases z : 300 < (rows[i].length : Int)
    · have : smallB rows = false := by
        rw [smallB, Bool.and_eq_false_iff, List.all_eq_false]
        exact .inl ⟨rows[i], List.getElem_mem c, by simp; omega⟩
      simp [e0, e3, c, c', cRows, cRow, z, this]
    · simp [e0, e3, c, c', cRows, cRow, z, w3]
      refine ⟨k - 1, by omega, (hI _ _).2 ⟨_, i + 1, rfl, by simp [e0, cRows], by simp, by omega, fun j hj h => ?_⟩⟩
      by_cases hji : j = i
      · subst hji; omega
      · exact hall j (by omega) h
  · have c' : ¬ (i : Int) < rows.length := by omega
    have hs : smallB rows = decide ((rows.length : Int) < 20) := by
      have : rows.all (fun r => decide (r.length ≤ 300)) = true := by
        rw [List.all_eq_true]
        intro x hx
        obtain ⟨j, hj, rfl⟩ := List.getElem_of_mem hx
        simpa using hall j (by omega) hj
      rw [smallB, this, Bool.true_and]
      simp; omega
    rw [hs]
    simp [e0, e3, c', cRows]

theorem SumFits_iff (a b : List (List Int)) : SumFits a b ↔ ∀ i, ∀ h : i < a.length, ∀ q, ∀ h2 : q < a[i].length, fitsB (a[i][q] + (b.getD i []).getD q 0) = true := Iff.rfl
theorem sumRows_len (a b : List (List Int)) : (sumRows a b).length = a.length := sumTo_len ..
theorem sumRows_at (a b : List (List Int)) (i : Nat) (h : i < a.length) (h2 : i < (sumRows a b).length) : (sumRows a b)[i] = sumRow a[i].length a[i] (b.getD i []) := by
  simp [sumRows, sumTo, h]

def rowC (r : List Int) : List CV := [cRow r]
open Classical in
theorem ref12_Merge {s t : Int} {a b : List (List Int)} (oa : OkR a) (ob : OkR b) (hl : a.length = b.length) (hc0 : (a.headD []).length = (b.headD []).length) :
    TV.pu 26 [.agg (cSk s a), .agg (cSk t b)] = some (.tup [(true, cSk s (sumRows a b)), (false, [.v (.bool (decide (SumFits a b)))])]) := by
  refine run26 (by simp) ?_
  have l7 := oa.l7
  simp [Try.f26, cSk, vmove, isNil]
  obtain ⟨I, hI⟩ : ∃ I : Nat → St → Prop, ∀ k s', I k s' ↔ (∃ e h i ok L, s' = ⟨e, h⟩ ∧ h = .opn [[.c (.v (.int .u64 s)), .c (cRows a)]] false :: .opn [[.c (.v (.int .u64 t)), .c (cRows b)]] false :: .opn [[.c (.v (.int .u64 0)), .sl 3 0 0 0]] false :: .clo [] false :: .clo (tk rowC (sumRows a b) i) false :: L ∧
      e 2 = .one (.ptr ⟨0, 0, 0, 1⟩) ∧ e 3 = .one (.ptr ⟨1, 0, 0, 1⟩) ∧ e 4 = .one (.ptr ⟨2, 0, 0, 1⟩) ∧ e 6 = vB ok ∧ e 7 = .one (.sl 4 0 i i) ∧ e 8 = vI .i64 (i : Nat) ∧ i + k = a.length ∧
      (ok = true ↔ ∀ j, j < i → ∀ h : j < a.length, ∀ q, ∀ h2 : q < a[j].length, fitsB (a[j][q] + (b.getD j []).getD q 0) = true)) := ⟨_, fun _ _ => Iff.rfl⟩
  refine wpL_ind I ?_ a.length _ ((hI _ _).2 ⟨_, _, 0, true, _, rfl, by simp only [tk_zero]; rfl, by simp, by simp, by simp, by simp, by simp, by simp, by omega, by simp⟩)
  intro k st hst
  obtain ⟨e, h, i, ok, L, rfl, rfl, f2, f3, f4, f6, f7, f8, hk, hok⟩ := (hI _ _).1 hst
  by_cases c : i < a.length
  · have c' : (i : Int) < a.length := by omega
    have cb : i < b.length := by omega
    have hrw := oa.row a[i] (List.getElem_mem c)
    have w3 : IntKind.i64.wrap ((i : Int) + 1) = ((i + 1 : Nat) : Int) := by rw [w64_id (by omega) (by omega)]; omega
    have hbl : a[i].length = b[i].length := by
      have h1 := hrw.2.2.1
      have h2 := (ob.row b[i] (List.getElem_mem cb)).2.2.1
      omega
    have hbd : b.getD i [] = b[i] := by rw [List.getD_eq_getElem?_getD, List.getElem?_eq_getElem cb]; rfl
    simp [f2, f7, f8, c', cRows, cRow, vmove, isNil]
    obtain ⟨J, hJ⟩ : ∃ J : Nat → St → Prop, ∀ k s', J k s' ↔ (∃ e h q ok M, s' = ⟨e, h⟩ ∧ h = .opn [[.c (.v (.int .u64 s)), .c (cRows a)]] false :: .opn [[.c (.v (.int .u64 t)), .c (cRows b)]] false :: .opn [[.c (.v (.int .u64 0)), .sl 3 0 0 0]] false :: .clo [] false :: .clo (tk rowC (sumRows a b) i) false :: (L ++ .clo (tk cInt (sumRow a[i].length a[i] b[i]) q) false :: M) ∧
        e 2 = .one (.ptr ⟨0, 0, 0, 1⟩) ∧ e 3 = .one (.ptr ⟨1, 0, 0, 1⟩) ∧ e 4 = .one (.ptr ⟨2, 0, 0, 1⟩) ∧ e 6 = vB ok ∧ e 7 = .one (.sl 4 0 i i) ∧ e 8 = vI .i64 (i : Nat) ∧ e 9 = .one (.sl (L.length + 1 + 1 + 1 + 1 + 1) 0 q q) ∧ e 10 = vI .i64 (q : Nat) ∧ q + k = a[i].length ∧
        (ok = true ↔ (∀ j, j < i → ∀ h : j < a.length, ∀ q, ∀ h2 : q < a[j].length, fitsB (a[j][q] + (b.getD j []).getD q 0) = true) ∧ ∀ j, j < q → ∀ h : j < a[i].length, fitsB (a[i][j] + b[i].getD j 0) = true)) := ⟨_, fun _ _ => Iff.rfl⟩
    refine wpL_ind J ?_ a[i].length _ ((hJ _ _).2 ⟨_, _, 0, ok, _, rfl, by simp only [cRows, cRow, tk_zero]; rfl, by simp [f2], by simp [f3], by simp [f4], by simp [f6], by simp [f7], by simp [f8], by simp, by simp, by omega, by rw [hok]; simp⟩)
    intro k2 st hst
    obtain ⟨e, h, q, ok2, M, rfl, rfl, g2, g3, g4, g6, g7, g8, g9, g10, hk2, hok2⟩ := (hJ _ _).1 hst
    by_cases d : q < a[i].length
    · have d' : (q : Int) < a[i].length := by omega
      have db : q < b[i].length := by omega
      have hva := hrw.2.2.2 a[i][q] (List.getElem_mem d)
      have hvb := (ob.row b[i] (List.getElem_mem cb)).2.2.2 b[i][q] (List.getElem_mem db)
      have w1 : IntKind.i64.wrap (a[i][q] + b[i][q]) = a[i][q] + b[i][q] := w64_id (by omega) (by omega)
      have w4 : IntKind.i64.wrap ((q : Int) + 1) = ((q + 1 : Nat) : Int) := by rw [w64_id (by omega) (by omega)]; omega
      have hf2 := ref12_Fits (a[i][q] + b[i][q])
      have hsl : (sumRow a[i].length a[i] b[i]).length = a[i].length := sumRow_len ..
      have b1 : 8 * (q + 1) ≤ 70368744177664 := by omega
      have b2 : q + 1 ≤ 4611686018427387904 := by omega
      have hql : q < (sumRow a[i].length a[i] b[i]).length := by rw [hsl]; exact d
      have htl : (tk cInt (sumRow a[i].length a[i] b[i]) q).length = q := tk_len (by omega)
      have htm : AllLen (tk cInt (sumRow a[i].length a[i] b[i]) q) 1 := tk_allLen fun _ => rfl
      have htk : tk cInt (sumRow a[i].length a[i] b[i]) q ++ [[.v (.int .i64 (a[i][q] + b[i][q]))]] = tk cInt (sumRow a[i].length a[i] b[i]) (q + 1) := by
        rw [← tk_succ hql]
        simp [sumRow, d, db, cInt]
      have key : ∀ x : Bool, x = fitsB (a[i][q] + b[i][q]) → ((ok2 && x) = true ↔ (∀ j, j < i → ∀ h : j < a.length, ∀ q, ∀ h2 : q < a[j].length, fitsB (a[j][q] + (b.getD j []).getD q 0) = true) ∧ ∀ j, j < q + 1 → ∀ h : j < a[i].length, fitsB (a[i][j] + b[i].getD j 0) = true) := by
        rintro x rfl
        rw [Bool.and_eq_true, hok2]
        constructor
        · rintro ⟨⟨h1, h2⟩, h3⟩
          refine ⟨h1, fun j hj h => ?_⟩
          by_cases hjq : j = q
          · subst hjq
            rw [List.getD_eq_getElem?_getD, List.getElem?_eq_getElem db]
            exact h3
          · exact h2 j (by omega) h
        · rintro ⟨h1, h2⟩
          refine ⟨⟨h1, fun j hj h => h2 j (by omega) h⟩, ?_⟩
          have := h2 q (by omega) d
          rw [List.getD_eq_getElem?_getD, List.getElem?_eq_getElem db] at this
          exact this
      cases ok2 with
      | true =>
        simp [g2, g3, g6, g7, g8, g9, g10, c, cb, d, d', db, cRows, cRow, cInt, vmove, isNil, w1, w4, hf2, htl, htm, htk, b1, b2, vappend_sp es33 es33 el3, vbuildSlice_eq es33 el3, cellsOf?, fzParts, setAll, rchParts, rch, elemsOf]
        refine ⟨k2 - 1, by omega, (hJ _ _).2 ⟨_, _, q + 1, _, _, rfl, by simp only [cRows, cRow]; rfl, by simp [g2], by simp [g3], by simp [g4], by simp, by simp [g7], by simp [g8], by simp, by simp, by omega, key _ rfl⟩⟩
      | false =>
        simp [g2, g3, g6, g7, g8, g9, g10, c, cb, d, d', db, cRows, cRow, cInt, vmove, isNil, w1, w4, htl, htm, htk, b1, b2, vappend_sp es33 es33 el3, vbuildSlice_eq es33 el3, cellsOf?, fzParts, setAll, rchParts, rch, elemsOf]
        refine ⟨k2 - 1, by omega, (hJ _ _).2 ⟨_, _, q + 1, _, _, rfl, by simp only [cRows, cRow]; rfl, by simp [g2], by simp [g3], by simp [g4], by simp, by simp [g7], by simp [g8], by simp, by simp, by omega, key _ rfl⟩⟩
    · have d' : ¬ (q : Int) < a[i].length := by omega
      have hq : q = a[i].length := by omega
      subst hq
      have hsl : (sumRow a[i].length a[i] b[i]).length = a[i].length := sumRow_len ..
      have hrl : (sumRows a b).length = a.length := sumRows_len ..
      have hil : i < (sumRows a b).length := by rw [hrl]; exact c
      have hta := tk_all (f := cInt) (l := sumRow a[i].length a[i] b[i]) (i := a[i].length) (by omega)
      have htl : (tk rowC (sumRows a b) i).length = i := tk_len (by omega)
      have htm : AllLen (tk rowC (sumRows a b) i) 1 := tk_allLen fun _ => rfl
      have htk : tk rowC (sumRows a b) i ++ [[.arr ((sumRow a[i].length a[i] b[i]).map cInt)]] = tk rowC (sumRows a b) (i + 1) := by
        rw [← tk_succ hil, sumRows_at a b i c hil, hbd]
        rfl
      have b1 : 24 * (i + 1) ≤ 70368744177664 := by omega
      have b2 : i + 1 ≤ 4611686018427387904 := by omega
      have htt : ((sumRow a[i].length a[i] b[i]).map cInt).take a[i].length = (sumRow a[i].length a[i] b[i]).map cInt := List.take_of_length_le (by simp [hsl])
      simp -implicitDefEqProofs [-fzc, fz_sl, g2, g7, g8, g9, g10, c, d', cRows, cRow, hta, vmove, isNil, w3, hsl, htl, htm, htk, b1, b2, htt, vappend_sp es23 es23 el33, vbuildSlice_eq es23 el33, cellsOf?, fzParts, setAll, rchParts, rh_sl, frzAll, Ent.frz, elemsOf]
      refine ⟨k - 1, by omega, (hI _ _).2 ⟨_, _, i + 1, ok2, _, rfl, by simp only [cRows, cRow]; rfl, by simp [g2], by simp [g3], by simp [g4], by simp [g6], by simp, by simp, by omega, ?_⟩⟩
      rw [hok2]
      constructor
      · rintro ⟨h1, h2⟩ j hj h q hq
        by_cases hji : j = i
        · subst hji
          rw [hbd]
          exact h2 q hq hq
        · exact h1 j (by omega) h q hq
      · intro h1
        refine ⟨fun j hj h q hq => h1 j (by omega) h q hq, fun q hq h => ?_⟩
        have := h1 i (by omega) c q h
        rw [hbd] at this
        exact this
  · have c' : ¬ (i : Int) < a.length := by omega
    have hi : i = a.length := by omega
    subst hi
    have hta := tk_all (f := rowC) (l := sumRows a b) (i := a.length) (by rw [sumRows_len]; exact Nat.le_refl _)
    have htt : ((sumRows a b).map rowC).take a.length = (sumRows a b).map rowC := List.take_of_length_le (by simp [sumRows_len])
    have hdec : ok = decide (SumFits a b) := by
      rw [Bool.eq_iff_iff, hok, decide_eq_true_iff]
      exact ⟨fun h i hi q hq => h i hi hi q hq, fun h i _ hi q hq => h i hi q hq⟩
    have hrl : (sumRows a b).length = a.length := sumRows_len ..
    simp -implicitDefEqProofs [f2, f4, f6, f7, f8, c', cRows, hta, vstore, cellsOf?, Ent.wrO, wr, vmove, isNil]
    simp [qa, hrl, htt, hdec]
    exact fun _ _ => rfl
end Go.Proofs.YteaeigpeaneicaaF
end

section
namespace Go.Proofs.YteaeigpeaneicaaF
open Go Go.Proofs.Vm

theorem isI_one {k : IntKind} {x : CV} (h : isI k [x]) : ∃ n, x = .v (.int k n) ∧ k.min ≤ n ∧ n ≤ k.max := by
  obtain ⟨n, hx, hw⟩ := h
  cases hx
  simp only [Lit.wf, Bool.and_eq_true, decide_eq_true_eq] at hw
  exact ⟨n, rfl, hw⟩
theorem lawSignedNews_all : ∀ l, goodsSignedNews l → TV.pu 3 l = some (cB true) := by
  rintro l ⟨a, r, rfl, ⟨x, rfl, hx⟩, b, r2, rfl, ⟨y, rfl, hy⟩, c, r3, rfl, ⟨z, rfl, hz⟩, rfl⟩
  obtain ⟨n, rfl, _⟩ := isI_one hx
  obtain ⟨m, rfl, _⟩ := isI_one hy
  obtain ⟨k, rfl, _⟩ := isI_one hz
  exact law_SignedNews
end Go.Proofs.YteaeigpeaneicaaF
end

section
set_option maxRecDepth 8192
set_option maxHeartbeats 2000000
namespace Go.Proofs.YteaeigpeaneicaaF
open Go Go.Proofs.Vm

theorem smallB_iff (rows : List (List Int)) : smallB rows = true ↔ rows.length < 20 ∧ ∀ r ∈ rows, r.length ≤ 300 := by
  simp [smallB, and_comm]

open Classical in
theorem law_SignedMerges {s t : Int} {a b : List (List Int)} (ha : a.length < 9223372036854775807) (hb : b.length < 9223372036854775807) : TV.pu 7 [.agg (cSk s a), .agg (cSk t b)] = some (cB true) := by
  refine run7 (by simp) ?_
  have haw := law_awake
  have hsa := ref11_Small ha
  have hsb := ref11_Small hb
  simp only [cRows, cRow] at hsa hsb
  by_cases sa : smallB a = true
  case neg =>
    have sa : smallB a = false := by simpa using sa
    rw [sa] at hsa
    simp -implicitDefEqProofs [Try.f7, cSk, cRows, cRow, hsa, haw, vmove, isNil]
  by_cases sb : smallB b = true
  case neg =>
    have sb : smallB b = false := by simpa using sb
    rw [sa] at hsa
    rw [sb] at hsb
    simp -implicitDefEqProofs [Try.f7, cSk, cRows, cRow, hsa, hsb, haw, vmove, isNil]
  rw [sa] at hsa
  rw [sb] at hsb
  obtain ⟨la, la2⟩ := (smallB_iff a).1 sa
  obtain ⟨lb, lb2⟩ := (smallB_iff b).1 sb
  have ra := law_ref (seed := s) (rows := a)
  have rb := law_ref (seed := t) (rows := b)
  have ga := ref12_Right (seed := s) (rows := a) ha (fun x hx => by have := la2 x hx; omega)
  have gb := ref12_Right (seed := t) (rows := b) hb (fun x hx => by have := lb2 x hx; omega)
  by_cases g : okB a = true ∧ okB b = true ∧ s = t ∧ a.length = b.length ∧ (a.headD []).length = (b.headD []).length
  · obtain ⟨k1, k2, rfl, k4, k5⟩ := g
    have oa := (okB_iff a).1 k1
    have ob := (okB_iff b).1 k2
    have hm := signed_Merge (s := s) oa ob k4 k5
    have hz := ref12_Merge (s := s) (t := s) oa ob k4 k5
    rw [k1] at ga
    rw [k2] at gb
    have a0 : 0 < a.length := by have := oa.odd; omega
    have b0 : 0 < b.length := by omega
    have e1 : ∀ l : List (List Int), (h : 0 < l.length) → l.headD [] = l[0] := fun l h => by cases l with | nil => simp at h | cons a t => rfl
    have j4 : ((a.length : Int) != (b.length : Int)) = false := by simp; omega
    have j5 : ((a[0].length : Int) != (b[0].length : Int)) = false := by rw [e1 _ a0, e1 _ b0] at k5; simp; omega
    by_cases hf : SumFits a b
    · rw [if_pos hf] at hm
      rw [decide_eq_true hf] at hz
      have hl := sumRows_len a b
      have hl2 : ∀ x ∈ sumRows a b, x.length < 9223372036854775807 := by
        intro x hx
        obtain ⟨i, hi, rfl⟩ := List.getElem_of_mem hx
        have hia : i < a.length := by rw [← hl]; exact hi
        rw [sumRows_at a b i hia hi, sumRow_len]
        have := la2 _ (List.getElem_mem hia)
        omega
      have rm := law_ref (seed := s) (rows := sumRows a b)
      have he := ref12_Equal (s := s) (t := s) (a := sumRows a b) (b := sumRows a b) (by omega) hl2
      obtain ⟨m, hme⟩ : ∃ m, m = sumRows a b := ⟨_, rfl⟩
      rw [← hme] at hm hz rm he
      simp only [cSk, cRows, cRow] at ra rb ga gb hm hz rm he
      simp -implicitDefEqProofs [Try.f7, cSk, cRows, cRow, hsa, hsb, haw, ra, rb, ga, gb, hm, hz, rm, he, j4, j5, a0, b0, vstore, cellsOf?, Ent.wrO, wr, vmove, isNil]
    · rw [if_neg hf] at hm
      rw [decide_eq_false hf] at hz
      obtain ⟨m, hme⟩ : ∃ m, m = sumRows a b := ⟨_, rfl⟩
      rw [← hme] at hz
      simp only [cSk, cRows, cRow, List.map_nil] at ra rb ga gb hm hz
      simp -implicitDefEqProofs [Try.f7, cSk, cRows, cRow, hsa, hsb, haw, ra, rb, ga, gb, hm, hz, j4, j5, a0, b0, vstore, cellsOf?, Ent.wrO, wr, vmove, isNil]
  · have hm := signed_Merge_arg (s := s) (t := t) ha (fun x hx => by have := la2 x hx; omega) hb (fun x hx => by have := lb2 x hx; omega) g
    simp only [cSk, cRows, cRow, List.map_nil] at ra rb ga gb hm
    by_cases k1 : okB a = true
    · rw [k1] at ga
      by_cases k2 : okB b = true
      · rw [k2] at gb
        by_cases k3 : (s != t) = true
        · simp -implicitDefEqProofs [Try.f7, cSk, cRows, cRow, hsa, hsb, haw, ra, rb, ga, gb, hm, k3, vstore, cellsOf?, Ent.wrO, wr, vmove, isNil]
        have k3' : (s != t) = false := by simpa using k3
        by_cases k4 : ((a.length : Int) != (b.length : Int)) = true
        · simp -implicitDefEqProofs [Try.f7, cSk, cRows, cRow, hsa, hsb, haw, ra, rb, ga, gb, hm, k3', k4, vstore, cellsOf?, Ent.wrO, wr, vmove, isNil]
        have k4' : ((a.length : Int) != (b.length : Int)) = false := by simpa using k4
        have oa := ((okB_iff a).1 k1).odd
        have ob := ((okB_iff b).1 k2).odd
        have a0 : 0 < a.length := by omega
        have b0 : 0 < b.length := by omega
        have e1 : ∀ l : List (List Int), (h : 0 < l.length) → l.headD [] = l[0] := fun l h => by cases l with | nil => simp at h | cons a t => rfl
        have k5 : ((a[0].length : Int) != (b[0].length : Int)) = true := by
          simp only [bne_iff_ne, ne_eq]
          intro hh
          exact g ⟨k1, k2, by simpa using k3', by simp at k4'; omega, by rw [e1 _ a0, e1 _ b0]; omega⟩
        simp -implicitDefEqProofs [Try.f7, cSk, cRows, cRow, hsa, hsb, haw, ra, rb, ga, gb, hm, k3', k4', k5, a0, b0, vstore, cellsOf?, Ent.wrO, wr, vmove, isNil]
      · have k2 : okB b = false := by simpa using k2
        rw [k2] at gb
        simp -implicitDefEqProofs [Try.f7, cSk, cRows, cRow, hsa, hsb, haw, ra, rb, ga, gb, hm, vstore, cellsOf?, Ent.wrO, wr, vmove, isNil]
    · have k1 : okB a = false := by simpa using k1
      rw [k1] at ga
      simp -implicitDefEqProofs [Try.f7, cSk, cRows, cRow, hsa, hsb, haw, ra, rb, ga, hm, vstore, cellsOf?, Ent.wrO, wr, vmove, isNil]

/-- What a sketch of the law's arguments is. -/
theorem good25_of {l : List CV} (hl : l.length = 2) (h : good25 l) : ∃ s rows, l = cSk s rows ∧ 0 ≤ s ∧ s ≤ 18446744073709551615 ∧ rows.length < 9223372036854775807 := by
  obtain ⟨a, b, rfl, ⟨s, rfl, hs⟩, L, rfl, hL, hb⟩ := h
  simp only [Lit.wf, Bool.and_eq_true, decide_eq_true_eq] at hs
  obtain ⟨rows, rfl, _⟩ := map_of (f := fun r : List Int => [cRow r]) (g := fun _ => True) (L := L) (fun e he => by
    obtain ⟨_, R, rfl, hR, _⟩ := hL e he
    obtain ⟨r, rfl, _⟩ := map_of (f := cInt) (g := fun _ => True) (L := R) (fun e he => by
      obtain ⟨_, n, rfl, _⟩ := hR e he
      exact ⟨n, rfl, trivial⟩)
    exact ⟨r, rfl, trivial⟩)
  refine ⟨s, rows, rfl, hs.1, hs.2, ?_⟩
  rw [List.length_map] at hb
  omega

theorem lawSignedMerges_all : ∀ l, goodsSignedMerges l → TV.pu 7 l = some (cB true) := by
  rintro l ⟨a, r, rfl, ⟨x, rfl, hx, gx⟩, b, r2, rfl, ⟨y, rfl, hy, gy⟩, rfl⟩
  obtain ⟨s, rows, rfl, _, _, h1⟩ := good25_of hx gx
  obtain ⟨t, rows2, rfl, _, _, h2⟩ := good25_of hy gy
  exact law_SignedMerges h1 h2
end Go.Proofs.YteaeigpeaneicaaF
end

section
set_option maxRecDepth 8192
set_option maxHeartbeats 1000000
namespace Go.Proofs.YteaeigpeaneicaaF
open Go Go.Proofs.Vm

/-! Sums of items, cell by cell. -/
abbrev Sh := Nat → Nat → Nat → Int
def shiftR (f : Sh) (rows : List (List Int)) : List (List Int) := rows.mapIdx fun i r => r.mapIdx fun q v => v + f i r.length q
def one1 (seed : Int) (key : ByteArray) (n : Int) : Sh := fun i len q => if (scell seed key (i : Int) (len : Int)).toNat = q then ssign seed key (i : Int) * n else 0
def dlt (seed : Int) : List Itm → Sh
  | [], _, _, _ => 0
  | x :: t, i, len, q => one1 seed x.1 x.2 i len q + dlt seed t i len q

theorem shiftR_len (f : Sh) (rows : List (List Int)) : (shiftR f rows).length = rows.length := by simp [shiftR]
theorem shiftR_at (f : Sh) (rows : List (List Int)) (i : Nat) (h : i < rows.length) (h2 : i < (shiftR f rows).length) : (shiftR f rows)[i] = rows[i].mapIdx fun q v => v + f i rows[i].length q := by simp [shiftR]
theorem ext2 {a b : List (List Int)} (h : a.length = b.length) (h2 : ∀ i, ∀ h1 : i < a.length, ∀ h2 : i < b.length, a[i].length = b[i].length ∧ ∀ q, ∀ g1 : q < a[i].length, ∀ g2 : q < b[i].length, a[i][q] = b[i][q]) : a = b := by
  apply List.ext_getElem h
  intro i g1 g2
  obtain ⟨h3, h4⟩ := h2 i g1 g2
  exact List.ext_getElem h3 h4
theorem addRows_shift (seed : Int) (key : ByteArray) (n : Int) (rows : List (List Int)) : addRows seed key n rows = shiftR (one1 seed key n) rows := by
  apply List.ext_getElem
  · rw [addRows_len, shiftR_len]
  · intro i h1 h2
    have h : i < rows.length := by rw [addRows_len] at h1; exact h1
    rw [addRows_at i h, shiftR_at _ _ i h]
    apply List.ext_getElem
    · simp [updRow]
    · intro q g1 g2
      simp only [updRow, List.getElem_set, List.getElem_mapIdx, one1]
      by_cases c : (scell seed key (i : Int) rows[i].length).toNat = q
      · rw [if_pos c, if_pos c]
        have hq : q < rows[i].length := by simpa [updRow] using g1
        simp [newV, c, hq]
      · rw [if_neg c, if_neg c, Int.add_zero]
theorem shiftR_shiftR (f g : Sh) (rows : List (List Int)) : shiftR g (shiftR f rows) = shiftR (fun i len q => f i len q + g i len q) rows := by
  apply ext2
  · simp [shiftR_len]
  · intro i h1 h2
    have h : i < rows.length := by rw [shiftR_len] at h2; exact h2
    have h' : i < (shiftR f rows).length := by rw [shiftR_len]; exact h
    rw [shiftR_at _ _ i h', shiftR_at _ _ i h, shiftR_at _ _ i h]
    refine ⟨by simp, fun q g1 g2 => ?_⟩
    simp [Int.add_assoc]
theorem shiftR_congr {f g : Sh} (h : ∀ i len q, f i len q = g i len q) (rows : List (List Int)) : shiftR f rows = shiftR g rows := by
  have : f = g := by funext i len q; exact h i len q
  rw [this]
theorem shiftR_zero (rows : List (List Int)) : shiftR (fun _ _ _ => 0) rows = rows := by
  apply ext2
  · simp [shiftR_len]
  · intro i h1 h2
    rw [shiftR_at _ _ i h2]
    exact ⟨by simp, fun q g1 g2 => by simp⟩
theorem addAll_shift (seed : Int) : ∀ (l : List Itm) (rows : List (List Int)), addAll seed rows l = shiftR (dlt seed l) rows
  | [], rows => by
    rw [show dlt seed [] = fun _ _ _ => 0 from by funext i len q; rfl, shiftR_zero]; rfl
  | x :: t, rows => by
    rw [show addAll seed rows (x :: t) = addAll seed (addRows seed x.1 x.2 rows) t from rfl, addAll_shift seed t, addRows_shift, shiftR_shiftR]
    rfl
theorem dlt_append (seed : Int) (a b : List Itm) (i len q : Nat) : dlt seed (a ++ b) i len q = dlt seed a i len q + dlt seed b i len q := by
  induction a with
  | nil => simp [dlt]
  | cons x t ih => simp only [List.cons_append, dlt, ih]; omega
theorem addAll_swap (seed : Int) (a b : List Itm) (rows : List (List Int)) : addAll seed (addAll seed rows a) b = addAll seed (addAll seed rows b) a := by
  rw [addAll_shift, addAll_shift, addAll_shift, addAll_shift, shiftR_shiftR, shiftR_shiftR]
  exact shiftR_congr (fun i len q => Int.add_comm _ _) _
def negI (x : Itm) : Itm := (x.1, -x.2)
theorem dlt_neg (seed : Int) (b : List Itm) (i len q : Nat) : dlt seed (b.map negI) i len q = -dlt seed b i len q := by
  induction b with
  | nil => simp [dlt]
  | cons x t ih =>
    simp only [List.map_cons, dlt, ih, one1, negI]
    split
    · rw [Int.mul_neg]; omega
    · omega
theorem addAll_away (seed : Int) (a b : List Itm) (rows : List (List Int)) : addAll seed (addAll seed (addAll seed rows a) b) (b.map negI) = addAll seed rows a := by
  rw [addAll_shift, addAll_shift, addAll_shift, shiftR_shiftR, shiftR_shiftR]
  exact shiftR_congr (fun i len q => by rw [dlt_neg]; omega) _
theorem addAll_len (seed : Int) (l : List Itm) (rows : List (List Int)) : (addAll seed rows l).length = rows.length := by rw [addAll_shift, shiftR_len]
theorem addAll_rowlen (seed : Int) (l : List Itm) (rows : List (List Int)) (i : Nat) (h : i < rows.length) (h2 : i < (addAll seed rows l).length) : (addAll seed rows l)[i].length = rows[i].length := by
  have : (addAll seed rows l)[i] = (shiftR (dlt seed l) rows)[i]'(by rw [shiftR_len]; exact h) := by simp only [addAll_shift]
  rw [this, shiftR_at _ _ i h]
  simp
theorem sum_adds (seed : Int) (a b : List Itm) {rows : List (List Int)} (hz : Within 0 rows) : sumRows (addAll seed rows a) (addAll seed rows b) = addAll seed (addAll seed rows a) b := by
  rw [addAll_shift seed b (addAll seed rows a), addAll_shift seed a, addAll_shift seed b, shiftR_shiftR]
  apply ext2
  · rw [sumRows_len, shiftR_len, shiftR_len]
  · intro i h1 h2
    have h : i < rows.length := by rw [shiftR_len] at h2; exact h2
    have ha : i < (shiftR (dlt seed a) rows).length := by rw [shiftR_len]; exact h
    have hb : i < (shiftR (dlt seed b) rows).length := by rw [shiftR_len]; exact h
    rw [sumRows_at _ _ i ha h1, List.getD_eq_getElem?_getD, List.getElem?_eq_getElem hb, shiftR_at _ _ i h, shiftR_at _ _ i h, shiftR_at _ _ i h]
    refine ⟨by simp [sumRow], fun q g1 g2 => ?_⟩
    have hq : q < rows[i].length := by simpa using g2
    have := hz _ (List.getElem_mem h) _ (List.getElem_mem hq)
    have e : rows[i][q] = 0 := by omega
    simp [sumRow, hq, e]
theorem addAll_within {seed : Int} : ∀ {l : List Itm} {B : Int} {rows : List (List Int)}, Within B rows → OkR rows → 0 ≤ B → B + l.length * 1073741824 ≤ 1099511627776 → (∀ x ∈ l, ItemOk x) →
    Within (B + l.length * 1073741824) (addAll seed rows l) ∧ OkR (addAll seed rows l)
  | [], B, rows, hw, ho, _, _, _ => by simpa [addAll] using ⟨hw, ho⟩
  | x :: t, B, rows, hw, ho, h0, hB, hl => by
    have hx := (hl x List.mem_cons_self).2
    have hlen : ((x :: t).length : Int) = (t.length : Int) + 1 := by simp
    rw [hlen] at hB ⊢
    have w1 := addRows_within (N := 1073741824) hw ho (seed := seed) (key := x.1) hx
    have o1 := addRows_ok (N := 1073741824) hw ho (seed := seed) (key := x.1) hx (by omega)
    have := addAll_within (seed := seed) (l := t) w1 o1 (by omega) (by omega) (fun y hy => hl y (List.mem_cons_of_mem _ hy))
    refine ⟨?_, this.2⟩
    rw [show B + ((t.length : Int) + 1) * 1073741824 = B + 1073741824 + t.length * 1073741824 by omega]
    exact this.1
end Go.Proofs.YteaeigpeaneicaaF
end

section
set_option maxRecDepth 8192
set_option maxHeartbeats 2000000
namespace Go.Proofs.YteaeigpeaneicaaF
open Go Go.Proofs.Vm

theorem tk_one {α β : Type} {f : α → β} {l : List α} {i : Nat} (h : i < l.length) {y : β} (hy : y = f l[i]) : tk f l i ++ [y] = tk f l (i + 1) := by rw [hy, tk_succ h]

theorem law_SignedOrder {seed rows cols : Int} {a b : List Itm} (h0 : 0 ≤ seed) (h1 : seed < 18446744073709551616) (ha : a.length < 9223372036854775807) (hb : b.length < 9223372036854775807) :
    TV.pu 8 [cI .u64 seed, cI .i64 rows, cI .i64 cols, .one (cItems a), .one (cItems b)] = some (cB true) := by
  refine run8 (by simp) ?_
  have haw := law_awake
  obtain ⟨fa, hfa, ga⟩ := law_few ha
  obtain ⟨fb, hfb, gb⟩ := law_few hb
  simp only [cItems] at ga gb
  by_cases h : newOk rows cols
  case neg =>
    have a0 := signed_New_arg (seed := seed) h
    simp only [cSk, cRows, List.map_nil] at a0
    simp -implicitDefEqProofs [Try.f8, a0, haw, cItems, vstore, cellsOf?, Ent.wrO, wr, vmove, isNil]
  obtain ⟨R0, hR0⟩ : ∃ R, R = List.replicate rows.toNat (List.replicate cols.toNat (0 : Int)) := ⟨_, rfl⟩
  have a0 := signed_New (seed := seed) h
  have o0 := new_ok h
  have w0 := new_within (rows := rows) (cols := cols)
  rw [← hR0] at a0 o0 w0
  simp only [cSk, cRows, cRow] at a0
  by_cases z1 : fa = true
  case neg =>
    have z1 : fa = false := by simpa using z1
    rw [z1] at ga
    simp -implicitDefEqProofs [Try.f8, a0, ga, haw, cItems, vstore, cellsOf?, Ent.wrO, wr, vmove, isNil]
  by_cases z2 : fb = true
  case neg =>
    have z2 : fb = false := by simpa using z2
    rw [z1] at ga
    rw [z2] at gb
    simp -implicitDefEqProofs [Try.f8, a0, ga, gb, haw, cItems, vstore, cellsOf?, Ent.wrO, wr, vmove, isNil]
  rw [z1] at ga
  rw [z2] at gb
  obtain ⟨la, ia⟩ := hfa.1 z1
  obtain ⟨lb, ib⟩ := hfb.1 z2
  have A1 := addAll_within (seed := seed) (l := a) w0 o0 (by omega) (by omega) ia
  have B1 := addAll_within (seed := seed) (l := b) w0 o0 (by omega) (by omega) ib
  have AB1 := addAll_within (seed := seed) (l := b) A1.1 A1.2 (by omega) (by omega) ib
  have ib' : ∀ x ∈ b.map negI, ItemOk x := by
    intro x hx
    obtain ⟨y, hy, rfl⟩ := List.mem_map.1 hx
    obtain ⟨h1, h2, h3⟩ := ib y hy
    exact ⟨h1, by simp only [negI]; omega, by simp only [negI]; omega⟩
  have cA := law_adds (l := a) h0 h1 o0 w0 (by omega) (by omega) ia
  have cB' := law_adds (l := b) h0 h1 o0 w0 (by omega) (by omega) ib
  have cAB := law_adds (l := b) h0 h1 A1.2 A1.1 (by omega) (by omega) ib
  have cBA := law_adds (l := a) h0 h1 B1.2 B1.1 (by omega) (by omega) ia
  rw [addAll_swap seed b a R0] at cBA
  have hbl : (b.map negI).length = b.length := by simp
  have cZ := law_adds (l := b.map negI) h0 h1 AB1.2 AB1.1 (by omega) (by rw [hbl]; omega) ib'
  rw [addAll_away] at cZ
  have sums := sum_adds seed a b w0
  have hlA := addAll_len seed a R0
  have hlB := addAll_len seed b R0
  have hlAB := addAll_len seed b (addAll seed R0 a)
  have hf : SumFits (addAll seed R0 a) (addAll seed R0 b) := by
    intro i hi q hq
    rw [fitsB_iff]
    have hA := A1.1 _ (List.getElem_mem hi) _ (List.getElem_mem hq)
    have hB : -(0 + (b.length : Int) * 1073741824) ≤ ((addAll seed R0 b).getD i []).getD q 0 ∧ ((addAll seed R0 b).getD i []).getD q 0 ≤ 0 + (b.length : Int) * 1073741824 := by
      rw [List.getD_eq_getElem?_getD, List.getD_eq_getElem?_getD]
      cases h3 : (addAll seed R0 b)[i]? with
      | none => simp; omega
      | some r =>
        simp only [Option.getD_some]
        cases h4 : r[q]? with
        | none => simp; omega
        | some v => exact B1.1 r (List.mem_of_getElem? h3) v (List.mem_of_getElem? h4)
    omega
  have hc0 : ((addAll seed R0 a).headD []).length = ((addAll seed R0 b).headD []).length := by
    have r0 : 0 < R0.length := by have := o0.odd; omega
    have e1 : ∀ l : List (List Int), (h : 0 < l.length) → l.headD [] = l[0] := fun l h => by cases l with | nil => simp at h | cons a t => rfl
    rw [e1 _ (by omega), e1 _ (by omega), addAll_rowlen seed a R0 0 r0, addAll_rowlen seed b R0 0 r0]
  have hM := signed_Merge (s := seed) A1.2 B1.2 (by omega) hc0
  rw [if_pos hf, sums] at hM
  have l7 := A1.2.l7
  have rAB := law_ref (seed := seed) (rows := addAll seed (addAll seed R0 a) b)
  have rA := law_ref (seed := seed) (rows := addAll seed R0 a)
  have eAB := ref12_Equal (s := seed) (t := seed) (a := addAll seed (addAll seed R0 a) b) (b := addAll seed (addAll seed R0 a) b) (by omega) (fun x hx => by have := (AB1.2.row x hx).2.1; omega)
  have eA := ref12_Equal (s := seed) (t := seed) (a := addAll seed R0 a) (b := addAll seed R0 a) (by omega) (fun x hx => by have := (A1.2.row x hx).2.1; omega)
  obtain ⟨bn, hbn⟩ : ∃ bn, bn = b.map negI := ⟨_, rfl⟩
  have hbg : ∀ i, ∀ h : i < b.length, ∀ h2 : i < bn.length, cItem bn[i] = [.v (.string b[i].1), .v (.int .i64 (-b[i].2))] := by subst hbn; intro i h h2; simp [cItem, negI]
  rw [← hbn] at cZ hbl
  obtain ⟨A, hA⟩ : ∃ A, A = addAll seed R0 a := ⟨_, rfl⟩
  obtain ⟨B, hB⟩ : ∃ B, B = addAll seed R0 b := ⟨_, rfl⟩
  rw [← hA] at cA cAB cBA cZ hM rAB rA eAB eA
  rw [← hB] at cB' cBA hM
  obtain ⟨AB, hAB⟩ : ∃ AB, AB = addAll seed A b := ⟨_, rfl⟩
  rw [← hAB] at cAB cBA cZ hM rAB eAB
  simp only [cSk, cRows, cRow, cItems] at cA cB' cAB cBA cZ hM rAB rA eAB eA
  simp -implicitDefEqProofs [Try.f8, a0, ga, gb, cItems, cA, cB', cAB, cBA, hM, vstore, cellsOf?, Ent.wrO, wr, vmove, isNil]
  obtain ⟨I, hI⟩ : ∃ I : Nat → St → Prop, ∀ k s', I k s' ↔ (∃ e h i L, s' = ⟨e, h⟩ ∧ h = .opn [[.c (.v (.int .u64 seed)), .c (cRows R0)]] false :: .clo [] false :: .opn [[.c (.v (.int .u64 seed)), .c (cRows AB)]] false :: .clo [] false :: .opn [[.c (.v (.int .u64 seed)), .c (cRows AB)]] false :: .clo [] false :: .opn [[.c (.v (.int .u64 seed)), .c (cRows AB)]] false :: .clo [] false :: .clo (tk cItem bn i) false :: L ∧
      e 3 = .one (.c (cItems a)) ∧ e 11 = .one (.ptr ⟨0, 0, 0, 1⟩) ∧ e 13 = .one (.ptr ⟨2, 0, 0, 1⟩) ∧ e 14 = .one (.ptr ⟨4, 0, 0, 1⟩) ∧ e 15 = .one (.ptr ⟨6, 0, 0, 1⟩) ∧ e 16 = vI .i64 0 ∧ e 17 = .one (.sl 8 0 i i) ∧
      e 61 = .one (.c (cItems b)) ∧ e 62 = vI .i64 b.length ∧ e 63 = vI .i64 (i : Nat) ∧ i + k = b.length) := ⟨_, fun _ _ => Iff.rfl⟩
  refine wpL_ind I ?_ b.length _ ((hI _ _).2 ⟨_, _, 0, _, rfl, by simp only [tk_zero, cRows, cRow]; rfl, by simp [cItems], by simp, by simp, by simp, by simp, by simp, by simp, by simp [cItems], by simp, by simp, by omega⟩)
  intro k st hst
  obtain ⟨e, h, i, L, rfl, rfl, f3, f11, f13, f14, f15, f16, f17, f61, f62, f63, hk⟩ := (hI _ _).1 hst
  by_cases c : i < b.length
  · have c' : (i : Int) < b.length := by omega
    have hi := ib b[i] (List.getElem_mem c)
    have w3 : IntKind.i64.wrap ((i : Int) + 1) = ((i + 1 : Nat) : Int) := by rw [w64_id (by omega) (by omega)]; omega
    have w5 : IntKind.i64.wrap (-b[i].2) = -b[i].2 := w64_id (by have := hi.2; omega) (by have := hi.2; omega)
    have hil : i < bn.length := by rw [hbl]; exact c
    have htl : (tk cItem bn i).length = i := tk_len (by omega)
    have htm : AllLen (tk cItem bn i) 2 := tk_allLen fun _ => rfl
    have htk : tk cItem bn i ++ [[.v (.string b[i].1), .v (.int .i64 (-b[i].2))]] = tk cItem bn (i + 1) := tk_one hil (hbg i c hil).symm
    have b1 : 24 * (i + 1) ≤ 70368744177664 := by omega
    have b2 : i + 1 ≤ 4611686018427387904 := by omega
    simp -implicitDefEqProofs [-fzc, fz_v, f17, f61, f62, f63, c, c', cItems, cItem, vmove, isNil, w3, w5, htl, htm, htk, b1, b2, vstore, vappend_sp es48 es48 el52, vbuildSlice_eq es48 el52, cellsOf?, fzParts, setAll, rchParts, elemsOf, Ent.wrO, wr]
    exact ⟨k - 1, by omega, (hI _ _).2 ⟨_, _, i + 1, _, rfl, rfl, by simp [f3, cItems], by simp [f11], by simp [f13], by simp [f14], by simp [f15], by simp [f16], by simp, by simp [f61, cItems], by simp [f62], by simp, by omega⟩⟩
  · have c' : ¬ (i : Int) < b.length := by omega
    have hi : i = b.length := by omega
    subst hi
    have hta := tk_all (f := cItem) (l := bn) (i := b.length) (by rw [hbl]; exact Nat.le_refl _)
    have htt : (bn.map cItem).take b.length = bn.map cItem := List.take_of_length_le (by simp [hbl])
    simp -implicitDefEqProofs [-fzc, fz_v, fz_arr, fz_sl, rh_sl, rcha, frzAll, Ent.frz, f3, f11, f13, f14, f15, f16, f17, f62, f63, c', cItems, cRows, cRow, hta, hbl, htt, cA, cZ, rAB, rA, eAB, eA, haw, vmove, isNil, vstore, cellsOf?, Ent.wrO, wr]
theorem good48_of {x : CV} (h : good48 [x]) : ∃ l : List Itm, x = cItems l ∧ l.length < 9223372036854775807 := by
  obtain ⟨L, hx, hL, hb⟩ := h
  cases hx
  obtain ⟨l, rfl, _⟩ := map_of (f := cItem) (g := fun _ => True) (L := L) (fun e he => by
    obtain ⟨_, a, b, rfl, ⟨s, rfl, _⟩, n, rfl, _⟩ := hL e he
    exact ⟨(s, n), rfl, trivial⟩)
  refine ⟨l, rfl, ?_⟩
  rw [List.length_map] at hb
  omega
theorem isS_one {x : CV} (h : isS [x]) : ∃ s : ByteArray, x = .v (.string s) ∧ s.size ≤ 140737488351232 := by
  obtain ⟨s, hx, hs⟩ := h
  cases hx
  exact ⟨s, rfl, hs⟩
theorem lawSignedOrder_all : ∀ l, goodsSignedOrder l → TV.pu 8 l = some (cB true) := by
  rintro l ⟨a, r, rfl, ⟨x, rfl, hx⟩, b, r2, rfl, ⟨y, rfl, hy⟩, c, r3, rfl, ⟨z, rfl, hz⟩, d, r4, rfl, ⟨u, rfl, hu⟩, e, r5, rfl, ⟨v, rfl, hv⟩, rfl⟩
  obtain ⟨n, rfl, h1, h2⟩ := isI_one hx
  obtain ⟨m, rfl, _⟩ := isI_one hy
  obtain ⟨k, rfl, _⟩ := isI_one hz
  obtain ⟨p, rfl, hp⟩ := good48_of hu
  obtain ⟨q, rfl, hq⟩ := good48_of hv
  exact law_SignedOrder h1 (by have : IntKind.u64.max = 18446744073709551615 := rfl; omega) hp hq
end Go.Proofs.YteaeigpeaneicaaF
end

section
set_option maxRecDepth 8192
set_option maxHeartbeats 1000000
namespace Go.Proofs.YteaeigpeaneicaaF
open Go Go.Proofs.Vm

theorem srt_length (l : List Int) : (srt l).length = l.length := by simp [srt]
theorem srt_perm (l : List Int) : (srt l).Perm l := List.mergeSort_perm l _
theorem srt_sorted (l : List Int) : (srt l).Pairwise (fun x y => x ≤ y) := by
  have h := List.pairwise_mergeSort (le := fun x y : Int => decide (x ≤ y)) (fun a b c h1 h2 => by simp at *; omega) (fun a b => by simp; omega) l
  exact h.imp (fun h => by simpa using h)
theorem srt_le (l : List Int) (i j : Nat) (hij : i ≤ j) (hj : j < (srt l).length) : (srt l)[i] ≤ (srt l)[j] := by
  by_cases e : i = j
  · subst e; exact Int.le_refl _
  · exact List.pairwise_iff_getElem.1 (srt_sorted l) i j (by omega) hj (by omega)
theorem count_take (l : List Int) (p : Int → Bool) (m : Nat) (hp : ∀ i, i < m → ∀ (h : i < l.length), p l[i] = true) (hm : m ≤ l.length) : m ≤ l.countP p := by
  have e := List.take_append_drop m l
  rw [← e, List.countP_append]
  have : (l.take m).countP p = (l.take m).length := List.countP_eq_length.2 (fun x hx => by
    obtain ⟨i, hi, rfl⟩ := List.getElem_of_mem hx
    rw [List.length_take] at hi
    rw [List.getElem_take]
    exact hp i (by omega) (by omega))
  rw [this, List.length_take]; omega
theorem count_drop (l : List Int) (p : Int → Bool) (m : Nat) (hp : ∀ i, m ≤ i → ∀ (h : i < l.length), p l[i] = true) : l.length - m ≤ l.countP p := by
  have e := List.take_append_drop m l
  rw [← e, List.countP_append]
  have : (l.drop m).countP p = (l.drop m).length := List.countP_eq_length.2 (fun x hx => by
    obtain ⟨i, hi, rfl⟩ := List.getElem_of_mem hx
    rw [List.length_drop] at hi
    rw [List.getElem_drop]
    exact hp (m + i) (by omega) (by omega))
  rw [this, List.length_drop, List.take_append_drop]; omega
theorem count_none (l : List Int) (p : Int → Bool) (m : Nat) (hp : ∀ i, m ≤ i → ∀ (h : i < l.length), p l[i] = false) : l.countP p ≤ m := by
  have e := List.take_append_drop m l
  rw [← e, List.countP_append]
  have h2 : (l.drop m).countP p = 0 := List.countP_eq_zero.2 (fun x hx => by
    obtain ⟨i, hi, rfl⟩ := List.getElem_of_mem hx
    rw [List.length_drop] at hi
    rw [List.getElem_drop, hp (m + i) (by omega) (by omega)]
    simp)
  have h1 : (l.take m).countP p ≤ (l.take m).length := List.countP_le_length
  rw [List.length_take] at h1
  omega
theorem count_none' (l : List Int) (p : Int → Bool) (m : Nat) (hp : ∀ i, i < m → ∀ (h : i < l.length), p l[i] = false) : l.countP p ≤ l.length - m := by
  have e := List.take_append_drop m l
  have h2 : (l.take m).countP p = 0 := List.countP_eq_zero.2 (fun x hx => by
    obtain ⟨i, hi, rfl⟩ := List.getElem_of_mem hx
    rw [List.length_take] at hi
    rw [List.getElem_take, hp i (by omega) (by omega)]
    simp)
  have h1 : (l.drop m).countP p ≤ (l.drop m).length := List.countP_le_length
  rw [List.length_drop] at h1
  have h3 : l.countP p = (l.take m).countP p + (l.drop m).countP p := by rw [← List.countP_append, e]
  omega
theorem med_get {l : List Int} (h : l ≠ []) : ∃ hm : l.length / 2 < (srt l).length, med l = (srt l)[l.length / 2] := by
  have hp : 0 < l.length := List.length_pos_iff.2 h
  have hm : l.length / 2 < (srt l).length := by rw [srt_length]; omega
  exact ⟨hm, by unfold med; rw [List.getD_eq_getElem?_getD, List.getElem?_eq_getElem hm]; rfl⟩
/-- More than half of a list's numbers are at least so big: then so is the middle one. -/
theorem med_ge {l : List Int} (h : l ≠ []) (v : Int) (hc : l.length / 2 < l.countP (fun x => decide (v ≤ x))) : v ≤ med l := by
  obtain ⟨hm, e⟩ := med_get h
  rw [← (srt_perm l).countP_eq] at hc
  rw [e]
  by_cases c : v ≤ (srt l)[l.length / 2]
  · exact c
  · exfalso
    have hl := srt_length l
    have h1 := count_none' (srt l) (fun x => decide (v ≤ x)) (l.length / 2 + 1) (fun i hi hx => decide_eq_false (by
      have := srt_le l i (l.length / 2) (by omega) hm
      omega))
    omega
theorem med_le {l : List Int} (h : l ≠ []) (ho : l.length % 2 = 1) (v : Int) (hc : l.length / 2 < l.countP (fun x => decide (x ≤ v))) : med l ≤ v := by
  obtain ⟨hm, e⟩ := med_get h
  rw [← (srt_perm l).countP_eq] at hc
  rw [e]
  by_cases c : (srt l)[l.length / 2] ≤ v
  · exact c
  · exfalso
    have h1 := count_none (srt l) (fun x => decide (x ≤ v)) (l.length / 2) (fun i hi hx => decide_eq_false (by
      have := srt_le l (l.length / 2) i hi hx
      omega))
    omega
/-- What was added for the key, and for the others of its cell in row i (of so many cells). -/
def ownS (key : ByteArray) : List Itm → Int
  | [] => 0
  | x :: t => (if x.1 = key then x.2 else 0) + ownS key t
def othS (seed : Int) (key : ByteArray) (cols : Nat) (i : Nat) : List Itm → Int
  | [] => 0
  | x :: t => (if x.1 = key then 0 else if scell seed x.1 (i : Int) (cols : Int) = scell seed key (i : Int) (cols : Int) then max x.2 (-x.2) else 0) + othS seed key cols i t
theorem ownS_bound (key : ByteArray) (l : List Itm) (hi : ∀ x ∈ l, ItemOk x) : -((l.length : Int) * 1073741824) ≤ ownS key l ∧ ownS key l ≤ (l.length : Int) * 1073741824 := by
  induction l with
  | nil => simp [ownS]
  | cons x t ih =>
    have hx := hi x (List.mem_cons_self ..)
    have h := ih (fun y hy => hi y (List.mem_cons_of_mem _ hy))
    have hlen : ((x :: t).length : Int) = (t.length : Int) + 1 := by simp
    obtain ⟨_, a, b⟩ := hx
    rw [hlen]
    unfold ownS
    split <;> omega
theorem othS_bound (seed : Int) (key : ByteArray) (cols i : Nat) (l : List Itm) (hi : ∀ x ∈ l, ItemOk x) : 0 ≤ othS seed key cols i l ∧ othS seed key cols i l ≤ (l.length : Int) * 1073741824 := by
  induction l with
  | nil => simp [othS]
  | cons x t ih =>
    have hx := hi x (List.mem_cons_self ..)
    have h := ih (fun y hy => hi y (List.mem_cons_of_mem _ hy))
    have hlen : ((x :: t).length : Int) = (t.length : Int) + 1 := by simp
    obtain ⟨_, a, b⟩ := hx
    rw [hlen]
    unfold othS
    split
    · omega
    · split <;> omega
/-- What is told of a key in row i. -/
def told (seed : Int) (key : ByteArray) (cols i : Nat) (l : List Itm) : Int := ssign seed key (i : Int) * dlt seed l i cols (scell seed key (i : Int) (cols : Int)).toNat
theorem told_near (seed : Int) (key : ByteArray) (cols i : Nat) (hc : 1 ≤ cols) : ∀ l : List Itm, ownS key l - othS seed key cols i l ≤ told seed key cols i l ∧ told seed key cols i l ≤ ownS key l + othS seed key cols i l
  | [] => by simp [told, ownS, othS, dlt]
  | x :: t => by
    have ih := told_near seed key cols i hc t
    have cx := hcell_range (hrow seed (2 * (i : Int))) x.1 (cols : Int) (by omega)
    have ck := hcell_range (hrow seed (2 * (i : Int))) key (cols : Int) (by omega)
    have e1 : told seed key cols i (x :: t) = ssign seed key (i : Int) * one1 seed x.1 x.2 i cols (scell seed key (i : Int) (cols : Int)).toNat + told seed key cols i t := by
      simp only [told, dlt, Int.mul_add]
    rw [e1]
    simp only [ownS, othS, one1]
    by_cases e : x.1 = key
    · rw [if_pos e, if_pos e, if_pos (by rw [e]), e, ← Int.mul_assoc, ssign_sq, Int.one_mul]
      omega
    · rw [if_neg e, if_neg e]
      by_cases c : scell seed x.1 (i : Int) (cols : Int) = scell seed key (i : Int) (cols : Int)
      · rw [if_pos c, if_pos (by rw [c])]
        rcases ssign_or seed key (i : Int) with h1 | h1 <;> rcases ssign_or seed x.1 (i : Int) with h2 | h2 <;> rw [h1, h2] <;> omega
      · have cx1 : 0 ≤ scell seed x.1 (i : Int) (cols : Int) := cx.1
        have ck1 : 0 ≤ scell seed key (i : Int) (cols : Int) := ck.1
        rw [if_neg c, if_neg (by omega)]
        omega
theorem getL_zero {seed : Int} {key : ByteArray} {rows : List (List Int)} {cols : Nat} (l : List Itm) (hz : Within 0 rows) (hr : ∀ r ∈ rows, r.length = cols) (hc : 1 ≤ cols) (i : Nat) (h : i < rows.length) (h2 : i < (getL seed key (addAll seed rows l)).length) :
    (getL seed key (addAll seed rows l))[i] = told seed key cols i l := by
  have hl := hr _ (List.getElem_mem h)
  have ck := hcell_range (hrow seed (2 * (i : Int))) key (cols : Int) (by omega)
  have ck1 : 0 ≤ scell seed key (i : Int) (cols : Int) := ck.1
  have ck2 : scell seed key (i : Int) (cols : Int) < cols := ck.2
  have hq : (scell seed key (i : Int) (cols : Int)).toNat < rows[i].length := by rw [hl]; omega
  have hz2 := hz _ (List.getElem_mem h) _ (List.getElem_mem hq)
  have h3 : i < (addAll seed rows l).length := by rw [addAll_len]; exact h
  have e : (addAll seed rows l)[i] = rows[i].mapIdx fun q v => v + dlt seed l i rows[i].length q := by
    simp only [addAll_shift]
    exact shiftR_at _ _ i h _
  simp only [getL, List.getElem_mapIdx, e, told, List.length_mapIdx, hl]
  rw [List.getD_eq_getElem?_getD, List.getElem?_mapIdx, List.getElem?_eq_getElem hq]
  simp only [Option.map_some, Option.getD_some]
  rw [show rows[i][(scell seed key (i : Int) (cols : Int)).toNat] = 0 by omega, Int.zero_add]
/-- The rows in which the key is alone, and whether the answer is near in one of the first rows. -/
def aloneN (seed : Int) (key : ByteArray) (cols : Nat) (l : List Itm) : Nat → Nat
  | 0 => 0
  | i + 1 => aloneN seed key cols l i + (if othS seed key cols i l = 0 then 1 else 0)
def nearB (seed : Int) (key : ByteArray) (cols : Nat) (l : List Itm) (n : Int) : Nat → Bool
  | 0 => false
  | i + 1 => nearB seed key cols l n i || decide (n ≥ ownS key l - othS seed key cols i l ∧ n ≤ ownS key l + othS seed key cols i l)
theorem aloneN_le (seed : Int) (key : ByteArray) (cols : Nat) (l : List Itm) (i : Nat) : aloneN seed key cols l i ≤ i := by
  induction i with
  | zero => simp [aloneN]
  | succ i ih => unfold aloneN; split <;> omega
theorem nearB_of {seed : Int} {key : ByteArray} {cols : Nat} {l : List Itm} {n : Int} {q : Nat} (hq : n ≥ ownS key l - othS seed key cols q l ∧ n ≤ ownS key l + othS seed key cols q l) : ∀ i, q < i → nearB seed key cols l n i = true := by
  intro i
  induction i with
  | zero => intro h; omega
  | succ i ih =>
    intro h
    unfold nearB
    rw [Bool.or_eq_true]
    by_cases e : q = i
    · subst e; exact Or.inr (decide_eq_true hq)
    · exact Or.inl (ih (by omega))
theorem aloneN_count (seed : Int) (key : ByteArray) (cols : Nat) (l : List Itm) (L : List Int) (p : Int → Bool) (hp : ∀ q, ∀ h : q < L.length, othS seed key cols q l = 0 → p L[q] = true) : ∀ i, i ≤ L.length → aloneN seed key cols l i ≤ (L.take i).countP p := by
  intro i
  induction i with
  | zero => intro _; simp [aloneN]
  | succ i ih =>
    intro h
    have hi : i < L.length := by omega
    have := ih (by omega)
    rw [List.take_add_one, List.getElem?_eq_getElem hi, List.countP_append]
    unfold aloneN
    split
    · rename_i c
      simp [hp i hi c]; omega
    · omega
end Go.Proofs.YteaeigpeaneicaaF
end

section
set_option maxRecDepth 8192
set_option maxHeartbeats 2000000
namespace Go.Proofs.YteaeigpeaneicaaF
open Go Go.Proofs.Vm

theorem toList_loop (s : ByteArray) (d : Nat) : ∀ (i : Nat) (r : List UInt8), i + d = s.size → ByteArray.toList.loop s i r = r.reverse ++ s.data.toList.drop i := by
  induction d with
  | zero =>
    intro i r h
    rw [ByteArray.toList.loop, if_neg (by omega), List.drop_of_length_le (by rw [Array.length_toList]; show s.size ≤ i; omega), List.append_nil]
  | succ d ih =>
    intro i r h
    have hi : i < s.data.toList.length := by rw [Array.length_toList]; show i < s.size; omega
    rw [ByteArray.toList.loop, if_pos (by omega), ih (i + 1) _ (by omega), List.reverse_cons, List.append_assoc, List.drop_eq_getElem_cons hi]
    have hs : i < s.data.size := by rw [Array.length_toList] at hi; exact hi
    have e : s.get! i = s.data.toList[i] := by
      show s.data[i]! = _
      rw [getElem!_pos s.data i hs, Array.getElem_toList]
    rw [e]
    rfl
theorem toList_eq (s : ByteArray) : s.toList = s.data.toList := by
  unfold ByteArray.toList
  rw [toList_loop s s.size 0 [] (by omega)]
  rfl
theorem toList_inj {s u : ByteArray} : s.toList = u.toList ↔ s = u := by
  constructor
  · intro h
    rw [toList_eq, toList_eq] at h
    have := Array.toList_inj.1 h
    cases s; cases u; simp_all
  · intro h; rw [h]
theorem ownS_append (key : ByteArray) (a b : List Itm) : ownS key (a ++ b) = ownS key a + ownS key b := by
  induction a with
  | nil => simp [ownS]
  | cons x t ih => simp only [List.cons_append, ownS, ih]; omega
theorem othS_append (seed : Int) (key : ByteArray) (cols i : Nat) (a b : List Itm) : othS seed key cols i (a ++ b) = othS seed key cols i a + othS seed key cols i b := by
  induction a with
  | nil => simp [othS]
  | cons x t ih => simp only [List.cons_append, othS, ih]; omega
theorem ownS_take {key : ByteArray} {l : List Itm} {i : Nat} (h : i < l.length) : ownS key (l.take (i + 1)) = ownS key (l.take i) + (if l[i].1 = key then l[i].2 else 0) := by
  rw [List.take_add_one, List.getElem?_eq_getElem h, ownS_append]
  simp [ownS]
theorem othS_take {seed : Int} {key : ByteArray} {cols j : Nat} {l : List Itm} {i : Nat} (h : i < l.length) : othS seed key cols j (l.take (i + 1)) = othS seed key cols j (l.take i) + (if l[i].1 = key then 0 else if scell seed l[i].1 (j : Int) (cols : Int) = scell seed key (j : Int) (cols : Int) then max l[i].2 (-l[i].2) else 0) := by
  rw [List.take_add_one, List.getElem?_eq_getElem h, othS_append]
  simp [othS]
theorem take_ok {l : List Itm} (h : ∀ x ∈ l, ItemOk x) (i : Nat) : ∀ x ∈ l.take i, ItemOk x := fun x hx => h x (List.mem_of_mem_take hx)

theorem law_SignedAlone {seed rows cols : Int} {l : List Itm} {key : ByteArray} (h0 : 0 ≤ seed) (h1 : seed < 18446744073709551616) (hl : l.length < 9223372036854775807) (hks : key.size ≤ 140737488351232) :
    TV.pu 6 [cI .u64 seed, cI .i64 rows, cI .i64 cols, .one (cItems l), cS key] = some (cB true) := by
  refine run6 (by simp) ?_
  have haw := law_awake
  obtain ⟨fl, hfl, gl⟩ := law_few hl
  simp only [cItems] at gl
  by_cases h : newOk rows cols
  case neg =>
    have a0 := signed_New_arg (seed := seed) h
    simp only [cSk, cRows, List.map_nil] at a0
    simp -implicitDefEqProofs [Try.f6, a0, haw, cItems, vstore, cellsOf?, Ent.wrO, wr, vmove, isNil]
  obtain ⟨R0, hR0⟩ : ∃ R, R = List.replicate rows.toNat (List.replicate cols.toNat (0 : Int)) := ⟨_, rfl⟩
  have a0 := signed_New (seed := seed) h
  have o0 := new_ok h
  have w0 := new_within (rows := rows) (cols := cols)
  have c0 : ∀ r ∈ R0, r.length = cols.toNat := by
    intro r hr
    rw [hR0] at hr
    rw [List.eq_of_mem_replicate hr]
    simp
  have l0 : R0.length = rows.toNat := by rw [hR0]; simp
  rw [← hR0] at a0 o0 w0
  simp only [cSk, cRows, cRow] at a0
  by_cases z1 : fl = true
  case neg =>
    have z1 : fl = false := by simpa using z1
    rw [z1] at gl
    simp -implicitDefEqProofs [Try.f6, a0, gl, haw, cItems, vstore, cellsOf?, Ent.wrO, wr, vmove, isNil]
  by_cases z2 : 100 < (key.size : Int)
  · rw [z1] at gl
    simp -implicitDefEqProofs [Try.f6, a0, gl, haw, z2, cItems, vstore, cellsOf?, Ent.wrO, wr, vmove, isNil]
  rw [z1] at gl
  obtain ⟨ll, il⟩ := hfl.1 z1
  obtain ⟨r1, r2, r3, r4, r5⟩ := h
  obtain ⟨n, rfl⟩ := Int.eq_ofNat_of_zero_le (show 0 ≤ rows by omega)
  obtain ⟨m, rfl⟩ := Int.eq_ofNat_of_zero_le (show 0 ≤ cols by omega)
  simp only [Int.toNat_natCast] at c0 l0
  have R1 := addAll_within (seed := seed) (l := l) w0 o0 (by omega) (by omega) il
  have cR := law_adds (l := l) h0 h1 o0 w0 (by omega) (by omega) il
  have hrl := addAll_len seed l R0
  have hrr : ∀ i, ∀ h : i < (addAll seed R0 l).length, (addAll seed R0 l)[i].length = m := fun i h => by
    rw [addAll_rowlen seed l R0 i (by omega) h]
    exact c0 _ (List.getElem_mem _)
  have hG := signed_Get (seed := seed) (rows := addAll seed R0 l) (key := key) h0 h1 hks R1.2
  have hlen := getL_len seed key (addAll seed R0 l)
  have hne : getL seed key (addAll seed R0 l) ≠ [] := by intro e; rw [e] at hlen; simp at hlen; omega
  have hnear : ∀ i, ∀ h : i < (getL seed key (addAll seed R0 l)).length, ownS key l - othS seed key m i l ≤ (getL seed key (addAll seed R0 l))[i] ∧ (getL seed key (addAll seed R0 l))[i] ≤ ownS key l + othS seed key m i l := by
    intro i h
    rw [getL_zero l w0 c0 (by omega) i (by omega) h]
    exact told_near seed key m i (by omega) l
  have hCl : ∀ (x : ByteArray) (i : Nat), x.size ≤ 140737488351232 → i < n → TV.pu 18 [.agg (cSk seed (addAll seed R0 l)), cS x, cI .i64 i] = some (cI .i64 (scell seed x (i : Int) (m : Int))) := by
    intro x i hx hi
    have h3 : i < (addAll seed R0 l).length := by omega
    rw [signed_Cell h0 h1 hx (by omega) (fun x hx => by have := (R1.2.row x hx).2.1; omega), if_pos ⟨(okB_iff _).2 R1.2, by omega⟩]
    simp only [Int.toNat_natCast, List.getElem?_eq_getElem h3, hrr i h3]
  obtain ⟨M, hM⟩ : ∃ M, M = med (getL seed key (addAll seed R0 l)) := ⟨_, rfl⟩
  have hMmem := med_mem hne
  rw [← hM] at hG hMmem
  have hown := ownS_bound key l il
  have hMr : -10995116277760 ≤ M ∧ M ≤ 10995116277760 := by
    obtain ⟨i, hi, e⟩ := List.getElem_of_mem hMmem
    have := hnear i hi
    have hoth := othS_bound seed key m i l il
    omega
  have hfin : nearB seed key m l M n = true ∧ (2 * (aloneN seed key m l n : Int) > (n : Int) → M = ownS key l) := by
    constructor
    · obtain ⟨i, hi, e⟩ := List.getElem_of_mem hMmem
      have := hnear i hi
      exact nearB_of (q := i) ⟨by omega, by omega⟩ n (by omega)
    · intro hgt
      have hp : ∀ q, ∀ h : q < (getL seed key (addAll seed R0 l)).length, othS seed key m q l = 0 → (getL seed key (addAll seed R0 l))[q] = ownS key l := by
        intro q hq e
        have := hnear q hq
        omega
      have a := aloneN_count seed key m l (getL seed key (addAll seed R0 l)) (fun x => decide (ownS key l ≤ x)) (fun q hq e => decide_eq_true (by rw [hp q hq e]; exact Int.le_refl _)) _ (Nat.le_refl _)
      have b := aloneN_count seed key m l (getL seed key (addAll seed R0 l)) (fun x => decide (x ≤ ownS key l)) (fun q hq e => decide_eq_true (by rw [hp q hq e]; exact Int.le_refl _)) _ (Nat.le_refl _)
      rw [List.take_length, hlen, hrl, l0] at a b
      have c := med_ge hne (ownS key l) (by rw [hlen, hrl, l0]; omega)
      have d := med_le hne (by rw [hlen, hrl, l0]; omega) (ownS key l) (by rw [hlen, hrl, l0]; omega)
      omega
  obtain ⟨R, hR⟩ : ∃ R, R = addAll seed R0 l := ⟨_, rfl⟩
  rw [← hR] at cR hG hCl
  simp only [cSk, cRows, cRow, cItems] at cR hG
  simp -implicitDefEqProofs [Try.f6, a0, gl, z2, cItems, cR, vstore, cellsOf?, Ent.wrO, wr, vmove, isNil]
  obtain ⟨I, hI⟩ : ∃ I : Nat → St → Prop, ∀ k s', I k s' ↔ (∃ e h i L, s' = ⟨e, h⟩ ∧ h = .opn [[.c (.v (.int .u64 seed)), .c (cRows R)]] false :: L ∧
      e 1 = vI .i64 (n : Nat) ∧ e 3 = .one (.c (cItems l)) ∧ e 4 = vS key ∧ e 11 = .one (.ptr ⟨0, 0, 0, 1⟩) ∧ e 13 = vI .i64 (ownS key (l.take i)) ∧
      e 46 = .one (.c (cItems l)) ∧ e 47 = vI .i64 l.length ∧ e 48 = vI .i64 (i : Nat) ∧ i + k = l.length) := ⟨_, fun _ _ => Iff.rfl⟩
  refine wpL_ind I ?_ l.length _ ((hI _ _).2 ⟨_, _, 0, _, rfl, by simp only [cRows, cRow]; rfl, by simp, by simp [cItems], by simp, by simp, by simp [ownS], by simp [cItems], by simp, by simp, by omega⟩)
  intro k st hst
  obtain ⟨e, h, i, L, rfl, rfl, f1, f3, f4, f11, f13, f46, f47, f48, hk⟩ := (hI _ _).1 hst
  by_cases c : i < l.length
  · have c' : (i : Int) < l.length := by omega
    have hi := il l[i] (List.getElem_mem c)
    have w3 : IntKind.i64.wrap ((i : Int) + 1) = ((i + 1 : Nat) : Int) := by rw [w64_id (by omega) (by omega)]; omega
    have hi2 := hi.2
    have ht := ownS_take (key := key) c
    have hb1 := ownS_bound key (l.take i) (take_ok il i)
    have htl : (l.take i).length = i := by simp; omega
    rw [htl] at hb1
    by_cases hk2 : l[i].1 = key
    · rw [if_pos hk2] at ht
      have w4 : IntKind.i64.wrap (ownS key (l.take i) + l[i].2) = ownS key (l.take (i + 1)) := by rw [w64_id (by omega) (by omega), ht]
      simp -implicitDefEqProofs [f4, f13, f46, f47, f48, c, c', cItems, cItem, hk2, w3, w4, vmove, isNil, vstore, cellsOf?, Ent.wrO, wr]
      exact ⟨k - 1, by omega, (hI _ _).2 ⟨_, _, i + 1, _, rfl, rfl, by simp [f1], by simp [f3, cItems], by simp [f4], by simp [f11], by simp, by simp [f46, cItems], by simp [f47], by simp, by omega⟩⟩
    · rw [if_neg hk2, Int.add_zero] at ht
      have hk3 : (l[i].1.toList == key.toList) = false := by rw [beq_eq_false_iff_ne, ne_eq, toList_inj]; exact hk2
      simp -implicitDefEqProofs [f4, f46, f47, f48, c, c', cItems, cItem, hk3, w3, vmove, isNil, vstore, cellsOf?, Ent.wrO, wr]
      exact ⟨k - 1, by omega, (hI _ _).2 ⟨_, _, i + 1, _, rfl, rfl, by simp [f1], by simp [f3, cItems], by simp [f4], by simp [f11], by simp [f13, ht], by simp [f46, cItems], by simp [f47], by simp, by omega⟩⟩
  · have c' : ¬ (i : Int) < l.length := by omega
    have htk : l.take i = l := List.take_of_length_le (by omega)
    rw [htk] at f13
    simp -implicitDefEqProofs [f4, f11, f47, f48, c', cRows, cRow, hG, vmove, isNil]
    clear hI hst f46 f47 f48 hk c c' htk I
    have hMr1 := hMr.1
    have hMr2 := hMr.2
    obtain ⟨I, hI⟩ : ∃ I : Nat → St → Prop, ∀ k s', I k s' ↔ (∃ e h i L, s' = ⟨e, h⟩ ∧ h = .opn [[.c (.v (.int .u64 seed)), .c (cRows R)]] false :: L ∧
        e 1 = vI .i64 (n : Nat) ∧ e 3 = .one (.c (cItems l)) ∧ e 4 = vS key ∧ e 11 = .one (.ptr ⟨0, 0, 0, 1⟩) ∧ e 13 = vI .i64 (ownS key l) ∧
        e 16 = vI .i64 M ∧ e 17 = vI .i64 (aloneN seed key m l i : Nat) ∧ e 18 = vB (nearB seed key m l M i) ∧ e 19 = vI .i64 (i : Nat) ∧ i + k = n) := ⟨_, fun _ _ => Iff.rfl⟩
    refine wpL_ind I ?_ n _ ((hI _ _).2 ⟨_, _, 0, _, rfl, by simp only [cRows, cRow]; rfl, by simp [f1], by simp [f3, cItems], by simp [f4], by simp [f11], by simp [f13], by simp, by simp [aloneN], by simp [nearB], by simp, by omega⟩)
    intro k st hst
    obtain ⟨e, h, i, L, rfl, rfl, g1, g3, g4, g11, g13, g16, g17, g18, g19, hk⟩ := (hI _ _).1 hst
    by_cases c : i < n
    · have c' : (i : Int) < (n : Int) := by omega
      have w3 : IntKind.i64.wrap ((i : Int) + 1) = ((i + 1 : Nat) : Int) := by rw [w64_id (by omega) (by omega)]; omega
      simp -implicitDefEqProofs [g1, g3, g19, c', cItems, cRows, cRow, vmove, isNil]
      obtain ⟨J, hJ⟩ : ∃ J : Nat → St → Prop, ∀ k s', J k s' ↔ (∃ e h j L, s' = ⟨e, h⟩ ∧ h = .opn [[.c (.v (.int .u64 seed)), .c (cRows R)]] false :: L ∧
          e 1 = vI .i64 (n : Nat) ∧ e 3 = .one (.c (cItems l)) ∧ e 4 = vS key ∧ e 11 = .one (.ptr ⟨0, 0, 0, 1⟩) ∧ e 13 = vI .i64 (ownS key l) ∧
          e 16 = vI .i64 M ∧ e 17 = vI .i64 (aloneN seed key m l i : Nat) ∧ e 18 = vB (nearB seed key m l M i) ∧ e 19 = vI .i64 (i : Nat) ∧
          e 20 = vI .i64 (othS seed key m i (l.take j)) ∧ e 69 = .one (.c (cItems l)) ∧ e 70 = vI .i64 l.length ∧ e 71 = vI .i64 (j : Nat) ∧ j + k = l.length) := ⟨_, fun _ _ => Iff.rfl⟩
      refine wpL_ind J ?_ l.length _ ((hJ _ _).2 ⟨_, _, 0, _, rfl, by simp only [cRows, cRow]; rfl, by simp [g1], by simp [g3, cItems], by simp [g4], by simp [g11], by simp [g13], by simp [g16], by simp [g17], by simp [g18], by simp [g19], by simp [othS], by simp [cItems], by simp, by simp, by omega⟩)
      intro k2 st hst2
      obtain ⟨e, h, j, L, rfl, rfl, q1, q3, q4, q11, q13, q16, q17, q18, q19, q20, q69, q70, q71, hk2⟩ := (hJ _ _).1 hst2
      by_cases d : j < l.length
      · have d' : (j : Int) < l.length := by omega
        have hi := il l[j] (List.getElem_mem d)
        have w5 : IntKind.i64.wrap ((j : Int) + 1) = ((j + 1 : Nat) : Int) := by rw [w64_id (by omega) (by omega)]; omega
        have ht := othS_take (seed := seed) (key := key) (cols := m) (j := i) d
        have hb1 := othS_bound seed key m i (l.take j) (take_ok il j)
        have htl : (l.take j).length = j := by simp; omega
        rw [htl] at hb1
        by_cases hk2 : l[j].1 = key
        · rw [if_pos hk2, Int.add_zero] at ht
          simp -implicitDefEqProofs [q4, q69, q70, q71, d, d', cItems, cItem, hk2, w5, vmove, isNil, vstore, cellsOf?, Ent.wrO, wr]
          exact ⟨k2 - 1, by omega, (hJ _ _).2 ⟨_, _, j + 1, _, rfl, rfl, by simp [q1], by simp [q3, cItems], by simp [q4], by simp [q11], by simp [q13], by simp [q16], by simp [q17], by simp [q18], by simp [q19], by simp [q20, ht], by simp [q69, cItems], by simp [q70], by simp, by omega⟩⟩
        · rw [if_neg hk2] at ht
          have hk3 : (l[j].1.toList == key.toList) = false := by rw [beq_eq_false_iff_ne, ne_eq, toList_inj]; exact hk2
          have cl1 := hCl l[j].1 i (by have := hi.1; omega) c
          have cl2 := hCl key i hks c
          simp only [cSk, cRows, cRow] at cl1 cl2
          by_cases hsc : scell seed l[j].1 (i : Int) (m : Int) = scell seed key (i : Int) (m : Int)
          · rw [if_pos hsc] at ht
            rw [hsc] at cl1
            have hi2 := hi.2
            have w6 : IntKind.i64.wrap (-l[j].2) = -l[j].2 := w64_id (by omega) (by omega)
            have hmx : (if l[j].2 < -l[j].2 then -l[j].2 else l[j].2) = max l[j].2 (-l[j].2) := by simp only [Int.max_def]; split <;> split <;> omega
            have w7 : IntKind.i64.wrap (othS seed key m i (l.take j) + max l[j].2 (-l[j].2)) = othS seed key m i (l.take (j + 1)) := by rw [w64_id (by omega) (by omega), ht]
            simp -implicitDefEqProofs [q4, q11, q19, q20, q69, q70, q71, d, d', cItems, cItem, cRows, cRow, hk3, cl1, cl2, w5, w6, hmx, w7, max_int, vmove, isNil, vstore, cellsOf?, Ent.wrO, wr]
            exact ⟨k2 - 1, by omega, (hJ _ _).2 ⟨_, _, j + 1, _, rfl, by simp only [cRows, cRow]; rfl, by simp [q1], by simp [q3, cItems], by simp [q4], by simp [q11], by simp [q13], by simp [q16], by simp [q17], by simp [q18], by simp [q19], by simp, by simp [q69, cItems], by simp [q70], by simp, by omega⟩⟩
          · rw [if_neg hsc, Int.add_zero] at ht
            have hsc' : (scell seed l[j].1 (i : Int) (m : Int) == scell seed key (i : Int) (m : Int)) = false := by simpa using hsc
            simp -implicitDefEqProofs [q4, q11, q19, q69, q70, q71, d, d', cItems, cItem, cRows, cRow, hk3, cl1, cl2, hsc', w5, vmove, isNil, vstore, cellsOf?, Ent.wrO, wr]
            exact ⟨k2 - 1, by omega, (hJ _ _).2 ⟨_, _, j + 1, _, rfl, by simp only [cRows, cRow]; rfl, by simp [q1], by simp [q3, cItems], by simp [q4], by simp [q11], by simp [q13], by simp [q16], by simp [q17], by simp [q18], by simp [q19], by simp [q20, ht], by simp [q69, cItems], by simp [q70], by simp, by omega⟩⟩
      · have d' : ¬ (j : Int) < l.length := by omega
        have htk : l.take j = l := List.take_of_length_le (by omega)
        rw [htk] at q20
        have hb1 := othS_bound seed key m i l il
        have hal := aloneN_le seed key m l i
        obtain ⟨oth, hoth⟩ : ∃ o, o = othS seed key m i l := ⟨_, rfl⟩
        obtain ⟨own, hown2⟩ : ∃ o, o = ownS key l := ⟨_, rfl⟩
        obtain ⟨al, hal2⟩ : ∃ o, o = aloneN seed key m l i := ⟨_, rfl⟩
        obtain ⟨nb, hnb⟩ : ∃ o, o = nearB seed key m l M i := ⟨_, rfl⟩
        have hal3 : aloneN seed key m l (i + 1) = al + (if oth = 0 then 1 else 0) := by rw [hal2, hoth]; rfl
        have hnb3 : nearB seed key m l M (i + 1) = (nb || decide (M ≥ own - oth ∧ M ≤ own + oth)) := by rw [hnb, hoth, hown2]; rfl
        rw [← hoth] at q20 hb1
        rw [← hown2] at q13 hown
        rw [← hal2] at q17 hal
        rw [← hnb] at q18
        have w5 : IntKind.i64.wrap ((al : Int) + 1) = ((al + 1 : Nat) : Int) := by rw [w64_id (by omega) (by omega)]; omega
        have w6 : IntKind.i64.wrap (own - oth) = own - oth := w64_id (by omega) (by omega)
        have w7 : IntKind.i64.wrap (own + oth) = own + oth := w64_id (by omega) (by omega)
        have fin : ∀ (e' : Nat → AV) (al' : Nat) (nb' : Bool), al' = aloneN seed key m l (i + 1) → nb' = nearB seed key m l M (i + 1) → e' 1 = vI .i64 (n : Nat) → e' 3 = .one (.c (cItems l)) → e' 4 = vS key → e' 11 = .one (.ptr ⟨0, 0, 0, 1⟩) → e' 13 = vI .i64 own →
            e' 16 = vI .i64 M → e' 17 = vI .i64 (al' : Nat) → e' 18 = vB nb' → e' 19 = vI .i64 ((i + 1 : Nat) : Int) → I (k - 1) ⟨e', .opn [[.c (.v (.int .u64 seed)), .c (cRows R)]] false :: L⟩ := by
          intro e' al' nb' h1 h2 k1 k3 k4 k11 k13 k16 k17 k18 k19
          exact (hI _ _).2 ⟨_, _, i + 1, _, rfl, rfl, k1, k3, k4, k11, by rw [k13, hown2], k16, by rw [k17, h1], by rw [k18, h2], k19, by omega⟩
        have p1 : M ≥ own - oth ∨ ¬ M ≥ own - oth := Classical.em _
        have p2 : M ≤ own + oth ∨ ¬ M ≤ own + oth := Classical.em _
        by_cases z : oth = 0
        · rw [if_pos z] at hal3
          have z' : (oth == 0) = true := by simpa using z
          cases nb with
          | true =>
            simp -implicitDefEqProofs [q17, q18, q19, q20, q70, q71, d', z', w3, w5, vmove, isNil]
            exact ⟨k - 1, by omega, fin _ (al + 1) true (by omega) (by rw [hnb3]; rfl) (by simp [q1]) (by simp [q3]) (by simp [q4]) (by simp [q11]) (by simp [q13]) (by simp [q16]) (by simp) (by simp) (by simp)⟩
          | false =>
            by_cases y1 : M ≥ own - oth
            · have y1' : own - oth ≤ M := y1
              by_cases y2 : M ≤ own + oth
              · simp -implicitDefEqProofs [q13, q16, q17, q18, q19, q20, q70, q71, d', z', w5, w3, w6, w7, y1', y2, vmove, isNil]
                exact ⟨k - 1, by omega, fin _ (al + 1) true (by omega) (by rw [hnb3]; simp [y1', y2]) (by simp [q1]) (by simp [q3]) (by simp [q4]) (by simp [q11]) (by simp [q13]) (by simp [q16]) (by simp) (by simp) (by simp)⟩
              · simp -implicitDefEqProofs [q13, q16, q17, q18, q19, q20, q70, q71, d', z', w5, w3, w6, w7, y1', y2, vmove, isNil]
                exact ⟨k - 1, by omega, fin _ (al + 1) false (by omega) (by rw [hnb3]; simp [y2]) (by simp [q1]) (by simp [q3]) (by simp [q4]) (by simp [q11]) (by simp [q13]) (by simp [q16]) (by simp) (by simp) (by simp)⟩
            · have y1' : ¬ own - oth ≤ M := y1
              simp -implicitDefEqProofs [q13, q16, q17, q18, q19, q20, q70, q71, d', z', w5, w3, w6, y1', vmove, isNil]
              exact ⟨k - 1, by omega, fin _ (al + 1) false (by omega) (by rw [hnb3]; simp [y1']) (by simp [q1]) (by simp [q3]) (by simp [q4]) (by simp [q11]) (by simp [q13]) (by simp [q16]) (by simp) (by simp) (by simp)⟩
        · rw [if_neg z] at hal3
          have z' : (oth == 0) = false := by simpa using z
          cases nb with
          | true =>
            simp -implicitDefEqProofs [q18, q19, q20, q70, q71, d', z', w3, vmove, isNil]
            exact ⟨k - 1, by omega, fin _ al true (by omega) (by rw [hnb3]; rfl) (by simp [q1]) (by simp [q3]) (by simp [q4]) (by simp [q11]) (by simp [q13]) (by simp [q16]) (by simp [q17]) (by simp) (by simp)⟩
          | false =>
            by_cases y1 : M ≥ own - oth
            · have y1' : own - oth ≤ M := y1
              by_cases y2 : M ≤ own + oth
              · simp -implicitDefEqProofs [q13, q16, q18, q19, q20, q70, q71, d', z', w3, w6, w7, y1', y2, vmove, isNil]
                exact ⟨k - 1, by omega, fin _ al true (by omega) (by rw [hnb3]; simp [y1', y2]) (by simp [q1]) (by simp [q3]) (by simp [q4]) (by simp [q11]) (by simp [q13]) (by simp [q16]) (by simp [q17]) (by simp) (by simp)⟩
              · simp -implicitDefEqProofs [q13, q16, q18, q19, q20, q70, q71, d', z', w3, w6, w7, y1', y2, vmove, isNil]
                exact ⟨k - 1, by omega, fin _ al false (by omega) (by rw [hnb3]; simp [y2]) (by simp [q1]) (by simp [q3]) (by simp [q4]) (by simp [q11]) (by simp [q13]) (by simp [q16]) (by simp [q17]) (by simp) (by simp)⟩
            · have y1' : ¬ own - oth ≤ M := y1
              simp -implicitDefEqProofs [q13, q16, q18, q19, q20, q70, q71, d', z', w3, w6, y1', vmove, isNil]
              exact ⟨k - 1, by omega, fin _ al false (by omega) (by rw [hnb3]; simp [y1']) (by simp [q1]) (by simp [q3]) (by simp [q4]) (by simp [q11]) (by simp [q13]) (by simp [q16]) (by simp [q17]) (by simp) (by simp)⟩
    · have c' : ¬ (i : Int) < (n : Int) := by omega
      have hi : i = n := by omega
      subst hi
      rw [hfin.1] at g18
      have hal := aloneN_le seed key m l i
      obtain ⟨al, hal2⟩ : ∃ o, o = aloneN seed key m l i := ⟨_, rfl⟩
      have hf2 := hfin.2
      rw [← hal2] at g17 hal hf2
      have w5 : IntKind.i64.wrap (2 * (al : Int)) = 2 * (al : Int) := w64_id (by omega) (by omega)
      by_cases y : 2 * (al : Int) ≤ (i : Int)
      · simp -implicitDefEqProofs [g1, g17, g18, g19, c', w5, y, haw, vmove, isNil]
      · have hMo := hf2 (by omega)
        rw [hMo] at g16
        simp -implicitDefEqProofs [g1, g13, g16, g17, g18, g19, c', w5, y, haw, vmove, isNil]
theorem lawSignedAlone_all : ∀ l, goodsSignedAlone l → TV.pu 6 l = some (cB true) := by
  rintro l ⟨a, r, rfl, ⟨x, rfl, hx⟩, b, r2, rfl, ⟨y, rfl, hy⟩, c, r3, rfl, ⟨z, rfl, hz⟩, d, r4, rfl, ⟨u, rfl, hu⟩, e, r5, rfl, ⟨v, rfl, hv⟩, rfl⟩
  obtain ⟨n, rfl, h1, h2⟩ := isI_one hx
  obtain ⟨m, rfl, _⟩ := isI_one hy
  obtain ⟨k, rfl, _⟩ := isI_one hz
  obtain ⟨p, rfl, hp⟩ := good48_of hu
  obtain ⟨q, rfl, hq⟩ := isS_one hv
  exact law_SignedAlone h1 (by have : IntKind.u64.max = 18446744073709551615 := rfl; omega) hp hq
end Go.Proofs.YteaeigpeaneicaaF
end

section
/- SignedAlone: the statement, from what the law's run comes to. -/
namespace Go.Proofs.Yteaeigpeaneicaa.G
open Go Go.RowKit Go.ChangeShapes Go.WideShapes Go.ChangeAt Go.Proofs.Vm Go.Proofs.YteaeigpeaneicaaF
theorem ownSignedAlone : ownKnob Try.prog.godebug = none := by kernel_rfl
theorem laidOutSignedAlone : laidOutB Try.prog = true := by kernel_rfl
set_option maxRecDepth 100000 in
set_option maxHeartbeats 2000000 in
theorem liftedSignedAlone (os : Os) (started : os.Started) (H : Type) (enc : TypeId × Value → H) :
    ReturnsInHanded {} Try.checked os 6 .any (Rows.signedAloneSpec.pre6 enc Try.prog Try.f6 Rows.signedAloneRow.domain false) (Rows.signedAloneSpec.post enc Try.prog Try.f6 false true false false) := by
  refine returnsInHanded_of_change_sized (C := Try.checked) ownSignedAlone started (by kernel_rfl) Try.func6
    (ChangeSpec.witness6 (enc := enc) (C := Try.checked) false ⟨#[], #[.int .u64 0, .int .i64 0, .int .i64 0, .slice none 0 0, .string ByteArray.empty], []⟩ 8 (by kernel_rfl) (by kernel_rfl) (by kernel_rfl) (by kernel_rfl)) ?_
  intro W base args ds gs before hval0 hW hcnd hsz0 _
  have hsz : (DataW.weightsEach Try.prog (Try.f6.params.toList ++ Rows.signedAloneSpec.plain.varTypes Try.prog) (ds ++ gs)).all (· ≤ reachBytes) = true := hsz0
  have hval : ∀ (j : Nat) t v, Try.f6.params[j]? = some t → args[j]? = some v → Value.okWide Try.prog W .any base t v := hval0
  have hW' := hW
  obtain ⟨p, q, hA0, hV, rfl, hfz, hnd⟩ := hW
  have hA : DataW.TrodAll enc Try.prog W 0 (fun _ => true) true Try.f6.params.toList args.toList ds p := hA0
  rw [Try.params6] at hA hval hsz
  obtain ⟨rfl, rfl⟩ := trodVars_none hV
  have hdl := trodAll_len hA
  obtain ⟨d0, d1, d2, d3, d4, rfl⟩ : ∃ d0 d1 d2 d3 d4, ds = [d0, d1, d2, d3, d4] := by match ds, hdl with | [d0, d1, d2, d3, d4], _ => exact ⟨_, _, _, _, _, rfl⟩
  clear hA0 hval0 hsz0
  refine (lift_law tvOk.1 (ts := [22, 3, 3, 48, 9]) laidOutSignedAlone (by kernel_rfl) opensSignedAlone lawSignedAlone_all hA (fun j t v h1 h2 => hval j t v (by simpa using h1) h2) (weights_of hsz)).mono fun e W' ⟨v, I', he, hR, hk, hb, hst⟩ => ?_
  obtain rfl : v = .bool true := by cases hR; rfl
  subst he
  exact ⟨_, rfl, _, _, _, [], _, [], hW', trodAll_mk1 (shut_bool Try.underlying4 _), hst, rfl, kept_of hk hb _, fun h => by cases h⟩
theorem signedAlone_holds : Rows.SignedAloneSaid :=
  OpenClaim.holds_of_wide 6 Try.f6 rfl rfl rfl rfl rfl rfl rfl ⟨rfl, rfl, rfl, rfl, rfl⟩ rfl rfl rfl rfl rfl (by kernel_rfl) Try.func6 (by kernel_rfl)
    (of_decide_eq_true (by kernel_rfl)) (by unfold Func.isWrapper; first | (rw [if_pos (by decide +kernel)]; kernel_rfl) | (rw [if_neg (by decide +kernel)]; exact ⟨rfl, rfl⟩))
    (fun os started H enc _ => liftedSignedAlone os started H enc)
end Go.Proofs.Yteaeigpeaneicaa.G
end
