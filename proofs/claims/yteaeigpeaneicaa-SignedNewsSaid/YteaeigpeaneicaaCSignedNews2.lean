/- SignedNews: a sketch of any numbers is told as the document says, or refused; for every input, without conditions. -/
import Derived.Test.YteaeigpeaneicaaCSignedNews1
import Derived.Test.YteaeigpeaneicaaRows
import Derived.WalkKit
import Derived.ProofKit
import Derived.OpenShut
import Derived.ShutString
import Derived.ChangeOld
import Derived.Below
import Derived.SizedLaws
section
set_option maxRecDepth 8192
set_option maxHeartbeats 1000000
namespace Go.Proofs.YteaeigpeaneicaaF
open Go Go.Proofs.Vm

structure OkR (rows : List (List Int)) : Prop where
  l7 : rows.length ≤ 7
  odd : rows.length % 2 = 1
  row : ∀ r ∈ rows, 1 ≤ r.length ∧ r.length ≤ 256 ∧ r.length = (rows.headD []).length ∧ ∀ v ∈ r, -1099511627776 ≤ v ∧ v ≤ 1099511627776
theorem fitsB_iff (n : Int) : fitsB n = true ↔ -1099511627776 ≤ n ∧ n ≤ 1099511627776 := by simp [fitsB]
theorem okB_iff (rows : List (List Int)) : okB rows = true ↔ OkR rows := by
  simp only [okB, Bool.and_eq_true, decide_eq_true_eq, Bool.not_eq_true', List.any_eq_false, rowB, Bool.or_eq_true, not_or, List.any_eq_true, not_exists, not_and, Bool.not_eq_true, fitsB_iff, Bool.not_eq_false', ne_eq]
  constructor
  · rintro ⟨⟨a, b⟩, c⟩
    exact ⟨a, b, fun r hr => ⟨by have := (c r hr).1.1.1; omega, by have := (c r hr).1.1.2; omega, by have := (c r hr).1.2; omega, fun v hv => (fitsB_iff v).1 (by have := (c r hr).2 v hv; simpa using this)⟩⟩
  · rintro ⟨a, b, c⟩
    exact ⟨⟨a, b⟩, fun r hr => ⟨⟨⟨by have := (c r hr).1; omega, by have := (c r hr).2.1; omega⟩, by have := (c r hr).2.2.1; omega⟩, fun v hv => by have := (fitsB_iff v).2 ((c r hr).2.2.2 v hv); simpa using this⟩⟩
theorem OkR.ne {rows : List (List Int)} (h : OkR rows) : rows ≠ [] := by rintro rfl; have := h.odd; simp at this

def zH (seed : Int) (key : ByteArray) (n : Int) (rows : List (List Int)) (i : Nat) : List Ent :=
  .clo [] false :: .opn [[.c (.v (.int .u64 seed)), .sl 6 0 rows.length rows.length]] false :: .opn [[.c (.v (.int .u64 seed)), .sl 6 0 rows.length rows.length]] false :: .clo [] false :: .opn (clRows 3 rows rows.length) false :: cl (updTo seed key n i rows)

theorem zH_fz (seed : Int) (key : ByteArray) (n : Int) (rows : List (List Int)) (i : Nat) (X Y : Ent) : fzc 5 (X :: Y :: zH seed key n rows i) (.sl 6 0 rows.length rows.length) = some (cRows (updTo seed key n i rows)) := by
  refine fz_rows (b := 3) (updTo_len ..) (by simp [zH]) (fun j hj hj2 => ⟨?_, updTo_rowlen _ _ _ _ _ _ hj hj2⟩) 3
  show (X :: Y :: _ :: _ :: _ :: _ :: _ :: cl (updTo seed key n i rows))[3 + (5 + 2 * j)]? = _
  rw [show 3 + (5 + 2 * j) = (2 * j + 1) + 7 by omega]
  simp only [List.getElem?_cons_succ]
  rw [cl_get, List.getElem?_eq_getElem hj2]
  rfl

theorem signed_Add_arg {seed : Int} {rows : List (List Int)} {key : ByteArray} {n : Int} (hl : rows.length < 9223372036854775807) (hl2 : ∀ x ∈ rows, x.length < 9223372036854775807) (h : okB rows = false ∨ fitsB n = false) :
    TV.pu 15 [.agg (cSk seed rows), cS key, cI .i64 n] = some (.tup [(true, cSk 0 []), (false, [.v (.int .i64 1)])]) := by
  refine run15 (by simp) ?_
  have hR := signed_Right (seed := seed) hl hl2
  have hf := signed_fits n
  simp only [cSk, cRows] at hR
  by_cases hk : okB rows = true
  · rw [hk] at hR
    have hn : fitsB n = false := by
      rcases h with h | h
      · rw [h] at hk; cases hk
      · exact h
    rw [hn] at hf
    simp [Try.f15, cSk, cRows, hR, hf, vstore, cellsOf?, Ent.wrO, wr, vmove, isNil]
    simp [qa, cRows, fzc]
  · have hk : okB rows = false := by simpa using hk
    rw [hk] at hR
    simp [Try.f15, cSk, cRows, hR, vstore, cellsOf?, Ent.wrO, wr, vmove, isNil]
    simp [qa, cRows, fzc]

theorem signed_Add {seed : Int} {rows : List (List Int)} {key : ByteArray} {n : Int} (h0 : 0 ≤ seed) (h1 : seed < 18446744073709551616) (hs : key.size ≤ 140737488351232) (hok : OkR rows) (hn : fitsB n = true) :
    TV.pu 15 [.agg (cSk seed rows), cS key, cI .i64 n] = some (if ∀ j, ∀ h : j < rows.length, fitsB (newV seed key n (j : Int) rows[j]) = true then .tup [(true, cSk seed (addRows seed key n rows)), (false, [.v (.int .i64 0)])] else .tup [(true, cSk 0 []), (false, [.v (.int .i64 5)])]) := by
  refine run15 (by simp) ?_
  have l7 := hok.l7
  have hR := signed_Right (seed := seed) (rows := rows) (by omega) (fun x hx => by have := (hok.row x hx).2.1; omega)
  rw [(okB_iff rows).2 hok] at hR
  have hf := signed_fits n
  rw [hn] at hf
  have hc := signed_clone (seed := seed) (rows := rows) (H := [.opn [[.c (.v (.int .u64 seed)), .c (cRows rows)]] false, .opn [[.c (.v (.int .u64 0)), .sl 2 0 0 0]] false, .clo [] false]) hok.ne (by omega) (fun r hr => ⟨by have := (hok.row r hr).1; rintro rfl; simp at this, by have := (hok.row r hr).2.1; omega⟩)
  simp only [cSk, cRows] at hR hc
  simp [Try.f15, cSk, cRows, hR, hf, hc, vstore, cellsOf?, Ent.wrO, wr, vmove, isNil, clH, clRows_len]
  obtain ⟨I, hI⟩ : ∃ I : Nat → St → Prop, ∀ k s', I k s' ↔ (∃ e h i, s' = ⟨e, h⟩ ∧ h = .opn [[.c (.v (.int .u64 seed)), .sl 6 0 rows.length rows.length]] false :: .opn [[.c (.v (.int .u64 0)), .sl 2 0 0 0]] false :: zH seed key n rows i ∧
      e 1 = vS key ∧ e 2 = vI .i64 n ∧ e 3 = .one (.ptr ⟨0, 0, 0, 1⟩) ∧ e 6 = .one (.ptr ⟨1, 0, 0, 1⟩) ∧ e 24 = .one (.sl 6 0 rows.length rows.length) ∧ e 25 = vI .i64 rows.length ∧ e 26 = vI .i64 (i : Nat) ∧ i + k = rows.length ∧
      ∀ j, j < i → ∀ h : j < rows.length, fitsB (newV seed key n (j : Int) rows[j]) = true) := ⟨_, fun _ _ => Iff.rfl⟩
  refine wpL_ind I ?_ rows.length _ ((hI _ _).2 ⟨_, _, 0, rfl, by simp [zH, updTo_zero], by simp, by simp, by simp, by simp, by simp, by simp, by simp, by omega, by omega⟩)
  intro k st hst
  obtain ⟨e, h, i, rfl, rfl, e1, e2, e3, e6, e24, e25, e26, hk, hall⟩ := (hI _ _).1 hst
  have hz := zH_fz seed key n rows
  have hzl : ∀ i, (zH seed key n rows i) = .clo [] false :: .opn [[.c (.v (.int .u64 seed)), .sl 6 0 rows.length rows.length]] false :: .opn [[.c (.v (.int .u64 seed)), .sl 6 0 rows.length rows.length]] false :: .clo [] false :: .opn (clRows 3 rows rows.length) false :: cl (updTo seed key n i rows) := fun _ => rfl
  by_cases c : i < rows.length
  · have c' : (i : Int) < rows.length := by omega
    have hrw := hok.row rows[i] (List.getElem_mem c)
    have hul : i < (updTo seed key n i rows).length := by rw [updTo_len]; exact c
    have hat : (updTo seed key n i rows)[i] = rows[i] := by
      have := updTo_at seed key n i rows c
      rw [List.getElem?_eq_getElem hul] at this
      exact Option.some.inj this
    have hp := signed_place (seed := seed) (rows := updTo seed key n i rows) (key := key) (i := i) h0 h1 hs hul (by rw [updTo_len]; omega) (by rw [hat]; omega)
    rw [hat] at hp
    have hcell := hcell_range (hrow seed (2 * (i : Int))) key (rows[i].length : Int) (by omega)
    obtain ⟨q, hq⟩ : ∃ q : Nat, scell seed key (i : Int) (rows[i].length : Int) = (q : Int) := ⟨_, (Int.toNat_of_nonneg hcell.1).symm⟩
    have hql : q < rows[i].length := by
      have : (q : Int) < rows[i].length := by rw [← hq]; exact hcell.2
      omega
    have hsg := hsign_or (hrow seed (2 * (i : Int) + 1)) key
    rw [hq] at hp
    have hv := hrw.2.2.2 rows[i][q] (List.getElem_mem hql)
    have hnn := (fitsB_iff n).1 hn
    have hnew : newV seed key n (i : Int) rows[i] = rows[i][q] + ssign seed key (i : Int) * n := by simp [newV, hq, hql]
    have hupd : updRow seed key n (i : Int) rows[i] = rows[i].set q (rows[i][q] + ssign seed key (i : Int) * n) := by rw [updRow, hnew, hq]; simp
    have hsn : -1099511627776 ≤ ssign seed key (i : Int) * n ∧ ssign seed key (i : Int) * n ≤ 1099511627776 := by
      rcases hsg with h | h
      · rw [ssign, h]; omega
      · rw [ssign, h]; omega
    have w1 : IntKind.i64.wrap (ssign seed key (i : Int) * n) = ssign seed key (i : Int) * n := w64_id (by omega) (by omega)
    have w2 : IntKind.i64.wrap (rows[i][q] + ssign seed key (i : Int) * n) = rows[i][q] + ssign seed key (i : Int) * n := w64_id (by omega) (by omega)
    have w3 : IntKind.i64.wrap ((i : Int) + 1) = ((i + 1 : Nat) : Int) := by rw [w64_id (by omega) (by omega)]; omega
    have hg : ∀ X Y : Ent, (X :: Y :: zH seed key n rows i)[3 + (5 + 2 * i)]? = some (.clo (rows[i].map cInt) false) := fun X Y => by
      show (X :: Y :: _ :: _ :: _ :: _ :: _ :: cl (updTo seed key n i rows))[3 + (5 + 2 * i)]? = _
      rw [show 3 + (5 + 2 * i) = (2 * i + 1) + 7 by omega]
      simp only [List.getElem?_cons_succ]
      rw [cl_get, List.getElem?_eq_getElem hul, hat]
      rfl
    have h6 : ∀ X Y : Ent, (X :: Y :: zH seed key n rows i)[6]? = some (.opn (clRows 3 rows rows.length) false) := fun X Y => rfl
    have hra : ∀ h : i < (clRows 3 rows rows.length).length, (clRows 3 rows rows.length)[i]'h = [.sl (3 + (5 + 2 * i)) 0 rows[i].length rows[i].length] := by simp [clRows]
    have hset : ∀ X Y : Ent, (X :: Y :: zH seed key n rows i).set (3 + (5 + 2 * i)) (.clo ((updRow seed key n (i : Int) rows[i]).map cInt) false) = X :: Y :: zH seed key n rows (i + 1) := fun X Y => by
      show (X :: Y :: _ :: _ :: _ :: _ :: _ :: cl (updTo seed key n i rows)).set (3 + (5 + 2 * i)) _ = _
      rw [show 3 + (5 + 2 * i) = (2 * i + 1) + 7 by omega]
      simp only [List.set_cons_succ]
      rw [cl_set, updTo_set _ _ _ _ _ c]
      rfl
    have hwr : Ent.wrC (rows[i].map cInt) q 0 [.v (.int .i64 (rows[i][q] + ssign seed key (i : Int) * n))] = (updRow seed key n (i : Int) rows[i]).map cInt := by
      rw [hupd]
      apply List.ext_getElem
      · simp [Ent.wrC]
      · intro j h1 h2
        simp only [Ent.wrC, List.getElem_modify, List.getElem_map, List.getElem_set]
        by_cases hj : q = j
        · subst hj; simp [wr, cInt]
        · rw [if_neg hj, if_neg hj]
    have hul1 : i < (updTo seed key n (i + 1) rows).length := by rw [updTo_len]; exact c
    have hg1 : ∀ X Y : Ent, (X :: Y :: zH seed key n rows (i + 1))[3 + (5 + 2 * i)]? = some (.clo ((updRow seed key n (i : Int) rows[i]).map cInt) false) := fun X Y => by
      show (X :: Y :: _ :: _ :: _ :: _ :: _ :: cl (updTo seed key n (i + 1) rows))[3 + (5 + 2 * i)]? = _
      rw [show 3 + (5 + 2 * i) = (2 * i + 1) + 7 by omega]
      simp only [List.getElem?_cons_succ]
      rw [cl_get, List.getElem?_eq_getElem hul1]
      simp [updTo]
    have hlu : (updRow seed key n (i : Int) rows[i]).length = rows[i].length := by simp [updRow]
    have hgq : ∀ h : q < (updRow seed key n (i : Int) rows[i]).length, (updRow seed key n (i : Int) rows[i])[q]'h = rows[i][q] + ssign seed key (i : Int) * n := by simp [hupd]
    have hf2 := signed_fits (rows[i][q] + ssign seed key (i : Int) * n)
    simp only [cSk] at hp
    by_cases hfit : fitsB (rows[i][q] + ssign seed key (i : Int) * n) = true
    · rw [hfit] at hf2
      simp [-fzc, fz_v, fz_arr, e1, e2, e3, e6, e24, e25, e26, c, c', vmove, isNil, h6, hra, clRows_len, hz, hp, hql, hg, vstore, cellsOf?, hwr, hset, hg1, hlu, hgq, hasRef, cInt, w1, w2, hf2]
      refine ⟨k - 1, by omega, (hI _ _).2 ⟨_, _, i + 1, rfl, rfl, by simp [e1], by simp [e2], by simp [e3], by simp [e6], by simp [e24], by simp [e25], by simp [w3], by omega, fun j hj h => ?_⟩⟩
      by_cases hji : j = i
      · subst hji
        rw [hnew]; exact hfit
      · exact hall j (by omega) h
    · rw [if_neg fun hx => hfit (by have := hx i c; rw [hnew] at this; exact this)]
      have hfit : fitsB (rows[i][q] + ssign seed key (i : Int) * n) = false := by simpa using hfit
      rw [hfit] at hf2
      simp [-fzc, fz_v, fz_arr, e1, e2, e3, e6, e24, e25, e26, c, c', vmove, isNil, h6, hra, clRows_len, hz, hp, hql, hg, vstore, cellsOf?, hwr, hset, hg1, hlu, hgq, hasRef, cInt, w1, w2, hf2, Ent.wrO, wr]
      simp [fzc, qa, cSk, cRows]
  · have c' : ¬ (i : Int) < rows.length := by omega
    have hi : i = rows.length := by omega
    subst hi
    rw [if_pos fun j h => hall j h h]
    simp [-fzc, fz_v, fz_arr, e1, e2, e3, e6, e24, e25, e26, c', vstore, cellsOf?, Ent.wrO, wr, vmove, isNil]
    simp [-fzc, fz_v, fz_arr, qa, hz, cSk, addRows]
    rfl
end Go.Proofs.YteaeigpeaneicaaF
end

section
set_option maxRecDepth 8192
set_option maxHeartbeats 1000000
namespace Go.Proofs.YteaeigpeaneicaaF
open Go Go.Proofs.Vm

def newOk (rows cols : Int) : Prop := 1 ≤ rows ∧ rows ≤ 7 ∧ rows % 2 = 1 ∧ 1 ≤ cols ∧ cols ≤ 256
def zRow (cols : Nat) : List (List CV) := List.replicate cols (cInt 0)
theorem signed_New {seed rows cols : Int} (h : newOk rows cols) : TV.pu 9 [cI .u64 seed, cI .i64 rows, cI .i64 cols] = some (.tup [(true, cSk seed (List.replicate rows.toNat (List.replicate cols.toNat 0))), (false, [.v (.int .i64 0)])]) := by
  refine run9 (by simp) ?_
  obtain ⟨a1, a2, a3, a4, a5⟩ := h
  obtain ⟨n, rfl⟩ := Int.eq_ofNat_of_zero_le (show 0 ≤ rows by omega)
  obtain ⟨m, rfl⟩ := Int.eq_ofNat_of_zero_le (show 0 ≤ cols by omega)
  have g1 : ¬ (n : Int) < 1 := by omega
  have g2 : ¬ 7 < (n : Int) := by omega
  have g3 : ((n : Int).tmod 2 == 0) = false := by rw [Int.tmod_eq_emod_of_nonneg (by omega), a3]; rfl
  have g4 : ¬ (m : Int) < 1 := by omega
  have g5 : ¬ 256 < (m : Int) := by omega
  simp [Try.f9, g1, g2, g3, g4, g5, bin_rem, vstore, cellsOf?, Ent.wrO, wr, vmove, isNil]
  obtain ⟨I, hI⟩ : ∃ I : Nat → St → Prop, ∀ k s', I k s' ↔ (∃ e h i L, s' = ⟨e, h⟩ ∧ h = .opn [[.c (.v (.int .u64 0)), .sl 1 0 0 0]] false :: .clo [] false :: .clo (List.replicate i [.arr (zRow m)]) false :: .opn [[.c (.v (.int .u64 seed)), .sl 2 0 i i]] false :: L ∧
      e 0 = vI .u64 seed ∧ e 2 = vI .i64 (m : Nat) ∧ e 6 = .one (.ptr ⟨0, 0, 0, 1⟩) ∧ e 8 = .one (.ptr ⟨3, 0, 0, 1⟩) ∧ e 31 = vI .i64 (n : Nat) ∧ e 32 = vI .i64 (i : Nat) ∧ i + k = n) := ⟨_, fun _ _ => Iff.rfl⟩
  refine wpL_ind I ?_ n _ ((hI _ _).2 ⟨_, _, 0, _, rfl, rfl, by simp, by simp, by simp, by simp, by simp, by simp, by omega⟩)
  intro k st hst
  obtain ⟨e, h, i, L, rfl, rfl, e0, e2, e6, e8, e31, e32, hk⟩ := (hI _ _).1 hst
  by_cases c : i < n
  · have c' : (i : Int) < n := by omega
    have w3 : IntKind.i64.wrap ((i : Int) + 1) = ((i + 1 : Nat) : Int) := by rw [w64_id (by omega) (by omega)]; omega
    have ha : ∀ (A B C D : Ent), vappend Try.prog (A :: B :: .clo (List.replicate i [.arr (zRow m)]) false :: D :: (L ++ [C, .clo [[.arr (zRow m)]] false])) 23 23 (.one (.sl 2 0 i i)) (.one (.sl (L.length + 1 + 1 + 1 + 1 + 1) 0 1 1)) =
        some (.one (.sl 2 0 (i + 1) (i + 1)), A :: B :: .clo (List.replicate (i + 1) [.arr (zRow m)]) false :: D :: (L ++ [C, .clo [[.arr (zRow m)]] false])) := by
      intro A B C D
      have := vappend_eq (P := Try.prog) (H := A :: B :: .clo (List.replicate i [.arr (zRow m)]) false :: D :: (L ++ [C, .clo [[.arr (zRow m)]] false])) (t := 23) (tx := 23) (id := 2) (n := i) (l := List.replicate i [.arr (zRow m)]) (xs := [[.arr (zRow m)]]) (x := .one (.sl (L.length + 1 + 1 + 1 + 1 + 1) 0 1 1)) es23 es23 el33
        (by simp) (by simp [elemsOf]) (by simp) (by intro x hx; rw [List.eq_of_mem_replicate hx]; rfl) (by simp) (by simp; omega) (by simp; omega)
      simp only [List.length_cons, List.length_nil, ← List.replicate_succ'] at this
      exact this
    have hz : List.replicate m [CV.v (.int .i64 0)] = zRow m := rfl
    have hzl : (zRow m).length = m := by simp [zRow]
    have hzt : List.take m (zRow m) = zRow m := List.take_of_length_le (by omega)
    have b1 : 8 * m ≤ 70368744177664 := by omega
    have b2 : (m : Int) ≤ 4611686018427387904 := by omega
    simp [e0, e2, e6, e8, e31, e32, c, c', w3, b1, b2, hzl, hzt, vstore, Ent.wrO, wr, vmakeSlice_eq es33 el3, vbuildSlice_eq es23 el33, small, vmove, isNil, cellsOf?, fzParts, setAll, rchParts, rch, frzAll, Ent.frz, hz, ha]
    exact ⟨k - 1, by omega, (hI _ _).2 ⟨_, _, i + 1, _, rfl, rfl, by simp [e0], by simp [e2], by simp [e6], by simp [e8], by simp [e31], by simp [w3], by omega⟩⟩
  · have c' : ¬ (i : Int) < n := by omega
    have hi : i = n := by omega
    subst hi
    simp [e0, e2, e6, e8, e31, e32, c, c', vstore, cellsOf?, Ent.wrO, wr, vmove, isNil]
    simp [qa, cSk, cRows, cRow, zRow]

theorem signed_New_arg {seed rows cols : Int} (h : ¬ newOk rows cols) : TV.pu 9 [cI .u64 seed, cI .i64 rows, cI .i64 cols] = some (.tup [(true, cSk 0 []), (false, [.v (.int .i64 1)])]) := by
  refine run9 (by simp) ?_
  by_cases g1 : rows < 1
  · simp [Try.f9, g1, vstore, cellsOf?, Ent.wrO, wr, vmove, isNil]
    simp [qa, fzc, cSk, cRows]
  by_cases g2 : 7 < rows
  · simp [Try.f9, g1, g2, vstore, cellsOf?, Ent.wrO, wr, vmove, isNil]
    simp [qa, fzc, cSk, cRows]
  by_cases g3 : (rows.tmod 2 == 0) = true
  · simp [Try.f9, g1, g2, g3, bin_rem, vstore, cellsOf?, Ent.wrO, wr, vmove, isNil]
    simp [qa, fzc, cSk, cRows]
  have g3 : (rows.tmod 2 == 0) = false := by simpa using g3
  by_cases g4 : cols < 1
  · simp [Try.f9, g1, g2, g3, g4, bin_rem, vstore, cellsOf?, Ent.wrO, wr, vmove, isNil]
    simp [qa, fzc, cSk, cRows]
  by_cases g5 : 256 < cols
  · simp [Try.f9, g1, g2, g3, g4, g5, bin_rem, vstore, cellsOf?, Ent.wrO, wr, vmove, isNil]
    simp [qa, fzc, cSk, cRows]
  · refine absurd ⟨by omega, by omega, ?_, by omega, by omega⟩ h
    rw [Int.tmod_eq_emod_of_nonneg (by omega)] at g3
    have : rows % 2 ≠ 0 := by simpa using g3
    omega
end Go.Proofs.YteaeigpeaneicaaF
end

section
set_option maxRecDepth 8192
set_option maxHeartbeats 1000000
namespace Go.Proofs.YteaeigpeaneicaaF
open Go Go.Proofs.Vm

def getL (seed : Int) (key : ByteArray) (rows : List (List Int)) : List Int := rows.mapIdx fun i r => ssign seed key (i : Int) * r.getD (scell seed key (i : Int) r.length).toNat 0
def srt (l : List Int) : List Int := l.mergeSort fun x y => decide (x ≤ y)
def med (l : List Int) : Int := (srt l).getD (l.length / 2) 0

theorem sort_run {H : Hp} {id : Nat} {l : List Int} (h : H[id]? = some (.clo (l.map cInt) false)) (hlt : l.length < 4611686018427387904) : TV.S 31 [.one (.sl id 0 l.length l.length)] H = some (und, H.set id (.clo ((srt l).map cInt) false)) := by
  refine TT_baseS ?_
  show (if (31 : FuncId) = 31 then sortRun [.one (.sl id 0 l.length l.length)] H else none) = _
  rw [if_pos rfl]
  simp only [sortRun, h, mapO_intOf, List.length_map]
  simp [srt, hlt]

theorem getL_len (seed : Int) (key : ByteArray) (rows : List (List Int)) : (getL seed key rows).length = rows.length := by simp [getL]

theorem signed_Get {seed : Int} {rows : List (List Int)} {key : ByteArray} (h0 : 0 ≤ seed) (h1 : seed < 18446744073709551616) (hs : key.size ≤ 140737488351232) (hok : OkR rows) :
    TV.pu 16 [.agg (cSk seed rows), cS key] = some (cI .i64 (med (getL seed key rows))) := by
  refine run16 (by simp) ?_
  have l7 := hok.l7
  have hR := signed_Right (seed := seed) (rows := rows) (by omega) (fun x hx => by have := (hok.row x hx).2.1; omega)
  rw [(okB_iff rows).2 hok] at hR
  simp only [cSk, cRows] at hR
  simp [Try.f16, cSk, cRows, hR, vmove, isNil]
  obtain ⟨I, hI⟩ : ∃ I : Nat → St → Prop, ∀ k s', I k s' ↔ (∃ e h i L, s' = ⟨e, h⟩ ∧ h = .opn [[.c (.v (.int .u64 seed)), .c (cRows rows)]] false :: .clo (((getL seed key rows).take i).map cInt) false :: L ∧
      e 1 = vS key ∧ e 2 = .one (.ptr ⟨0, 0, 0, 1⟩) ∧ e 5 = .one (.sl 1 0 i i) ∧ e 14 = .one (.c (cRows rows)) ∧ e 15 = vI .i64 rows.length ∧ e 16 = vI .i64 (i : Nat) ∧ i + k = rows.length) := ⟨_, fun _ _ => Iff.rfl⟩
  refine wpL_ind I ?_ rows.length _ ((hI _ _).2 ⟨_, _, 0, _, rfl, rfl, by simp, by simp, by simp, by simp [cRows], by simp, by simp, by omega⟩)
  intro k st hst
  obtain ⟨e, h, i, L, rfl, rfl, e1, e2, e5, e14, e15, e16, hk⟩ := (hI _ _).1 hst
  by_cases c : i < rows.length
  · have c' : (i : Int) < rows.length := by omega
    have hrw := hok.row rows[i] (List.getElem_mem c)
    have hp := signed_place (seed := seed) (rows := rows) (key := key) (i := i) h0 h1 hs c (by omega) (by omega)
    have hcell := hcell_range (hrow seed (2 * (i : Int))) key (rows[i].length : Int) (by omega)
    obtain ⟨q, hq⟩ : ∃ q : Nat, scell seed key (i : Int) (rows[i].length : Int) = (q : Int) := ⟨_, (Int.toNat_of_nonneg hcell.1).symm⟩
    have hql : q < rows[i].length := by
      have : (q : Int) < rows[i].length := by rw [← hq]; exact hcell.2
      omega
    have hsg := hsign_or (hrow seed (2 * (i : Int) + 1)) key
    rw [hq] at hp
    have hv := hrw.2.2.2 rows[i][q] (List.getElem_mem hql)
    have hsn : -1099511627776 ≤ ssign seed key (i : Int) * rows[i][q] ∧ ssign seed key (i : Int) * rows[i][q] ≤ 1099511627776 := by
      rcases hsg with h | h
      · rw [ssign, h]; omega
      · rw [ssign, h]; omega
    have w1 : IntKind.i64.wrap (ssign seed key (i : Int) * rows[i][q]) = ssign seed key (i : Int) * rows[i][q] := w64_id (by omega) (by omega)
    have w3 : IntKind.i64.wrap ((i : Int) + 1) = ((i + 1 : Nat) : Int) := by rw [w64_id (by omega) (by omega)]; omega
    have hgl : (getL seed key rows).take (i + 1) = (getL seed key rows).take i ++ [ssign seed key (i : Int) * rows[i][q]] := by
      rw [List.take_add_one]
      simp [getL, List.getElem?_mapIdx, c, hq, hql]
    have ha : vappend Try.prog (.opn [[.c (.v (.int .u64 seed)), .c (cRows rows)]] false :: .clo (((getL seed key rows).take i).map cInt) false :: (L ++ [.clo [cInt (ssign seed key (i : Int) * rows[i][q])] false])) 33 33 (.one (.sl 1 0 i i)) (.one (.sl (L.length + 1 + 1) 0 1 1)) =
        some (.one (.sl 1 0 (i + 1) (i + 1)), .opn [[.c (.v (.int .u64 seed)), .c (cRows rows)]] false :: .clo (((getL seed key rows).take (i + 1)).map cInt) false :: (L ++ [.clo [cInt (ssign seed key (i : Int) * rows[i][q])] false])) := by
      have := vappend_eq (P := Try.prog) (H := .opn [[.c (.v (.int .u64 seed)), .c (cRows rows)]] false :: .clo (((getL seed key rows).take i).map cInt) false :: (L ++ [.clo [cInt (ssign seed key (i : Int) * rows[i][q])] false])) (t := 33) (tx := 33) (id := 1) (n := i) (l := ((getL seed key rows).take i).map cInt) (xs := [cInt (ssign seed key (i : Int) * rows[i][q])]) (x := .one (.sl (L.length + 1 + 1) 0 1 1)) es33 es33 el3
        (by simp) (by simp [elemsOf]) (by simp [getL_len]; omega) (by intro x hx; obtain ⟨y, _, rfl⟩ := List.mem_map.1 hx; rfl) (by simp) (by simp; omega) (by simp; omega)
      rw [this, hgl]
      simp
    simp only [cSk, cRows, cRow] at hp
    simp only [cRows, cRow, cInt, List.map_take] at ha
    simp [e1, e2, e5, e14, e15, e16, c, c', cRows, cRow, w1, w3, hp, hql, cInt, vmove, isNil, vbuildSlice_eq es33 el3, cellsOf?, fzParts, setAll, rchParts, rch, ha]
    exact ⟨k - 1, by omega, (hI _ _).2 ⟨_, _, i + 1, _, rfl, by simp [cRows, cRow, cInt, List.map_take]; rfl, by simp [e1], by simp [e2], by simp, by simp [e14, cRows, cRow], by simp [e15], by simp [w3], by omega⟩⟩
  · have c' : ¬ (i : Int) < rows.length := by omega
    have hi : i = rows.length := by omega
    subst hi
    have ht : (getL seed key rows).take rows.length = getL seed key rows := List.take_of_length_le (by rw [getL_len]; omega)
    have hso := sort_run (H := .opn [[.c (.v (.int .u64 seed)), .c (cRows rows)]] false :: .clo ((getL seed key rows).map cInt) false :: L) (id := 1) (l := getL seed key rows) (by simp) (by rw [getL_len]; omega)
    rw [getL_len] at hso
    simp only [cRows, cInt] at hso
    obtain ⟨p, hpe⟩ : ∃ p, p = rows.length / 2 := ⟨_, rfl⟩
    have wq : IntKind.i64.wrap ((rows.length : Int) / 2) = (p : Int) := by rw [w64_id (by omega) (by omega)]; omega
    have hsl : (srt (getL seed key rows)).length = rows.length := by simp [srt, getL_len]
    have hlt : p < rows.length := by have := hok.odd; omega
    simp [e1, e2, e5, e14, e15, e16, c, c', cRows, cInt, ht, hso, wq, hsl, hlt, bin_quo, vmove, isNil]
    simp [med, getL_len, ← hpe, hsl, hlt]
end Go.Proofs.YteaeigpeaneicaaF
end

section
set_option maxRecDepth 8192
set_option maxHeartbeats 1000000
namespace Go.Proofs.YteaeigpeaneicaaF
open Go Go.Proofs.Vm

theorem ref12_Fits (n : Int) : TV.pu 21 [cI .i64 n] = some (cB (fitsB n)) := by
  refine run21 (by simp) ?_
  by_cases h : -1099511627776 ≤ n <;> simp [Try.f21, h, fitsB]

theorem ref11_SameRows {a b : List (List Int)} (ha : a.length < 9223372036854775807) (hr : ∀ x ∈ a, x.length < 9223372036854775807) : TV.pu 27 [.one (cRows a), .one (cRows b)] = some (cB (decide (a = b))) := by
  refine run27 (by simp) ?_
  by_cases hl : a.length = b.length
  · have hl' : ((a.length : Int) != (b.length : Int)) = false := by simp [hl]
    simp [Try.f27, cRows, hl']
    obtain ⟨I, hI⟩ : ∃ I : Nat → St → Prop, ∀ k s', I k s' ↔ (∃ e i, s' = ⟨e, []⟩ ∧ e 0 = .one (.c (cRows a)) ∧ e 1 = .one (.c (cRows b)) ∧ e 5 = vI .i64 (i : Nat) ∧ i + k = a.length ∧ ∀ j, j < i → a[j]? = b[j]?) := ⟨_, fun _ _ => Iff.rfl⟩
    refine wpL_ind I ?_ a.length _ ((hI _ _).2 ⟨_, 0, rfl, by simp [cRows], by simp [cRows], by simp, by omega, by omega⟩)
    intro k st hst
    obtain ⟨e, i, rfl, e0, e1, e5, hk, hall⟩ := (hI _ _).1 hst
    by_cases c : i < a.length
    · have c' : (i : Int) < a.length := by omega
      have cb : i < b.length := by omega
      have hai := hr a[i] (List.getElem_mem c)
      have w3 : IntKind.i64.wrap ((i : Int) + 1) = ((i + 1 : Nat) : Int) := by rw [w64_id (by omega) (by omega)]; omega
      by_cases hlr : a[i].length = b[i].length
      · have hlr' : ((a[i].length : Int) != (b[i].length : Int)) = false := by simp [hlr]
        simp [e0, e1, e5, c, c', cb, cRows, cRow, hlr']
        obtain ⟨J, hJ⟩ : ∃ J : Nat → St → Prop, ∀ k s', J k s' ↔ (∃ e q, s' = ⟨e, []⟩ ∧ e 0 = .one (.c (cRows a)) ∧ e 1 = .one (.c (cRows b)) ∧ e 5 = vI .i64 (i : Nat) ∧ e 6 = vI .i64 (q : Nat) ∧ q + k = a[i].length ∧ ∀ j, j < q → a[i][j]? = b[i][j]?) := ⟨_, fun _ _ => Iff.rfl⟩
        refine wpL_ind J ?_ a[i].length _ ((hJ _ _).2 ⟨_, 0, rfl, by simp [e0, cRows], by simp [e1, cRows], by simp [e5], by simp, by omega, by omega⟩)
        intro k2 st hst
        obtain ⟨e, q, rfl, f0, f1, f5, f6, hk2, hall2⟩ := (hJ _ _).1 hst
        by_cases d : q < a[i].length
        · have d' : (q : Int) < a[i].length := by omega
          have db : q < b[i].length := by omega
          have w4 : IntKind.i64.wrap ((q : Int) + 1) = ((q + 1 : Nat) : Int) := by rw [w64_id (by omega) (by omega)]; omega
          by_cases hv : a[i][q] = b[i][q]
          · have hv' : (a[i][q] != b[i][q]) = false := by simp [hv]
            simp [f0, f1, f5, f6, c, cb, d, d', db, cRows, cRow, cInt, hv', w4]
            refine ⟨k2 - 1, by omega, (hJ _ _).2 ⟨_, q + 1, rfl, by simp [f0, cRows], by simp [f1, cRows], by simp [f5], by simp [w4], by omega, fun j hj => ?_⟩⟩
            by_cases hjq : j = q
            · subst hjq
              rw [List.getElem?_eq_getElem d, List.getElem?_eq_getElem db, hv]
            · exact hall2 j (by omega)
          · have hv' : (a[i][q] != b[i][q]) = true := by simp [hv]
            have hne : ¬ a = b := by rintro rfl; exact hv rfl
            simp [f0, f1, f5, f6, c, cb, d, d', db, cRows, cRow, cInt, hv', hne]
        · have d' : ¬ (q : Int) < a[i].length := by omega
          have heq : a[i] = b[i] := by
            apply List.ext_getElem?
            intro j
            by_cases hj : j < q
            · exact hall2 j hj
            · rw [List.getElem?_eq_none (by omega), List.getElem?_eq_none (by omega)]
          simp [f0, f1, f5, f6, c, d', cRows, cRow, w3]
          refine ⟨k - 1, by omega, (hI _ _).2 ⟨_, i + 1, rfl, by simp [f0, cRows], by simp [f1, cRows], by simp [w3], by omega, fun j hj => ?_⟩⟩
          by_cases hji : j = i
          · subst hji
            rw [List.getElem?_eq_getElem c, List.getElem?_eq_getElem cb, heq]
          · exact hall j (by omega)
      · have hlr' : ((a[i].length : Int) != (b[i].length : Int)) = true := by simp; omega
        have hne : ¬ a = b := by rintro rfl; exact hlr rfl
        simp [e0, e1, e5, c, c', cb, cRows, cRow, hlr', hne]
    · have c' : ¬ (i : Int) < a.length := by omega
      have heq : a = b := by
        apply List.ext_getElem?
        intro j
        by_cases hj : j < i
        · exact hall j hj
        · rw [List.getElem?_eq_none (by omega), List.getElem?_eq_none (by omega)]
      subst heq
      simp [e0, e1, e5, c', cRows]
  · have hl' : ((a.length : Int) != (b.length : Int)) = true := by simp; omega
    have hne : ¬ a = b := by rintro rfl; exact hl rfl
    simp [Try.f27, cRows, hl', hne]

theorem ref12_Equal {s t : Int} {a b : List (List Int)} (ha : a.length < 9223372036854775807) (hr : ∀ x ∈ a, x.length < 9223372036854775807) : TV.pu 10 [.agg (cSk s a), .agg (cSk t b)] = some (cB (decide (s = t ∧ a = b))) := by
  refine run10 (by simp) ?_
  have h := ref11_SameRows (b := b) ha hr
  simp only [cRows] at h
  by_cases hs : s = t
  · have hs' : (s == t) = true := by simp [hs]
    simp [Try.f10, cSk, cRows, hs', h]
    exact fun _ => hs
  · have hs' : (s == t) = false := by simp [hs]
    simp [Try.f10, cSk, cRows, hs', h, hs]

/-- What the document takes for right is what the program takes for right. -/
theorem ref12_Right {seed : Int} {rows : List (List Int)} (hl : rows.length < 9223372036854775807) (hl2 : ∀ x ∈ rows, x.length < 9223372036854775807) : TV.pu 13 [.agg (cSk seed rows)] = some (cB (okB rows)) := by
  refine run13 (by simp) ?_
  by_cases hn : rows.length = 1 ∨ rows.length = 3 ∨ rows.length = 5 ∨ rows.length = 7
  · have h7 : rows.length ≤ 7 := by omega
    have hodd : rows.length % 2 = 1 := by omega
    have key : okB rows = !rows.any (rowB rows) := by simp [okB, h7, hodd]
    rw [key]
    have h0 : 0 < rows.length := by omega
    have hhd : rows.headD [] = rows[0] := by cases rows with | nil => simp at h0 | cons h t => rfl
    have bad : ∀ i, ∀ h : i < rows.length, rowB rows rows[i] = true → (!rows.any (rowB rows)) = false := fun i h hb => by
      rw [List.any_eq_true.2 ⟨_, List.getElem_mem h, hb⟩]; rfl
    have good : (∀ i, ∀ h : i < rows.length, rowB rows rows[i] = false) → (!rows.any (rowB rows)) = true := fun hg => by
      have : rows.any (rowB rows) = false := by
        rw [List.any_eq_false]
        intro x hx
        obtain ⟨i, hi, rfl⟩ := List.getElem_of_mem hx
        rw [hg i hi]; simp
      rw [this]; rfl
    obtain ⟨R, hR⟩ : ∃ R, R = (!rows.any (rowB rows)) := ⟨_, rfl⟩
    rw [← hR] at bad good ⊢
    obtain ⟨N, hN⟩ : ∃ N, N = rows.length := ⟨_, rfl⟩
    rw [← hN] at hn
    obtain ⟨I, hI⟩ : ∃ I : Nat → St → Prop, ∀ k s', I k s' ↔ (∃ e i, s' = ⟨e, [.opn [[.c (.v (.int .u64 seed)), .c (cRows rows)]] false]⟩ ∧ e 1 = .one (.ptr ⟨0, 0, 0, 1⟩) ∧ e 3 = vI .i64 (N : Nat) ∧ e 4 = vI .i64 (i : Nat) ∧ i + k = N ∧ ∀ j, j < i → ∀ h : j < rows.length, rowB rows rows[j] = false) := ⟨_, fun _ _ => Iff.rfl⟩
    have hNi : (rows.length : Int) = (N : Int) := by omega
    rcases hn with hn | hn | hn | hn
    all_goals
      simp [Try.f13, cSk, cRows, hNi, hn]
      refine wpL_ind I ?_ N _ ((hI _ _).2 ⟨_, 0, rfl, by simp, by simp [hn], by simp, by omega, by omega⟩)
      intro k st hst
      obtain ⟨e, i, rfl, e1, e3, e4, hk, hall⟩ := (hI _ _).1 hst
      by_cases c : i < rows.length
      · have c' : (i : Int) < (N : Int) := by omega
        have hai := hl2 rows[i] (List.getElem_mem c)
        have hB : rowB rows rows[i] = (decide (rows[i].length < 1) || decide (256 < rows[i].length) || decide (rows[i].length ≠ rows[0].length) || rows[i].any (fun n => !fitsB n)) := by unfold rowB; rw [hhd]
        have w3 : IntKind.i64.wrap ((i : Int) + 1) = ((i + 1 : Nat) : Int) := by rw [w64_id (by omega) (by omega)]; omega
        by_cases z1 : ((rows[i].length : Int) == 0) = true
        · have hb : R = false := bad i c (by rw [hB, decide_eq_true (show rows[i].length < 1 by simp at z1; simp [z1])]; simp)
          simp [e1, e3, e4, c, c', cRows, cRow, z1, hb]
        have z1' : ((rows[i].length : Int) == 0) = false := by simpa using z1
        by_cases z2 : 256 < (rows[i].length : Int)
        · have hb : R = false := bad i c (by rw [hB, decide_eq_true (show 256 < rows[i].length by omega)]; simp)
          simp [e1, e3, e4, c, c', cRows, cRow, z1', z2, hb]
        by_cases z3 : ((rows[i].length : Int) != (rows[0].length : Int)) = true
        · have hb : R = false := bad i c (by rw [hB, decide_eq_true (show rows[i].length ≠ rows[0].length by simp at z3; omega)]; simp)
          simp [e1, e3, e4, c, c', h0, cRows, cRow, z1', z2, Int.not_lt.1 z2, z3, hb]
        have z3' : ((rows[i].length : Int) != (rows[0].length : Int)) = false := by simpa using z3
        simp [e1, e3, e4, c, c', h0, cRows, cRow, z1', z2, Int.not_lt.1 z2, z3']
        obtain ⟨J, hJ⟩ : ∃ J : Nat → St → Prop, ∀ k s', J k s' ↔ (∃ e q, s' = ⟨e, [.opn [[.c (.v (.int .u64 seed)), .c (cRows rows)]] false]⟩ ∧ e 1 = .one (.ptr ⟨0, 0, 0, 1⟩) ∧ e 3 = vI .i64 (N : Nat) ∧ e 4 = vI .i64 (i : Nat) ∧ e 5 = vI .i64 rows[i].length ∧ e 6 = vI .i64 (q : Nat) ∧ q + k = rows[i].length ∧ ∀ j, j < q → ∀ h : j < rows[i].length, fitsB rows[i][j] = true) := ⟨_, fun _ _ => Iff.rfl⟩
        refine wpL_ind J ?_ rows[i].length _ ((hJ _ _).2 ⟨_, 0, by simp only [cRows, cRow]; rfl, by simp [e1], by simp [e3], by simp [e4], by simp, by simp, by omega, by omega⟩)
        intro k2 st hst
        obtain ⟨e, q, rfl, f1, f3, f4, f5, f6, hk2, hall2⟩ := (hJ _ _).1 hst
        by_cases d : q < rows[i].length
        · have d' : (q : Int) < rows[i].length := by omega
          have w4 : IntKind.i64.wrap ((q : Int) + 1) = ((q + 1 : Nat) : Int) := by rw [w64_id (by omega) (by omega)]; omega
          have hf := ref12_Fits rows[i][q]
          by_cases hv : fitsB rows[i][q] = true
          · rw [hv] at hf
            simp [f1, f3, f4, f5, f6, c, d, d', cRows, cRow, cInt, hf, w4]
            refine ⟨k2 - 1, by omega, (hJ _ _).2 ⟨_, q + 1, by simp only [cRows, cRow, cInt]; rfl, by simp [f1], by simp [f3], by simp [f4], by simp [f5], by simp [w4], by omega, fun j hj h => ?_⟩⟩
            by_cases hjq : j = q
            · subst hjq; exact hv
            · exact hall2 j (by omega) h
          · have hv : fitsB rows[i][q] = false := by simpa using hv
            have hb : R = false := bad i c (by
              rw [hB]
              have : rows[i].any (fun n => !fitsB n) = true := List.any_eq_true.2 ⟨rows[i][q], List.getElem_mem d, by simp [hv]⟩
              rw [this]; simp)
            rw [hv] at hf
            simp [f1, f3, f4, f5, f6, c, d, d', cRows, cRow, cInt, hf, hb]
        · have d' : ¬ (q : Int) < rows[i].length := by omega
          have hrowB : rowB rows rows[i] = false := by
            rw [hB]
            have t1 : ¬ rows[i].length < 1 := by simp at z1'; intro h; exact z1' (by cases hx : rows[i] with | nil => rfl | cons a l => rw [hx] at h; simp at h)
            have t2 : ¬ 256 < rows[i].length := by omega
            have t3 : ¬ rows[i].length ≠ rows[0].length := by simp at z3'; omega
            have t4 : rows[i].any (fun n => !fitsB n) = false := by
              rw [List.any_eq_false]
              intro x hx
              obtain ⟨j, hj, rfl⟩ := List.getElem_of_mem hx
              rw [hall2 j (by omega) hj]; simp
            rw [t4, decide_eq_false t1, decide_eq_false t2, decide_eq_false t3]; rfl
          simp [f1, f3, f4, f5, f6, d', w3]
          refine ⟨k - 1, by omega, (hI _ _).2 ⟨_, i + 1, by rfl, by simp [f1], by simp [f3], by simp [w3], by omega, fun j hj h => ?_⟩⟩
          by_cases hji : j = i
          · subst hji; exact hrowB
          · exact hall j (by omega) h
      · have c' : ¬ (i : Int) < (N : Int) := by omega
        have hg : R = true := good fun j h => hall j (by omega) h
        simp [e1, e3, e4, c', hg]
  · have g1 : ((rows.length : Int) != 1) = true := by simp; omega
    have g2 : ((rows.length : Int) != 3) = true := by simp; omega
    have g3 : ((rows.length : Int) != 5) = true := by simp; omega
    have g4 : ((rows.length : Int) != 7) = true := by simp; omega
    have hb : okB rows = false := by
      by_cases h7 : rows.length ≤ 7
      · have : ¬ rows.length % 2 = 1 := by omega
        simp [okB, this]
      · simp [okB, h7]
    simp [Try.f13, cSk, cRows, g1, g2, g3, g4, hb]
end Go.Proofs.YteaeigpeaneicaaF
end

section
set_option maxRecDepth 8192
set_option maxHeartbeats 1000000
namespace Go.Proofs.YteaeigpeaneicaaF
open Go Go.Proofs.Vm

theorem law_ref {seed : Int} {rows : List (List Int)} : TV.pu 11 [.agg (cSk seed rows)] = some (.agg (cSk seed rows)) := by
  refine run11 (by simp) ?_
  simp [Try.f11, cSk, cRows, vstore, cellsOf?, Ent.wrO, wr, vmove, isNil]
  simp [qa]

/-- Rows of numbers within a bound. -/
def Within (B : Int) (rows : List (List Int)) : Prop := ∀ r ∈ rows, ∀ v ∈ r, -B ≤ v ∧ v ≤ B
theorem ssign_or (seed : Int) (key : ByteArray) (i : Int) : ssign seed key i = 1 ∨ ssign seed key i = -1 := hsign_or _ _
theorem newV_within {B N : Int} {rows : List (List Int)} (hw : Within B rows) (hok : OkR rows) {seed : Int} {key : ByteArray} {n : Int} (hn : -N ≤ n ∧ n ≤ N) (i : Nat) (h : i < rows.length) :
    -(B + N) ≤ newV seed key n (i : Int) rows[i] ∧ newV seed key n (i : Int) rows[i] ≤ B + N := by
  have hcell := hcell_range (hrow seed (2 * (i : Int))) key (rows[i].length : Int) (by have := (hok.row _ (List.getElem_mem h)).1; omega)
  have hql : (scell seed key (i : Int) rows[i].length).toNat < rows[i].length := by
    have h1 : scell seed key (i : Int) rows[i].length < rows[i].length := hcell.2
    have h2 : 0 ≤ scell seed key (i : Int) rows[i].length := hcell.1
    omega
  have hv := hw _ (List.getElem_mem h) _ (List.getElem_mem hql)
  unfold newV
  rw [List.getD_eq_getElem?_getD, List.getElem?_eq_getElem hql]
  simp only [Option.getD_some]
  rcases ssign_or seed key (i : Int) with h | h <;> rw [h] <;> omega

theorem addRows_at {seed : Int} {key : ByteArray} {n : Int} {rows : List (List Int)} (i : Nat) (h : i < rows.length) (h2 : i < (addRows seed key n rows).length) : (addRows seed key n rows)[i] = updRow seed key n (i : Int) rows[i] := by
  simp [addRows, updTo, h]
theorem addRows_len {seed : Int} {key : ByteArray} {n : Int} {rows : List (List Int)} : (addRows seed key n rows).length = rows.length := updTo_len ..
theorem addRows_within {B N : Int} {rows : List (List Int)} (hw : Within B rows) (hok : OkR rows) {seed : Int} {key : ByteArray} {n : Int} (hn : -N ≤ n ∧ n ≤ N) : Within (B + N) (addRows seed key n rows) := by
  intro r hr v hv
  obtain ⟨i, hi, rfl⟩ := List.getElem_of_mem hr
  have hi' : i < rows.length := by rw [addRows_len] at hi; exact hi
  rw [addRows_at i hi' hi] at hv
  unfold updRow at hv
  rcases List.mem_or_eq_of_mem_set hv with h | h
  · have := hw _ (List.getElem_mem hi') _ h
    omega
  · subst h
    exact newV_within hw hok hn i hi'
theorem addRows_ok {B N : Int} {rows : List (List Int)} (hw : Within B rows) (hok : OkR rows) {seed : Int} {key : ByteArray} {n : Int} (hn : -N ≤ n ∧ n ≤ N) (hB : B + N ≤ 1099511627776) : OkR (addRows seed key n rows) where
  l7 := by rw [addRows_len]; exact hok.l7
  odd := by rw [addRows_len]; exact hok.odd
  row r hr := by
    have hwi := addRows_within hw hok (seed := seed) (key := key) hn r hr
    obtain ⟨i, hi, rfl⟩ := List.getElem_of_mem hr
    have hi' : i < rows.length := by rw [addRows_len] at hi; exact hi
    have hlen : ∀ j (h : j < rows.length) (h2 : j < (addRows seed key n rows).length), (addRows seed key n rows)[j].length = rows[j].length := fun j h h2 => by rw [addRows_at j h h2]; simp [updRow]
    have h := hok.row _ (List.getElem_mem hi')
    have h0 : 0 < rows.length := by omega
    have hd : ((addRows seed key n rows).headD []).length = (rows.headD []).length := by
      have e1 : ∀ l : List (List Int), (h : 0 < l.length) → l.headD [] = l[0] := fun l h => by cases l with | nil => simp at h | cons a t => rfl
      rw [e1 _ (by rw [addRows_len]; exact h0), e1 _ h0]
      exact hlen 0 h0 _
    rw [hlen i hi' hi, hd]
    exact ⟨h.1, h.2.1, h.2.2.1, fun v hv => by have := hwi v hv; omega⟩
theorem addRows_fits {B N : Int} {rows : List (List Int)} (hw : Within B rows) (hok : OkR rows) {seed : Int} {key : ByteArray} {n : Int} (hn : -N ≤ n ∧ n ≤ N) (hB : B + N ≤ 1099511627776) : ∀ j, ∀ h : j < rows.length, fitsB (newV seed key n (j : Int) rows[j]) = true := fun j h => by
  have := newV_within hw hok (seed := seed) (key := key) hn j h
  rw [fitsB_iff]; omega
theorem new_ok {rows cols : Int} (h : newOk rows cols) : OkR (List.replicate rows.toNat (List.replicate cols.toNat (0 : Int))) where
  l7 := by have := h.2.1; simp; omega
  odd := by have := h.2.2.1; have := h.1; simp; omega
  row r hr := by
    have := List.eq_of_mem_replicate hr
    subst this
    have h1 := h.1; have h2 := h.2.2.2.1; have h3 := h.2.2.2.2
    have hd : (List.replicate rows.toNat (List.replicate cols.toNat (0 : Int))).headD [] = List.replicate cols.toNat 0 := by
      obtain ⟨k, hk⟩ : ∃ k, rows.toNat = k + 1 := ⟨rows.toNat - 1, by omega⟩
      rw [hk, List.replicate_succ]; rfl
    rw [hd]
    refine ⟨by simp; omega, by simp; omega, rfl, fun v hv => ?_⟩
    rw [List.eq_of_mem_replicate hv]; omega
theorem new_within {rows cols : Int} : Within 0 (List.replicate rows.toNat (List.replicate cols.toNat (0 : Int))) := by
  intro r hr v hv
  rw [List.eq_of_mem_replicate hr] at hv
  rw [List.eq_of_mem_replicate hv]; omega
theorem med_mem {l : List Int} (h : l ≠ []) : med l ∈ l := by
  have hl : l.length / 2 < (srt l).length := by
    have : 0 < l.length := List.length_pos_iff.2 h
    simp [srt]; omega
  unfold med
  rw [List.getD_eq_getElem?_getD, List.getElem?_eq_getElem hl]
  exact List.mem_mergeSort.1 (List.getElem_mem hl)
end Go.Proofs.YteaeigpeaneicaaF
end

section
set_option maxRecDepth 8192
set_option maxHeartbeats 1000000
namespace Go.Proofs.YteaeigpeaneicaaF
open Go Go.Proofs.Vm

theorem ssign_sq (seed : Int) (key : ByteArray) (i : Int) : ssign seed key i * ssign seed key i = 1 := by
  rcases ssign_or seed key i with h | h <;> rw [h] <;> rfl
theorem getL_add {rows : List (List Int)} (hok : OkR rows) (seed : Int) (key : ByteArray) (n : Int) : getL seed key (addRows seed key n rows) = (getL seed key rows).map (· + n) := by
  apply List.ext_getElem
  · simp [getL, addRows_len]
  · intro i h1 h2
    have hi : i < rows.length := by simpa [getL] using h2
    have hcell := hcell_range (hrow seed (2 * (i : Int))) key (rows[i].length : Int) (by have := (hok.row _ (List.getElem_mem hi)).1; omega)
    have hql : (scell seed key (i : Int) rows[i].length).toNat < rows[i].length := by
      have h1 : scell seed key (i : Int) rows[i].length < rows[i].length := hcell.2
      have h2 : 0 ≤ scell seed key (i : Int) rows[i].length := hcell.1
      omega
    have hl : (updRow seed key n (i : Int) rows[i]).length = rows[i].length := by simp [updRow]
    simp only [getL, List.getElem_mapIdx, List.getElem_map, addRows_at i hi]
    rw [hl]
    have hg : (updRow seed key n (i : Int) rows[i]).getD (scell seed key (i : Int) rows[i].length).toNat 0 = newV seed key n (i : Int) rows[i] := by
      unfold updRow
      rw [List.getD_eq_getElem?_getD, List.getElem?_set_self hql]
      rfl
    rw [hg, newV, Int.mul_add, ← Int.mul_assoc, ssign_sq, Int.one_mul]
theorem med_const {l : List Int} (h : l ≠ []) (n : Int) (hc : ∀ x ∈ l, x = n) : med l = n := hc _ (med_mem h)

theorem law_awake : TV.pu 12 [] = some (cB true) := by
  refine run12 (by simp) ?_
  have hno : newOk 1 1 := by unfold newOk; omega
  have hn3 : newOk 3 8 := by unfold newOk; omega
  obtain ⟨R0, hR0⟩ : ∃ R, R = List.replicate (3 : Int).toNat (List.replicate (8 : Int).toNat (0 : Int)) := ⟨_, rfl⟩
  have a0 := signed_New (seed := 1) hn3
  have o0 := new_ok hn3
  have w0 := new_within (rows := 3) (cols := 8)
  rw [← hR0] at a0 o0 w0
  obtain ⟨ky, hky⟩ : ∃ ky : ByteArray, ky = { data := #[97] } := ⟨_, rfl⟩
  have hks : ky.size ≤ 140737488351232 := by rw [hky]; decide
  have a1 := signed_Add (seed := 1) (rows := R0) (key := ky) (n := 5) (by omega) (by omega) hks o0 (by rw [fitsB_iff]; omega)
  rw [if_pos (addRows_fits (N := 5) w0 o0 (by omega) (by omega))] at a1
  have o1 := addRows_ok (N := 5) w0 o0 (seed := 1) (key := ky) (n := 5) (by omega) (by omega)
  have w1 := addRows_within (N := 5) w0 o0 (seed := 1) (key := ky) (n := 5) (by omega)
  have g1 := getL_add o0 1 ky 5
  have g2 := getL_add o1 1 ky (-2)
  rw [g1] at g2
  obtain ⟨R1, hR1⟩ : ∃ R, R = addRows 1 ky 5 R0 := ⟨_, rfl⟩
  rw [← hR1] at a1 o1 w1 g2
  have a2 := signed_Add (seed := 1) (rows := R1) (key := ky) (n := -2) (by omega) (by omega) hks o1 (by rw [fitsB_iff]; omega)
  rw [if_pos (addRows_fits (N := 2) w1 o1 (by omega) (by omega))] at a2
  have o2 := addRows_ok (N := 2) w1 o1 (seed := 1) (key := ky) (n := -2) (by omega) (by omega)
  obtain ⟨R2, hR2⟩ : ∃ R, R = addRows 1 ky (-2) R1 := ⟨_, rfl⟩
  rw [← hR2] at a2 o2 g2
  have a3 := signed_Get (seed := 1) (rows := R2) (key := ky) (by omega) (by omega) hks o2
  have hm : med (getL 1 ky R2) = 3 := by
    refine med_const ?_ 3 ?_
    · intro h
      have := congrArg List.length h
      rw [getL_len] at this
      have := o2.odd
      simp_all
    · intro x hx
      rw [g2] at hx
      simp only [List.map_map, List.mem_map] at hx
      obtain ⟨y, hy, rfl⟩ := hx
      have : y = 0 := by
        unfold getL at hy
        obtain ⟨i, hi, rfl⟩ := List.getElem_of_mem hy
        simp only [List.getElem_mapIdx]
        have hi' : i < R0.length := by simpa using hi
        have : ∀ q, R0[i].getD q 0 = 0 := by
          intro q
          rw [List.getD_eq_getElem?_getD]
          cases hx : R0[i][q]? with
          | none => rfl
          | some v =>
            have := w0 _ (List.getElem_mem hi') v (List.mem_of_getElem? hx)
            simp only [Option.getD_some]; omega
        rw [this]; simp
      subst this
      rfl
  rw [hm] at a3
  simp only [cSk, cRows] at a0 a1 a2 a3
  simp [Try.f12, a0, ← hky, a1, a2, a3, vstore, cellsOf?, Ent.wrO, wr, vmove, isNil]

theorem law_SignedNews {seed rows cols : Int} : TV.pu 3 [cI .u64 seed, cI .i64 rows, cI .i64 cols] = some (cB true) := by
  refine run3 (by simp) ?_
  have haw := law_awake
  by_cases h : newOk rows cols
  · obtain ⟨R0, hR0⟩ : ∃ R, R = List.replicate rows.toNat (List.replicate cols.toNat (0 : Int)) := ⟨_, rfl⟩
    have a0 := signed_New (seed := seed) h
    have o0 := new_ok h
    rw [← hR0] at a0 o0
    have hr := law_ref (seed := seed) (rows := R0)
    have hrt := ref12_Right (seed := seed) (rows := R0) (by have := o0.l7; omega) (fun x hx => by have := (o0.row x hx).2.1; omega)
    rw [(okB_iff R0).2 o0] at hrt
    have hlen : R0.length = rows.toNat := by rw [hR0]; simp
    have hl0 : ∀ h : 0 < R0.length, R0[0].length = cols.toNat := by subst hR0; simp
    obtain ⟨a1, a2, a3, a4, a5⟩ := h
    obtain ⟨n, rfl⟩ := Int.eq_ofNat_of_zero_le (show 0 ≤ rows by omega)
    obtain ⟨m, rfl⟩ := Int.eq_ofNat_of_zero_le (show 0 ≤ cols by omega)
    simp only [Int.toNat_natCast] at hlen hl0
    have g1 : ¬ (n : Int) < 1 := by omega
    have g2 : ¬ 7 < (n : Int) := by omega
    have g3 : ((n : Int).tmod 2 == 0) = false := by rw [Int.tmod_eq_emod_of_nonneg (by omega), a3]; rfl
    have g4 : ¬ (m : Int) < 1 := by omega
    have g5 : ¬ 256 < (m : Int) := by omega
    have g0 : 0 < R0.length := by omega
    have g6 := hl0 g0
    have g7 : ((R0.length : Int) != (n : Int)) = false := by simp; omega
    have g8 : ((R0[0].length : Int) != (m : Int)) = false := by simp; omega
    simp only [cSk, cRows, cRow] at a0 hr hrt
    simp [Try.f3, a0, hr, hrt, haw, cRows, cRow, g1, g2, g3, g4, g5, g0, g7, g8, bin_rem, vstore, cellsOf?, Ent.wrO, wr, vmove, isNil]
    have hz : ∀ i, ∀ h : i < R0.length, ∀ j, ∀ h2 : j < R0[i].length, R0[i][j] = 0 := fun i h j h2 => by
      have := new_within (rows := n) (cols := m)
      rw [← hR0] at this
      have := this _ (List.getElem_mem h) _ (List.getElem_mem h2)
      omega
    obtain ⟨I, hI⟩ : ∃ I : Nat → St → Prop, ∀ k s', I k s' ↔ (∃ e h i L, s' = ⟨e, h⟩ ∧ h = .opn [[.c (.v (.int .u64 seed)), .c (cRows R0)]] false :: L ∧ e 7 = .one (.ptr ⟨0, 0, 0, 1⟩) ∧ e 8 = vI .i64 0 ∧ e 77 = vI .i64 R0.length ∧ e 78 = vI .i64 (i : Nat) ∧ i + k = R0.length) := ⟨_, fun _ _ => Iff.rfl⟩
    refine wpL_ind I ?_ R0.length _ ((hI _ _).2 ⟨_, _, 0, _, rfl, by simp only [cRows, cRow]; rfl, by simp, by simp, by simp, by simp, by omega⟩)
    intro k st hst
    obtain ⟨e, h, i, L, rfl, rfl, e7, e8, e77, e78, hk⟩ := (hI _ _).1 hst
    by_cases c : i < R0.length
    · have c' : (i : Int) < R0.length := by omega
      have hrw := o0.row R0[i] (List.getElem_mem c)
      have l7 := o0.l7
      have w3 : IntKind.i64.wrap ((i : Int) + 1) = ((i + 1 : Nat) : Int) := by rw [w64_id (by omega) (by omega)]; omega
      simp [e7, e8, e77, e78, c, c', cRows, cRow]
      obtain ⟨J, hJ⟩ : ∃ J : Nat → St → Prop, ∀ k s', J k s' ↔ (∃ e h q L, s' = ⟨e, h⟩ ∧ h = .opn [[.c (.v (.int .u64 seed)), .c (cRows R0)]] false :: L ∧ e 7 = .one (.ptr ⟨0, 0, 0, 1⟩) ∧ e 8 = vI .i64 0 ∧ e 77 = vI .i64 R0.length ∧ e 78 = vI .i64 (i : Nat) ∧ e 85 = .one (.c (cRow R0[i])) ∧ e 86 = vI .i64 R0[i].length ∧ e 87 = vI .i64 (q : Nat) ∧ q + k = R0[i].length) := ⟨_, fun _ _ => Iff.rfl⟩
      refine wpL_ind J ?_ R0[i].length _ ((hJ _ _).2 ⟨_, _, 0, _, rfl, by simp only [cRows, cRow]; rfl, by simp [e7], by simp [e8], by simp [e77], by simp [e78], by simp [cRow], by simp, by simp, by omega⟩)
      intro k2 st hst
      obtain ⟨e, h, q, L, rfl, rfl, f7, f8, f77, f78, f85, f86, f87, hk2⟩ := (hJ _ _).1 hst
      by_cases d : q < R0[i].length
      · have d' : (q : Int) < R0[i].length := by omega
        have w4 : IntKind.i64.wrap ((q : Int) + 1) = ((q + 1 : Nat) : Int) := by rw [w64_id (by omega) (by omega)]; omega
        have hv := hz i c q d
        simp [f7, f8, f77, f78, f85, f86, f87, d, d', cRow, cInt, hv, w4]
        exact ⟨k2 - 1, by omega, (hJ _ _).2 ⟨_, _, q + 1, _, rfl, rfl, by simp [f7], by simp [f8], by simp [f77], by simp [f78], by simp [f85, cRow, cInt], by simp [f86], by simp [w4], by omega⟩⟩
      · have d' : ¬ (q : Int) < R0[i].length := by omega
        simp [f7, f8, f77, f78, f85, f86, f87, d', w3]
        exact ⟨k - 1, by omega, (hI _ _).2 ⟨_, _, i + 1, _, rfl, rfl, by simp [f7], by simp [f8], by simp [f77], by simp [w3], by omega⟩⟩
    · have c' : ¬ (i : Int) < R0.length := by omega
      simp [e7, e8, e77, e78, c', haw]
  · have a0 := signed_New_arg (seed := seed) h
    have hr := law_ref (seed := 0) (rows := [])
    have he := ref12_Equal (s := 0) (t := 0) (a := []) (b := []) (by simp) (by simp)
    simp only [cSk, cRows, List.map_nil] at a0 hr he
    by_cases g1 : rows < 1
    · simp [Try.f3, a0, hr, he, haw, g1, vstore, cellsOf?, Ent.wrO, wr, vmove, isNil]
    by_cases g2 : 7 < rows
    · simp [Try.f3, a0, hr, he, haw, g1, g2, vstore, cellsOf?, Ent.wrO, wr, vmove, isNil]
    by_cases g3 : (rows.tmod 2 == 0) = true
    · simp [Try.f3, a0, hr, he, haw, g1, g2, g3, bin_rem, vstore, cellsOf?, Ent.wrO, wr, vmove, isNil]
    have g3 : (rows.tmod 2 == 0) = false := by simpa using g3
    by_cases g4 : cols < 1
    · simp [Try.f3, a0, hr, he, haw, g1, g2, g3, g4, bin_rem, vstore, cellsOf?, Ent.wrO, wr, vmove, isNil]
    by_cases g5 : 256 < cols
    · simp [Try.f3, a0, hr, he, haw, g1, g2, g3, g4, g5, bin_rem, vstore, cellsOf?, Ent.wrO, wr, vmove, isNil]
    · refine absurd ⟨by omega, by omega, ?_, by omega, by omega⟩ h
      rw [Int.tmod_eq_emod_of_nonneg (by omega)] at g3
      have : rows % 2 ≠ 0 := by simpa using g3
      omega
end Go.Proofs.YteaeigpeaneicaaF
end

section
namespace Go.Proofs.YteaeigpeaneicaaF
open Go Go.Proofs.Vm

theorem isI_one {k : IntKind} {x : CV} (h : isI k [x]) : ∃ n, x = .v (.int k n) ∧ k.min ≤ n ∧ n ≤ k.max := by
  obtain ⟨n, hx, hw⟩ := h
  cases hx
  simp only [Lit.wf, Bool.and_eq_true, decide_eq_true_eq] at hw
  exact ⟨n, rfl, hw⟩
theorem lawSignedNews_all : ∀ l, goodsSignedNews l → TV.pu 3 l = some (cB true) := by
  rintro l ⟨a, r, rfl, ⟨x, rfl, hx⟩, b, r2, rfl, ⟨y, rfl, hy⟩, c, r3, rfl, ⟨z, rfl, hz⟩, rfl⟩
  obtain ⟨n, rfl, _⟩ := isI_one hx
  obtain ⟨m, rfl, _⟩ := isI_one hy
  obtain ⟨k, rfl, _⟩ := isI_one hz
  exact law_SignedNews
end Go.Proofs.YteaeigpeaneicaaF
end

section
/- SignedNews: the statement, from what the law's run comes to. -/
namespace Go.Proofs.Yteaeigpeaneicaa.G
open Go Go.RowKit Go.ChangeShapes Go.WideShapes Go.ChangeAt Go.Proofs.Vm Go.Proofs.YteaeigpeaneicaaF
theorem ownSignedNews : ownKnob Try.prog.godebug = none := by kernel_rfl
theorem laidOutSignedNews : laidOutB Try.prog = true := by kernel_rfl
set_option maxRecDepth 100000 in
set_option maxHeartbeats 2000000 in
theorem liftedSignedNews (os : Os) (started : os.Started) (H : Type) (enc : TypeId × Value → H) :
    ReturnsInHanded {} Try.checked os 3 .any (Rows.signedNewsSpec.pre6 enc Try.prog Try.f3 Rows.signedNewsRow.domain false) (Rows.signedNewsSpec.post enc Try.prog Try.f3 false true false false) := by
  refine returnsInHanded_of_change_sized (C := Try.checked) ownSignedNews started (by kernel_rfl) Try.func3
    (ChangeSpec.witness6 (enc := enc) (C := Try.checked) false ⟨#[], #[.int .u64 0, .int .i64 0, .int .i64 0], []⟩ 8 (by kernel_rfl) (by kernel_rfl) (by kernel_rfl) (by kernel_rfl)) ?_
  intro W base args ds gs before hval0 hW hcnd hsz0 _
  have hsz : (DataW.weightsEach Try.prog (Try.f3.params.toList ++ Rows.signedNewsSpec.plain.varTypes Try.prog) (ds ++ gs)).all (· ≤ reachBytes) = true := hsz0
  have hval : ∀ (j : Nat) t v, Try.f3.params[j]? = some t → args[j]? = some v → Value.okWide Try.prog W .any base t v := hval0
  have hW' := hW
  obtain ⟨p, q, hA0, hV, rfl, hfz, hnd⟩ := hW
  have hA : DataW.TrodAll enc Try.prog W 0 (fun _ => true) true Try.f3.params.toList args.toList ds p := hA0
  rw [Try.params3] at hA hval hsz
  obtain ⟨rfl, rfl⟩ := trodVars_none hV
  have hdl := trodAll_len hA
  obtain ⟨d0, d1, d2, rfl⟩ : ∃ d0 d1 d2, ds = [d0, d1, d2] := by match ds, hdl with | [d0, d1, d2], _ => exact ⟨_, _, _, rfl⟩
  clear hA0 hval0 hsz0
  refine (lift_law tvOk.1 (ts := [22, 3, 3]) laidOutSignedNews (by kernel_rfl) opensSignedNews lawSignedNews_all hA (fun j t v h1 h2 => hval j t v (by simpa using h1) h2) (weights_of hsz)).mono fun e W' ⟨v, I', he, hR, hk, hb, hst⟩ => ?_
  obtain rfl : v = .bool true := by cases hR; rfl
  subst he
  exact ⟨_, rfl, _, _, _, [], _, [], hW', trodAll_mk1 (shut_bool Try.underlying4 _), hst, rfl, kept_of hk hb _, fun h => by cases h⟩
theorem signedNews_holds : Rows.SignedNewsSaid :=
  OpenClaim.holds_of_wide 3 Try.f3 rfl rfl rfl rfl rfl rfl rfl ⟨rfl, rfl, rfl, rfl, rfl⟩ rfl rfl rfl rfl rfl (by kernel_rfl) Try.func3 (by kernel_rfl)
    (of_decide_eq_true (by kernel_rfl)) (by unfold Func.isWrapper; first | (rw [if_pos (by decide +kernel)]; kernel_rfl) | (rw [if_neg (by decide +kernel)]; exact ⟨rfl, rfl⟩))
    (fun os started H enc _ => liftedSignedNews os started H enc)
end Go.Proofs.Yteaeigpeaneicaa.G
end
