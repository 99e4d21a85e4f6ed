/- Steps shared by the proofs of this seat's statements (part 3). -/
import Derived.Test.YtonkhpeahbjmmaaDoorK2
section
/- Maps from strings to bools, in which only 'true' is put: sets of strings. -/
namespace Go.Proofs.Vm
open Go

variable {P : Program}

def sRow : List ByteArray → Nat → List (Value × List CV)
  | [], _ => []
  | k :: r, n => (.string k, [.v (.bool true), .v (.int .i64 n)]) :: sRow r (n + 1)
def sIx (k : ByteArray) : List ByteArray → Option Nat
  | [] => none
  | x :: r => if k = x then some 0 else (sIx k r).map (· + 1)
def sEnt (ks : List ByteArray) : Ent := .mp (ks.length, sRow ks 0)
def inS (k : ByteArray) (ks : List ByteArray) : Bool := (sIx k ks).isSome
def putS (k : ByteArray) (ks : List ByteArray) : List ByteArray := if inS k ks then ks else ks ++ [k]
theorem sEnt_nil : Ent.mp (0, []) = sEnt [] := rfl
theorem find_sRow (k : ByteArray) : ∀ (ks : List ByteArray) (n : Nat), findM (.string k) ((sRow ks n).map (·.1)) = some (sIx k ks)
  | [], n => rfl
  | x :: r, n => by
    have ih := find_sRow k r (n + 1)
    simp only [sRow, List.map_cons, findM, keyEq, sIx]
    by_cases h : k = x
    · rw [if_pos h, h, (Go.MapKept.bytes_beq x x).2 rfl]
    · rw [if_neg h]
      have : (k == x) = false := by
        cases hb : k == x with
        | false => rfl
        | true => exact absurd ((Go.MapKept.bytes_beq _ _).1 hb) h
      rw [this]
      simp only [ih, Option.map_some]
theorem sIx_no {k : ByteArray} : ∀ {ks : List ByteArray}, sIx k ks = none → k ∉ ks
  | [], _ => by simp
  | x :: r, h => by
    unfold sIx at h
    by_cases hk : k = x
    · rw [if_pos hk] at h; cases h
    · rw [if_neg hk] at h
      have := sIx_no (ks := r) (by cases hr : sIx k r with | none => rfl | some i => rw [hr] at h; cases h)
      simp [hk, this]
theorem sIx_lt {k : ByteArray} : ∀ {ks : List ByteArray} {j : Nat}, sIx k ks = some j → ∃ h : j < ks.length, ks[j] = k
  | [], j, h => by cases h
  | x :: r, j, h => by
    unfold sIx at h
    by_cases hk : k = x
    · rw [if_pos hk] at h
      cases h
      exact ⟨Nat.succ_pos _, hk.symm⟩
    · rw [if_neg hk] at h
      cases hr : sIx k r with
      | none => rw [hr] at h; cases h
      | some i =>
        rw [hr] at h
        cases h
        obtain ⟨g, e⟩ := sIx_lt hr
        exact ⟨Nat.succ_lt_succ g, e⟩
theorem inS_iff {k : ByteArray} {ks : List ByteArray} : inS k ks = true ↔ k ∈ ks := by
  unfold inS
  cases h : sIx k ks with
  | none => simp [sIx_no h]
  | some j =>
    obtain ⟨hl, he⟩ := sIx_lt h
    simp
    rw [← he]
    exact List.getElem_mem hl
theorem sRow_get : ∀ (ks : List ByteArray) (n j : Nat), ∀ h : j < ks.length, (sRow ks n)[j]? = some (.string ks[j], [.v (.bool true), .v (.int .i64 ((n + j : Nat) : Int))])
  | [], n, j, h => by simp at h
  | x :: r, n, 0, _ => rfl
  | x :: r, n, j + 1, h => by
    show (sRow r (n + 1))[j]? = _
    rw [sRow_get r (n + 1) j (by simpa using h), show n + 1 + j = n + (j + 1) by omega]
    rfl
theorem sRow_app (k : ByteArray) : ∀ (ks : List ByteArray) (n : Nat), sRow (ks ++ [k]) n = sRow ks n ++ [(.string k, [.v (.bool true), .v (.int .i64 ((n + ks.length : Nat) : Int))])]
  | [], n => rfl
  | x :: r, n => by
    show _ :: sRow (r ++ [k]) (n + 1) = _ :: (sRow r (n + 1) ++ _)
    rw [sRow_app k r (n + 1), List.length_cons, show n + 1 + r.length = n + (r.length + 1) by omega]
variable {H : Hp} {t : TypeId} {mi : Nat} {ks : List ByteArray} {k : ByteArray}
theorem mapAt_s (h : H[mi]? = some (sEnt ks)) : mapAt H (.one (.mp mi)) = some (mi, (ks.length, sRow ks 0)) := by simp only [mapAt, h, sEnt]
theorem lks_eq (ht : mapTy P t = some (.string, .bool false)) (h : H[mi]? = some (sEnt ks)) :
    vlookup P H t (.one (.mp mi)) (.one (.c (.v (.string k)))) false = qa (.one (.c (.v (.bool (inS k ks))))) := by
  unfold vlookup
  rw [ht, mapAt_s h]
  have sc : (AV.one (.c (.v (.string k)))).sc = some (.string k) := rfl
  have kd : kindOk .string (.string k) = true := rfl
  simp only [sc, kd, if_true]
  rw [find_sRow k ks 0]
  cases hj : sIx k ks with
  | none => simp only [inS, hj]; rfl
  | some j =>
    obtain ⟨hl, he⟩ := sIx_lt hj
    simp only [sRow_get ks 0 j hl, inS, hj]
    rfl
theorem mus_eq (ht : mapTy P t = some (.string, .bool false)) (h : H[mi]? = some (sEnt ks)) :
    vmapUpdate P H t (.one (.mp mi)) (.one (.c (.v (.string k)))) (.one (.c (.v (.bool true)))) = some (und, H.set mi (sEnt (putS k ks))) := by
  unfold vmapUpdate
  rw [ht, mapAt_s h]
  have sc : (AV.one (.c (.v (.string k)))).sc = some (.string k) := rfl
  have kd : kindOk .string (.string k) = true := rfl
  simp only [sc, kd, if_true]
  rw [find_sRow k ks 0]
  cases hj : sIx k ks with
  | none =>
    have hm : inS k ks = false := by simp [inS, hj]
    simp only [putM, putS, hm, Bool.false_eq_true, if_false, sEnt, sRow_app, List.length_append, List.length_singleton, Nat.zero_add]
  | some j =>
    obtain ⟨hl, he⟩ := sIx_lt hj
    have hm : inS k ks = true := by simp [inS, hj]
    have hg := sRow_get ks 0 j hl
    have : (sRow ks 0).modify j (fun p => (Value.string k, CV.v (.bool true) :: p.2.drop 1)) = sRow ks 0 := by
      apply List.ext_getElem?
      intro q
      rw [List.getElem?_modify]
      by_cases hq : j = q
      · subst hq
        rw [hg, he]
        simp
      · simp [hq]
    simp only [putM, putS, hm, if_true, sEnt, this]
end Go.Proofs.Vm
end

section
/- Spread sketches: the list of sources. -/
set_option maxRecDepth 8192
set_option maxHeartbeats 1000000
namespace Go.Proofs.YtonkhpeahbjmmaaDoorF
open Go Go.Proofs.Vm

theorem sort_itms {H : Hp} {id : Nat} {xs : List Itm} (h : H[id]? = some (.clo (xs.map cItm) false)) (hl : xs.length < 100000) :
    TV.S 32 [.one (.sl id 0 xs.length xs.length), .one (.fn 33 [])] H = some (und, H.set id (.clo ((isort ordI xs).map cItm) false)) := by
  refine TT_baseS ?_
  have h2 : xs.length < 4611686018427387904 := by omega
  simp [cfg, orTab, tzTab, srtTab, sortFRun, h, mapO_itm, h2]
/-- A bucket is looked at. -/
def lstep (S : Skt) (most : Int) (a : List Itm × List ByteArray) (b : Bkt) : List Itm × List ByteArray :=
  (if b.src ≠ ByteArray.empty ∧ inS b.src a.2 = false ∧ most ≤ estB S b.src then a.1 ++ [(b.src, estB S b.src)] else a.1, putS b.src a.2)
def lrow (S : Skt) (most : Int) (a : List Itm × List ByteArray) (r : List Bkt) : List Itm × List ByteArray := r.foldl (lstep S most) a
def lall (S : Skt) (most : Int) : List Itm × List ByteArray := S.rows.foldl (lrow S most) ([], [])
def lstB (S : Skt) (most : Int) : List Itm := if sOk S then isort ordI (lall S most).1 else []
theorem lrow_take (S : Skt) (most : Int) (a : List Itm × List ByteArray) {r : List Bkt} {p : Nat} (h : p < r.length) : lrow S most a (r.take (p + 1)) = lstep S most (lrow S most a (r.take p)) r[p] := by
  unfold lrow
  rw [List.take_add_one, List.getElem?_eq_getElem h, Option.toList_some, List.foldl_append]
  rfl
def lto (S : Skt) (most : Int) (rows : List (List Bkt)) : List Itm × List ByteArray := rows.foldl (lrow S most) ([], [])
theorem lto_take (S : Skt) (most : Int) {rows : List (List Bkt)} {i : Nat} (h : i < rows.length) : lto S most (rows.take (i + 1)) = lrow S most (lto S most (rows.take i)) rows[i] := by
  unfold lto
  rw [List.take_add_one, List.getElem?_eq_getElem h, Option.toList_some, List.foldl_append]
  rfl
theorem lstep_len (S : Skt) (most : Int) (a : List Itm × List ByteArray) (b : Bkt) : (lstep S most a b).1.length ≤ a.1.length + 1 := by
  unfold lstep
  dsimp only
  split
  · simp
  · omega
theorem lrow_len (S : Skt) (most : Int) : ∀ (r : List Bkt) (a : List Itm × List ByteArray), (lrow S most a r).1.length ≤ a.1.length + r.length
  | [], a => by simp [lrow]
  | b :: r, a => by
    have h1 := lrow_len S most r (lstep S most a b)
    have h2 := lstep_len S most a b
    show (lrow S most (lstep S most a b) r).1.length ≤ _
    rw [List.length_cons]
    omega
theorem sp_List {S : Skt} {most : Int} (hs : SeedS S) (hl : LensS S) (hz : ∀ r ∈ S.rows, ∀ b ∈ r, b.src.size ≤ 140737488351232) : TV.pu 14 [.agg (cSk S), cI .i64 most] = some (.one (.arr ((lstB S most).map cItm))) := by
  refine run14 (by simp) ?_
  have hR := sp_Right hs.1 hs.2.1 hl
  have hE : ∀ r ∈ S.rows, ∀ b ∈ r, TV.pu 13 [.agg (cSk S), cS b.src] = some (cI .i64 (estB S b.src)) := fun r hr b hb => sp_Estimate hs hl (hz r hr b hb)
  unfold lstB
  by_cases hok : sOk S = true
  rotate_left
  · have hok : sOk S = false := by simpa using hok
    rw [hok] at hR ⊢
    simp only [cSk, cBkr, cBks] at hR
    simp -implicitDefEqProofs [Tryd.f14, cSk, cBkr, cBks, hR]
  rw [hok] at hR ⊢
  rw [if_pos rfl]
  obtain ⟨q1, q2, q3, q4, q5⟩ := sOk_facts hok
  have hrl : ∀ r ∈ S.rows, r.length ≤ 256 := fun r hr => by rw [(q5 r hr).1]; exact q4
  clear q3 q4 q5
  obtain ⟨s, rows⟩ := S
  dsimp only at *
  simp only [cSk, cBkr, cBks] at hR hE
  simp -implicitDefEqProofs [Tryd.f14, cSk, cBkr, cBks, hR, vmove, isNil, vmakeMap]
  obtain ⟨S, hS⟩ : ∃ S : Skt, (⟨s, rows⟩ : Skt) = S := ⟨_, rfl⟩
  have hall : lall S most = lto S most rows := by rw [← hS]; rfl
  simp only [hS] at hE
  rw [hS, hall]
  clear hS hall
  obtain ⟨I, hI⟩ : ∃ I : Nat → St → Prop, ∀ k s', I k s' ↔ (∃ e i out seen L, s' = ⟨e, .opn [(cSk ⟨s, rows⟩).map .c] false :: .clo [] false :: sEnt seen :: .clo (out.map cItm) false :: L⟩ ∧ e 2 = .one (.ptr ⟨0, 0, 0, 1⟩) ∧ e 1 = vI .i64 most ∧ e 5 = .one (.mp 2) ∧ e 6 = .one (.sl 3 0 out.length out.length) ∧ e 17 = .one (.c (cBkr rows)) ∧ e 18 = vI .i64 rows.length ∧ e 19 = vI .i64 (i : Nat) ∧ (i + k = rows.length) ∧ (lto S most (rows.take i) = (out, seen)) ∧ (out.length ≤ 256 * i)) := ⟨_, fun _ _ => Iff.rfl⟩
  refine wpL_ind I ?_ rows.length _ ((hI _ _).2 ⟨_, 0, [], [], _, (by first | rfl | (simp [cSk, cBkr, cBks, sEnt, sRow]; done) | (simp [cSk, cBkr, cBks, sEnt, sRow]; rfl) | (simp [cSk, cBkr, cBks, sEnt, sRow]; and_intros <;> rfl)), by simp, by simp, by simp, by simp, by simp [cBkr, cBks], by simp, by simp, by omega, rfl, by simp⟩)
  intro k stI hstI
  obtain ⟨e, i, out, seen, L, rfl, e2, e1, e5, e6, e17, e18, e19, hk, ho, hol⟩ := (hI _ _).1 hstI
  by_cases c : i < rows.length
  rotate_left
  · have hil : rows.take i = rows := List.take_of_length_le (by omega)
    rw [hil] at ho
    rw [ho]
    have hso := fun A B C => sort_itms (H := A :: B :: C :: .clo (out.map cItm) false :: L) (id := 3) (xs := out) rfl (by omega)
    have htk : ((isort ordI out).map cItm).take out.length = (isort ordI out).map cItm := List.take_of_length_le (by simp [isort])
    have hil2 : (isort ordI out).length = out.length := by simp [isort]
    simp -implicitDefEqProofs [e6, e18, e19, c, cSk, cBkr, cBks, hso, vmove, isNil]
    simp [htk, hil2]
  have w_i : IntKind.i64.wrap ((i : Int) + 1) = ((i + 1 : Nat) : Int) := by rw [w64_id (by omega) (by omega)]; omega
  have hrli := hrl _ (List.getElem_mem c)
  have hEi := hE _ (List.getElem_mem c)
  simp -implicitDefEqProofs [e17, e18, e19, c, cSk, cBkr, cBks]
  have hto := lto_take S most c
  rw [ho] at hto
  obtain ⟨J, hJ⟩ : ∃ J : Nat → St → Prop, ∀ k' s', J k' s' ↔ (∃ e p out seen L, s' = ⟨e, .opn [(cSk ⟨s, rows⟩).map .c] false :: .clo [] false :: sEnt seen :: .clo (out.map cItm) false :: L⟩ ∧ e 2 = .one (.ptr ⟨0, 0, 0, 1⟩) ∧ e 1 = vI .i64 most ∧ e 5 = .one (.mp 2) ∧ e 6 = .one (.sl 3 0 out.length out.length) ∧ e 17 = .one (.c (cBkr rows)) ∧ e 18 = vI .i64 rows.length ∧ e 19 = vI .i64 (i : Nat) ∧ e 23 = .one (.c (cBks rows[i])) ∧ e 24 = vI .i64 rows[i].length ∧ e 25 = vI .i64 (p : Nat) ∧ (p + k' = rows[i].length) ∧ (lrow S most (lto S most (rows.take i)) (rows[i].take p) = (out, seen)) ∧ (out.length ≤ 256 * i + p)) := ⟨_, fun _ _ => Iff.rfl⟩
  refine wpL_ind J ?_ rows[i].length _ ((hJ _ _).2 ⟨_, 0, out, seen, _, (by first | rfl | (simp [e1, e2, e5, e6, e17, e18, e19, cSk, cBkr, cBks]; done) | (simp [e1, e2, e5, e6, e17, e18, e19, cSk, cBkr, cBks]; rfl) | (simp [e1, e2, e5, e6, e17, e18, e19, cSk, cBkr, cBks]; and_intros <;> rfl)), by simp [e2], by simp [e1], by simp [e5], by simp [e6], by simp [e17, cBkr, cBks], by simp [e18], by simp [e19], by simp [cBks], by simp, by simp, by omega, ho, by omega⟩)
  clear e1 e2 e5 e6 e17 e18 e19 ho hto hol
  intro k' stJ hstJ
  obtain ⟨e, p, out, seen, L, rfl, e2, e1, e5, e6, e17, e18, e19, e23, e24, e25, hk', ho', hol'⟩ := (hJ _ _).1 hstJ
  by_cases d : p < rows[i].length
  rotate_left
  · have hil : rows[i].take p = rows[i] := List.take_of_length_le (by omega)
    rw [hil, ← lto_take S most c] at ho'
    simp -implicitDefEqProofs [e19, e24, e25, d, w_i, cSk, cBkr, cBks]
    exact ⟨k - 1, by omega, (hI _ _).2 ⟨_, i + 1, out, seen, _, (by first | rfl | (simp [cSk, cBkr, cBks]; done) | (simp [cSk, cBkr, cBks]; rfl) | (simp [cSk, cBkr, cBks]; and_intros <;> rfl)), by simp [e2], by simp [e1], by simp [e5], by simp [e6], by simp [e17, cBkr, cBks], by simp [e18], by simp, by omega, ho', by omega⟩⟩
  have w_p : IntKind.i64.wrap ((p : Int) + 1) = ((p + 1 : Nat) : Int) := by rw [w64_id (by omega) (by omega)]; omega
  have hEp := hEi _ (List.getElem_mem d)
  have hst := lrow_take S most (lto S most (rows.take i)) d
  rw [ho'] at hst
  obtain ⟨b, hb⟩ : ∃ b, rows[i][p] = b := ⟨_, rfl⟩
  have hcl : cBk rows[i][p] = [.v (.int .u64 b.m.s), cBrs b.m.rows, .v (.string b.src), .v (.int .i64 b.lev)] := by rw [hb]; rfl
  rw [hb] at hEp hst
  simp only [cBrs, cBr] at hcl
  have hlk := fun (H : Hp) (h : H[2]? = some (sEnt seen)) => lks_eq (P := Tryd.prog) (t := 80) (k := b.src) mty80 h
  have hmu := fun (H : Hp) (h : H[2]? = some (sEnt seen)) => mus_eq (P := Tryd.prog) (t := 80) (k := b.src) mty80 h
  by_cases k1 : b.src = ByteArray.empty
  · have hst' : lrow S most (lto S most (rows.take i)) (rows[i].take (p + 1)) = (out, putS b.src seen) := by rw [hst]; simp [lstep, k1]
    have k1m : b.src.toList = [] := by rw [k1]; simp
    simp -implicitDefEqProofs [e2, e5, e23, e24, e25, d, hcl, hEp, hmu, w_p, cSk, cBkr, cBks, vmove, isNil, vstore, cellsOf?, Ent.wrO, wr, k1m]
    exact ⟨k' - 1, by omega, (hJ _ _).2 ⟨_, p + 1, out, putS b.src seen, _, (by first | rfl | (simp [cSk, cBkr, cBks]; done) | (simp [cSk, cBkr, cBks]; rfl) | (simp [cSk, cBkr, cBks]; and_intros <;> rfl)), by simp [e2], by simp [e1], by simp [e5], by simp [e6], by simp [e17, cBkr, cBks], by simp [e18], by simp [e19], by simp [e23, cBks], by simp [e24], by simp, by omega, hst', by omega⟩⟩
  have k1n : ¬ b.src.toList = ByteArray.empty.toList := fun h => k1 (toList_inj.1 h)
  have k1m : ¬ b.src.toList = [] := by simpa using k1n
  cases k2 : inS b.src seen with
  | true =>
    have hst' : lrow S most (lto S most (rows.take i)) (rows[i].take (p + 1)) = (out, putS b.src seen) := by rw [hst]; simp [lstep, k2]
    simp -implicitDefEqProofs [e2, e5, e23, e24, e25, d, hcl, hEp, hlk, hmu, w_p, cSk, cBkr, cBks, vmove, isNil, vstore, cellsOf?, Ent.wrO, wr, k1m, k2]
    exact ⟨k' - 1, by omega, (hJ _ _).2 ⟨_, p + 1, out, putS b.src seen, _, (by first | rfl | (simp [cSk, cBkr, cBks]; done) | (simp [cSk, cBkr, cBks]; rfl) | (simp [cSk, cBkr, cBks]; and_intros <;> rfl)), by simp [e2], by simp [e1], by simp [e5], by simp [e6], by simp [e17, cBkr, cBks], by simp [e18], by simp [e19], by simp [e23, cBks], by simp [e24], by simp, by omega, hst', by omega⟩⟩
  | false =>
  by_cases k3 : most ≤ estB S b.src
  rotate_left
  · have hst' : lrow S most (lto S most (rows.take i)) (rows[i].take (p + 1)) = (out, putS b.src seen) := by rw [hst]; simp [lstep, k3]
    simp -implicitDefEqProofs [e1, e2, e5, e23, e24, e25, d, hcl, hEp, hlk, hmu, w_p, cSk, cBkr, cBks, vmove, isNil, vstore, cellsOf?, Ent.wrO, wr, k1m, k2, k3]
    exact ⟨k' - 1, by omega, (hJ _ _).2 ⟨_, p + 1, out, putS b.src seen, _, (by first | rfl | (simp [cSk, cBkr, cBks]; done) | (simp [cSk, cBkr, cBks]; rfl) | (simp [cSk, cBkr, cBks]; and_intros <;> rfl)), by simp [e2], by simp [e1], by simp [e5], by simp [e6], by simp [e17, cBkr, cBks], by simp [e18], by simp [e19], by simp [e23, cBks], by simp [e24], by simp, by omega, hst', by omega⟩⟩
  · have hst' : lrow S most (lto S most (rows.take i)) (rows[i].take (p + 1)) = (out ++ [(b.src, estB S b.src)], putS b.src seen) := by rw [hst]; simp [lstep, k1, k2, k3]
    have hal := cItm_all out
    have b1 : 24 * (out.length + 1) ≤ 140737488355328 := by omega
    have b2 : out.length + 1 ≤ 4611686018427387904 := by omega
    simp -implicitDefEqProofs [e1, e2, e5, e6, e23, e24, e25, d, hcl, hEp, hlk, hmu, w_p, cSk, cBkr, cBks, vmove, isNil, vstore, cellsOf?, Ent.wrO, wr, k1m, k2, k3, vappend_sp es34 es34 el61, vbuildSlice_eq es34 el61, fzParts, setAll, rchParts, rch, elemsOf, b1, b2, hal]
    exact ⟨k' - 1, by omega, (hJ _ _).2 ⟨_, p + 1, out ++ [(b.src, estB S b.src)], putS b.src seen, _, (by first | rfl | (simp [cSk, cBkr, cBks, cItm]; done) | (simp [cSk, cBkr, cBks, cItm]; rfl) | (simp [cSk, cBkr, cBks, cItm]; and_intros <;> rfl)), by simp [e2], by simp [e1], by simp [e5], by simp, by simp [e17, cBkr, cBks], by simp [e18], by simp [e19], by simp [e23, cBks], by simp [e24], by simp, by omega, hst', by simp; omega⟩⟩
end Go.Proofs.YtonkhpeahbjmmaaDoorF
end

section
/- What slices.Repeat needs. -/
set_option maxRecDepth 8192
set_option maxHeartbeats 1000000
namespace Go.Proofs.YtonkhpeahbjmmaaDoorF
open Go Go.Proofs.Vm

theorem vcopy_eq {P : Program} {H : Hp} {t e : TypeId} {sz b : Nat} {z : List CV} (he : elemOfSlice P t = some e) (hel : elOf P e = some (sz, b, z)) {id o n tot : Nat} {l xs : List (List CV)} {x : AV} (hx : elemsOf H x = some xs) (hl : H[id]? = some (.clo l false)) (h1 : l.length = tot) (h2 : o + n ≤ tot) (h3 : AllLen l sz) (h4 : AllLen xs sz) :
    vcopy P H t (.one (.sl id o n tot)) x = some (.one (.c (.v (.int .i64 (min xs.length n : Nat)))), H.set id (.clo (wr l o (xs.take n)) false)) := by
  obtain ⟨i, v, g1, g2, g3, g4, g5, g6, g7⟩ := elOf_facts hel
  unfold vcopy
  rw [hx, he]
  dsimp only
  rw [hl, g1]
  dsimp only
  rw [if_pos ⟨h1, h2, by rw [g3]; exact h3, by rw [g3]; exact h4⟩]
theorem wr_eq {α : Type} : ∀ (xs l : List α) (o : Nat), o + xs.length ≤ l.length → wr l o xs = l.take o ++ (xs ++ l.drop (o + xs.length))
  | [], l, o, _ => by simp [wr]
  | x :: xs, l, o, h => by
    have h' : o + (xs.length + 1) ≤ l.length := h
    rw [wr, wr_eq xs _ _ (by simp; omega)]
    rw [List.take_set, List.drop_set_of_lt (by omega), List.take_add_one, List.getElem?_eq_getElem (by omega)]
    have : o < l.length := by omega
    rw [List.length_cons, show o + 1 + xs.length = o + (xs.length + 1) by omega]
    simp only [Option.toList_some]
    rw [List.set_append_right _ _ (by simp; omega)]
    simp [Nat.min_eq_left (Nat.le_of_lt this)]
/-- The first so many are it, the other ones not yet. -/
def repP {α : Type} (c z : α) (k n : Nat) : List α := List.replicate k c ++ List.replicate (n - k) z
theorem repP_len {α : Type} (c z : α) {k n : Nat} (h : k ≤ n) : (repP c z k n).length = n := by simp [repP]; omega
theorem repP_wr {α : Type} (c z : α) {k m n : Nat} (h : k + m ≤ n) : wr (repP c z k n) k (List.replicate m c) = repP c z (k + m) n := by
  rw [wr_eq _ _ _ (by rw [repP_len _ _ (by omega)]; simpa using h)]
  unfold repP
  rw [List.take_left' (by simp), List.length_replicate, List.drop_append, List.drop_eq_nil_of_le (by simp), List.length_replicate, List.drop_replicate, List.nil_append, ← List.append_assoc, List.replicate_append_replicate, show n - k - (k + m - k) = n - (k + m) by omega]
theorem repP_take {α : Type} (c z : α) {k n : Nat} : (repP c z k n).take k = List.replicate k c := by unfold repP; rw [List.take_left' (by simp)]
theorem slo_from {P : Program} {H : Hp} {t e sz nid : Nat} (he : elemOfSlice P t = some e) (hs : pv P (sizeOf e) = some sz) {id n tot k : Nat} (hl : lenIs H id tot = true) (h1 : k < n) (h2 : elAt H id tot k = some sz) : vslice P H nid t (.one (.sl id 0 n tot)) (some (vI .i64 (k : Int))) none none = qa (.one (.sl id k (n - k) tot)) := by
  unfold vslice
  simp only [he, hs, optInt, Option.getD_none, Option.getD_some]
  rw [if_pos ⟨hl, by omega, by omega, by omega, .inr (by simpa using h2)⟩]
  simp
theorem slo_to {P : Program} {H : Hp} {t e sz nid : Nat} (he : elemOfSlice P t = some e) (hs : pv P (sizeOf e) = some sz) {id n tot k : Nat} (hl : lenIs H id tot = true) (h1 : k ≤ n) (h2 : elAt H id tot 0 = some sz) : vslice P H nid t (.one (.sl id 0 n tot)) none (some (vI .i64 (k : Int))) none = qa (.one (.sl id 0 k tot)) := by
  unfold vslice
  simp only [he, hs, optInt, Option.getD_none, Option.getD_some]
  rw [if_pos ⟨hl, by omega, by omega, by omega, .inr (by simpa using h2)⟩]
  simp
theorem bits_Mul {a b : Int} (ha0 : 0 ≤ a) (ha : a < 18446744073709551616) (hb0 : 0 ≤ b) (hb : b < 18446744073709551616) (h : a * b < 18446744073709551616) : TV.pu 73 [cI .u64 a, cI .u64 b] = some (.tup [(false, [.v (.int .u64 0)]), (false, [.v (.int .u64 (a * b))])]) := by
  refine run73 (by simp) ?_
  have hm := Mul64 ha0 ha hb0 hb
  have h0 : 0 ≤ a * b := Int.mul_nonneg ha0 hb0
  rw [show a * b / 18446744073709551616 = 0 by omega, show a * b % 18446744073709551616 = a * b by omega] at hm
  simp -implicitDefEqProofs [Tryd.f73, hm]
end Go.Proofs.YtonkhpeahbjmmaaDoorF
end

section
/- Buckets, repeated. -/
set_option maxRecDepth 8192
set_option maxHeartbeats 1000000
namespace Go.Proofs.YtonkhpeahbjmmaaDoorF
open Go Go.Proofs.Vm

def zBk : List CV := [.v (.int .u64 0), .arr [], .v (.string ByteArray.empty), .v (.int .i64 0)]
theorem bks_Repeat {c : Bkt} {n : Nat} (h0 : 1 ≤ n) (h1 : n ≤ 256) : TV.pu 49 [.one (cBks [c]), cI .i64 n] = some (.one (cBks (List.replicate n c))) := by
  refine run49 (by simp) ?_
  have hm := bits_Mul (a := 1) (b := (n : Int)) (by omega) (by omega) (by omega) (by omega) (by omega)
  have hn0 : ¬ (n : Int) < 0 := by omega
  have w0 : IntKind.u64.wrap 1 = 1 := by decide
  have w1 : IntKind.u64.wrap (n : Int) = (n : Int) := by rw [IntKind.wrap_u64]; omega
  have w2 : IntKind.i64.wrap (n : Int) = (n : Int) := w64_id (by omega) (by omega)
  have hg : ¬ (9223372036854775807 : Int) < n := by omega
  have hz : n ≠ 0 := by omega
  rw [Int.one_mul] at hm
  simp -implicitDefEqProofs [Tryd.f49, cBks, vmove, isNil, hn0, w0, w1, w2, hm, hg, vmakeSlice_eq es47 el52, small, hz]
  refine ⟨⟨by omega, by omega⟩, ?_⟩
  have hcp : ∀ (k : Nat) (L : Hp) (x : AV) (xs : List (List CV)), k ≤ n → elemsOf (.clo [] false :: .clo (repP (cBk c) (zBk) k n) false :: L) x = some xs → AllLen xs 4 → vcopy Tryd.prog (.clo [] false :: .clo (repP (cBk c) (zBk) k n) false :: L) 47 (.one (.sl 1 k (n - k) n)) x = some (.one (.c (.v (.int .i64 (min xs.length (n - k) : Nat)))), .clo [] false :: .clo (wr (repP (cBk c) (zBk) k n) k (xs.take (n - k))) false :: L) := fun k L x xs hk hx hxs => by
    exact vcopy_eq es47 el52 hx rfl (repP_len _ _ hk) (by omega) (fun y hy => by
      rcases List.mem_append.1 hy with h | h
      · rw [List.eq_of_mem_replicate h]; rfl
      · rw [List.eq_of_mem_replicate h]; rfl) hxs
  have h0 : vcopy Tryd.prog [.clo [] false, .clo (List.replicate n [.v (.int .u64 0), .arr [], .v (.string ByteArray.empty), .v (.int .i64 0)]) false] 47 (.one (.sl 1 0 n n)) (.one (.c (.arr [cBk c]))) = some (.one (.c (.v (.int .i64 1))), [.clo [] false, .clo (repP (cBk c) (zBk) 1 n) false]) := by
    have h := hcp 0 [] (.one (.c (.arr [cBk c]))) [cBk c] (by omega) rfl (by intro y hy; rw [List.mem_singleton.1 hy]; rfl)
    rw [show [cBk c].take (n - 0) = List.replicate 1 (cBk c) by rw [List.take_of_length_le (by simp; omega)]; rfl, repP_wr _ _ (by omega), show min [cBk c].length (n - 0) = 1 by simp; omega] at h
    simp only [repP, Nat.sub_zero, List.replicate_zero, List.nil_append] at h ⊢
    exact h
  simp -implicitDefEqProofs [h0]
  obtain ⟨I, hI⟩ : ∃ I : Nat → St → Prop, ∀ m s', I m s' ↔ (∃ e k, s' = ⟨e, [.clo [] false, .clo (repP (cBk c) (zBk) k n) false]⟩ ∧ e 7 = .one (.sl 1 0 n n) ∧ e 8 = vI .i64 (k : Nat) ∧ 1 ≤ k ∧ k ≤ n ∧ m = n - k) := ⟨_, fun _ _ => Iff.rfl⟩
  refine wpL_ind I ?_ (n - 1) _ ((hI _ _).2 ⟨_, 1, rfl, by simp, by simp, by omega, by omega, rfl⟩)
  intro m st hst
  obtain ⟨e, k, rfl, e7, e8, hk1, hk2, rfl⟩ := (hI _ _).1 hst
  by_cases d : k < n
  · have d' : (k : Int) < n := by omega
    have hl := repP_len (cBk c) (zBk) hk2
    have ht := repP_take (cBk c) (zBk) (k := k) (n := n)
    obtain ⟨q, hq⟩ : ∃ q, q = min k (n - k) := ⟨_, rfl⟩
    have hc := hcp k [] (.one (.sl 1 0 k n)) (List.replicate k (cBk c)) hk2 (by simp [elemsOf, hl, ht]) (by intro y hy; rw [List.eq_of_mem_replicate hy]; rfl)
    rw [List.length_replicate, List.take_replicate, Nat.min_comm (n - k) k, ← hq, repP_wr _ _ (by omega)] at hc
    have w3 : IntKind.i64.wrap ((k : Int) + (q : Int)) = ((k + q : Nat) : Int) := by rw [w64_id (by omega) (by omega)]; omega
    have hle : lenIs [.clo [] false, .clo (repP (cBk c) (zBk) k n) false] 1 n = true := by simp [lenIs, Ent.len, hl]
    have hel : ∀ j, j < n → elAt [.clo [] false, .clo (repP (cBk c) (zBk) k n) false] 1 n j = some 4 := fun j hj => by
      have hj' : j < (repP (cBk c) (zBk) k n).length := by rw [hl]; exact hj
      simp only [elAt, List.getElem?_cons_succ, List.getElem?_cons_zero, hl, if_true, List.getElem?_eq_getElem hj', Option.map_some]
      rcases List.mem_append.1 (List.getElem_mem hj') with h | h
      · rw [List.eq_of_mem_replicate h]; rfl
      · rw [List.eq_of_mem_replicate h]; rfl
    have hf := slo_from (P := Tryd.prog) (nid := 2) es47 sz52 hle d (hel k d)
    have hto := slo_to (P := Tryd.prog) (nid := 2) es47 sz52 hle hk2 (hel 0 (by omega))
    simp -implicitDefEqProofs [e7, e8, d', hc, w3, hl, hf, hto]
    exact ⟨n - (k + q), by omega, (hI _ _).2 ⟨_, k + q, rfl, by simp [e7], by simp, by omega, by omega, rfl⟩⟩
  · have hkn : k = n := by omega
    subst hkn
    have hrk : repP (cBk c) (zBk) k k = (List.replicate k c).map cBk := by simp [repP]
    rw [hrk]
    simp -implicitDefEqProofs [e7, e8]
end Go.Proofs.YtonkhpeahbjmmaaDoorF
end

section
/- New bitmaps. -/
set_option maxRecDepth 8192
set_option maxHeartbeats 1000000
namespace Go.Proofs.YtonkhpeahbjmmaaDoorF
open Go Go.Proofs.Vm

def newBM (seed : Int) (rows bits : Nat) : BM := ⟨seed, List.replicate rows (List.replicate bits false)⟩
theorem bm_New_arg {seed rows bits : Int} (hb : ¬ (1 ≤ rows ∧ rows ≤ 16 ∧ 1 ≤ bits ∧ bits ≤ 256)) : TV.pu 48 [cI .u64 seed, cI .i64 rows, cI .i64 bits] = some (.tup [(true, cBM ⟨0, []⟩), (false, [.v (.int .i64 1)])]) := by
  refine run48 (by simp) ?_
  by_cases g1 : rows < 1
  · simp -implicitDefEqProofs [Tryd.f48, vmove, isNil, vstore, cellsOf?, Ent.wrO, wr, g1]
    simp [qa, cBM, cBrs]
  by_cases g2 : 16 < rows
  · simp -implicitDefEqProofs [Tryd.f48, vmove, isNil, vstore, cellsOf?, Ent.wrO, wr, g1, g2]
    simp [qa, cBM, cBrs]
  by_cases g3 : bits < 1
  · simp -implicitDefEqProofs [Tryd.f48, vmove, isNil, vstore, cellsOf?, Ent.wrO, wr, g1, g2, g3]
    simp [qa, cBM, cBrs]
  have g4 : 256 < bits := by omega
  simp -implicitDefEqProofs [Tryd.f48, vmove, isNil, vstore, cellsOf?, Ent.wrO, wr, g1, g2, g3, g4]
  simp [qa, cBM, cBrs]
theorem bm_New {seed : Int} {rows bits : Nat} (hb : 1 ≤ rows ∧ rows ≤ 16 ∧ 1 ≤ bits ∧ bits ≤ 256) : TV.pu 48 [cI .u64 seed, cI .i64 rows, cI .i64 bits] = some (.tup [(true, cBM (newBM seed rows bits)), (false, [.v (.int .i64 0)])]) := by
  refine run48 (by simp) ?_
  obtain ⟨b5, b6, b7, b8⟩ := hb
  have g1 : ¬ (rows : Int) < 1 := by omega
  have g2 : ¬ 16 < (rows : Int) := by omega
  have g3 : ¬ (bits : Int) < 1 := by omega
  have g4 : ¬ 256 < (bits : Int) := by omega
  simp -implicitDefEqProofs [Tryd.f48, vmove, isNil, vstore, cellsOf?, Ent.wrO, wr, g1, g2, g3, g4]
  obtain ⟨R, hR⟩ : ∃ R, R = List.replicate bits (cB1 false) := ⟨_, rfl⟩
  have hrep : List.replicate bits [CV.v (.bool false)] = R := by rw [hR]; rfl
  have hRl : R.length = bits := by rw [hR]; simp
  have htk : R.take bits = R := List.take_of_length_le (by omega)
  have b1' : bits ≤ 140737488355328 := by omega
  have b2 : (bits : Int) ≤ 4611686018427387904 := by omega
  obtain ⟨I, hI⟩ : ∃ I : Nat → St → Prop, ∀ k s', I k s' ↔ (∃ e i E4 L, s' = ⟨e, .opn [[.c (.v (.int .u64 0)), .sl 1 0 0 0]] false :: .clo [] false :: .clo (List.replicate i [.arr R]) false :: .opn [[.c (.v (.int .u64 seed)), .sl 2 0 i i]] false :: E4 :: L⟩ ∧ e 2 = vI .i64 bits ∧ e 6 = .one (.ptr ⟨0, 0, 0, 1⟩) ∧ e 7 = vI .i64 0 ∧ e 8 = .one (.ptr ⟨3, 0, 0, 1⟩) ∧ e 26 = vI .i64 rows ∧ e 27 = vI .i64 (i : Nat) ∧ (i + k = rows)) := ⟨_, fun _ _ => Iff.rfl⟩
  refine wpL_ind I ?_ rows _ ((hI _ _).2 ⟨_, 0, _, _, (by first | rfl | (simp; done) | (simp; rfl) | (simp; and_intros <;> rfl)), by simp, by simp, by simp, by simp, by simp, by simp, by omega⟩)
  intro k stI hstI
  obtain ⟨e, i, E4, L, rfl, e2, e6, e7, e8, e26, e27, hk⟩ := (hI _ _).1 hstI
  by_cases d : i < rows
  · have w_i : IntKind.i64.wrap ((i : Int) + 1) = ((i + 1 : Nat) : Int) := by rw [w64_id (by omega) (by omega)]; omega
    have c1 : 24 * (i + 1) ≤ 140737488355328 := by omega
    have c2 : i + 1 ≤ 4611686018427387904 := by omega
    have hal : AllLen (List.replicate i [CV.arr R]) 1 := by intro x hx; rw [List.eq_of_mem_replicate hx]; rfl
    simp -implicitDefEqProofs [-List.map_replicate, e2, e8, e26, e27, d, w_i, vmakeSlice_eq es53 el4, small, hrep, hRl, htk, b1', b2, vmove, isNil, vstore, cellsOf?, Ent.wrO, wr, rch, frzAll, Ent.frz, vappend_sp es48 es48 el53, vbuildSlice_eq es48 el53, fzParts, setAll, rchParts, rch, elemsOf, c1, c2, hal]
    exact ⟨k - 1, by omega, (hI _ _).2 ⟨_, i + 1, _, _, (by first | rfl | (simp [List.replicate_succ']; done) | (simp [List.replicate_succ']; rfl) | (simp [List.replicate_succ']; and_intros <;> rfl)), by simp [e2], by simp [e6], by simp [e7], by simp [e8], by simp [e26], by simp, by omega⟩⟩
  · obtain rfl : i = rows := by omega
    simp -implicitDefEqProofs [e6, e8, e26, e27, vstore, cellsOf?, Ent.wrO, wr]
    simp [qa, comps, newBM, cBM, cBrs, cBr, hR]
end Go.Proofs.YtonkhpeahbjmmaaDoorF
end

section
/- New spread sketches. -/
set_option maxRecDepth 8192
set_option maxHeartbeats 2000000
namespace Go.Proofs.YtonkhpeahbjmmaaDoorF
open Go Go.Proofs.Vm

def nBk (seed : Int) (levels bits : Nat) : Bkt := ⟨newBM (hrow seed 0) levels bits, ByteArray.empty, -1⟩
def newSk (seed : Int) (rows cols levels bits : Nat) : Skt := ⟨seed, List.replicate rows (List.replicate cols (nBk seed levels bits))⟩
def zSk : Skt := ⟨0, []⟩
theorem sp_New_arg {seed rows cols levels bits : Int} (h0 : 0 ≤ seed) (h1 : seed < 18446744073709551616) (hb : ¬ (1 ≤ levels ∧ levels ≤ 16 ∧ 1 ≤ bits ∧ bits ≤ 256 ∧ 1 ≤ rows ∧ rows ≤ 7 ∧ 1 ≤ cols ∧ cols ≤ 256)) : TV.pu 22 [cI .u64 seed, cI .i64 rows, cI .i64 cols, cI .i64 levels, cI .i64 bits] = some (.tup [(true, cSk zSk), (false, [.v (.int .i64 1)])]) := by
  refine run22 (by simp) ?_
  have hrw := hash_Row (s := seed) (i := 0) h0 h1 (by omega) (by omega)
  by_cases g : 1 ≤ levels ∧ levels ≤ 16 ∧ 1 ≤ bits ∧ bits ≤ 256
  · obtain ⟨n, rfl⟩ := Int.eq_ofNat_of_zero_le (show 0 ≤ levels by omega)
    obtain ⟨m, rfl⟩ := Int.eq_ofNat_of_zero_le (show 0 ≤ bits by omega)
    have hn := bm_New (seed := hrow seed 0) (rows := n) (bits := m) (by omega)
    simp only [cBM, cBrs, cBr] at hn
    by_cases g1 : rows < 1
    · simp -implicitDefEqProofs [Tryd.f22, hrw, hn, vmove, isNil, vstore, cellsOf?, Ent.wrO, wr, g1]
      simp [qa, zSk, cSk, cBkr]
    by_cases g2 : 7 < rows
    · simp -implicitDefEqProofs [Tryd.f22, hrw, hn, vmove, isNil, vstore, cellsOf?, Ent.wrO, wr, g1, g2]
      simp [qa, zSk, cSk, cBkr]
    by_cases g3 : cols < 1
    · simp -implicitDefEqProofs [Tryd.f22, hrw, hn, vmove, isNil, vstore, cellsOf?, Ent.wrO, wr, g1, g2, g3]
      simp [qa, zSk, cSk, cBkr]
    have g4 : 256 < cols := by omega
    simp -implicitDefEqProofs [Tryd.f22, hrw, hn, vmove, isNil, vstore, cellsOf?, Ent.wrO, wr, g1, g2, g3, g4]
    simp [qa, zSk, cSk, cBkr]
  · have hn := bm_New_arg (seed := hrow seed 0) (rows := levels) (bits := bits) g
    simp only [cBM, cBrs, List.map_nil] at hn
    simp -implicitDefEqProofs [Tryd.f22, hrw, hn, vmove, isNil, vstore, cellsOf?, Ent.wrO, wr]
    simp [qa, zSk, cSk, cBkr]
theorem sp_New {seed : Int} {rows cols levels bits : Nat} (h0 : 0 ≤ seed) (h1 : seed < 18446744073709551616) (hb : 1 ≤ levels ∧ levels ≤ 16 ∧ 1 ≤ bits ∧ bits ≤ 256 ∧ 1 ≤ rows ∧ rows ≤ 7 ∧ 1 ≤ cols ∧ cols ≤ 256) : TV.pu 22 [cI .u64 seed, cI .i64 rows, cI .i64 cols, cI .i64 levels, cI .i64 bits] = some (.tup [(true, cSk (newSk seed rows cols levels bits)), (false, [.v (.int .i64 0)])]) := by
  refine run22 (by simp) ?_
  obtain ⟨b1, b2, b3, b4, b5, b6, b7, b8⟩ := hb
  have hrw := hash_Row (s := seed) (i := 0) h0 h1 (by omega) (by omega)
  have hn := bm_New (seed := hrow seed 0) (rows := levels) (bits := bits) ⟨b1, b2, b3, b4⟩
  obtain ⟨M, hM⟩ : ∃ M, cBrs (newBM (hrow seed 0) levels bits).rows = M := ⟨_, rfl⟩
  have hMs : (newBM (hrow seed 0) levels bits).s = hrow seed 0 := rfl
  have hcr := bks_Repeat (c := nBk seed levels bits) b7 b8
  obtain ⟨R, hR⟩ : ∃ R, R = List.replicate cols (cBk (nBk seed levels bits)) := ⟨_, rfl⟩
  rw [show cBks (List.replicate cols (nBk seed levels bits)) = .arr R by rw [hR, cBks, List.map_replicate]] at hcr
  have hcb : cBk (nBk seed levels bits) = [.v (.int .u64 (hrow seed 0)), M, .v (.string ByteArray.empty), .v (.int .i64 (-1))] := by rw [← hM]; rfl
  have hcs : (newBM (hrow seed 0) levels bits).rows.map (fun r => [cBr r]) = List.replicate levels [.arr (List.replicate bits (cB1 false))] := by simp [newBM, cBr]
  rw [cBrs, hcs] at hM
  subst hM
  obtain ⟨Q, hQ⟩ : ∃ Q : List (List CV), List.replicate levels [.arr (List.replicate bits (cB1 false))] = Q := ⟨_, rfl⟩
  simp only [cBM, cBrs, hcs, hMs, hQ] at hn
  simp only [cBks, List.map_cons, List.map_nil, hcb, hQ] at hcr
  have g1 : ¬ (rows : Int) < 1 := by omega
  have g2 : ¬ 7 < (rows : Int) := by omega
  have g3 : ¬ (cols : Int) < 1 := by omega
  have g4 : ¬ 256 < (cols : Int) := by omega
  simp -implicitDefEqProofs [Tryd.f22, hrw, hn, vmove, isNil, vstore, cellsOf?, Ent.wrO, wr, g1, g2, g3, g4]
  obtain ⟨I, hI⟩ : ∃ I : Nat → St → Prop, ∀ k s', I k s' ↔ (∃ e i E3 E6 L, s' = ⟨e, .opn [[.c (.v (.int .u64 0)), .sl 1 0 0 0]] false :: .clo [] false :: .opn [[.c (.v (.int .u64 (hrow seed 0))), .c (.arr Q)]] false :: E3 :: .clo (List.replicate i [.arr R]) false :: .opn [[.c (.v (.int .u64 seed)), .sl 4 0 i i]] false :: E6 :: L⟩ ∧ e 2 = vI .i64 cols ∧ e 10 = .one (.ptr ⟨0, 0, 0, 1⟩) ∧ e 11 = vI .i64 0 ∧ e 12 = .one (.ptr ⟨2, 0, 0, 1⟩) ∧ e 14 = .one (.ptr ⟨5, 0, 0, 1⟩) ∧ e 44 = vI .i64 rows ∧ e 45 = vI .i64 (i : Nat) ∧ (i + k = rows)) := ⟨_, fun _ _ => Iff.rfl⟩
  refine wpL_ind I ?_ rows _ ((hI _ _).2 ⟨_, 0, _, _, _, (by first | rfl | (simp; done) | (simp; rfl) | (simp; and_intros <;> rfl)), by simp, by simp, by simp, by simp, by simp, by simp, by simp, by omega⟩)
  intro k stI hstI
  obtain ⟨e, i, E3, E6, L, rfl, e2, e10, e11, e12, e14, e44, e45, hk⟩ := (hI _ _).1 hstI
  by_cases d : i < rows
  · have w_i : IntKind.i64.wrap ((i : Int) + 1) = ((i + 1 : Nat) : Int) := by rw [w64_id (by omega) (by omega)]; omega
    have c1 : 24 * (i + 1) ≤ 140737488355328 := by omega
    have c2 : i + 1 ≤ 4611686018427387904 := by omega
    have hal : AllLen (List.replicate i [CV.arr R]) 1 := by intro x hx; rw [List.eq_of_mem_replicate hx]; rfl
    simp -implicitDefEqProofs [-List.map_replicate, e2, e12, e14, e44, e45, d, w_i, hcr, vmove, isNil, vstore, cellsOf?, Ent.wrO, wr, rcha, rch, frzAll, vappend_sp es23 es23 el47, vbuildSlice_eq es23 el47, vbuildSlice_eq es47 el52, fzParts, setAll, rchParts, rch, elemsOf, c1, c2, hal]
    exact ⟨k - 1, by omega, (hI _ _).2 ⟨_, i + 1, _, _, _, (by first | rfl | (simp [List.replicate_succ']; done) | (simp [List.replicate_succ']; rfl) | (simp [List.replicate_succ']; and_intros <;> rfl)), by simp [e2], by simp [e10], by simp [e11], by simp [e12], by simp [e14], by simp [e44], by simp, by omega⟩⟩
  · obtain rfl : i = rows := by omega
    simp -implicitDefEqProofs [e10, e14, e44, e45, vstore, cellsOf?, Ent.wrO, wr]
    simp [qa, comps, newSk, cSk, cBkr, cBks, hR]
end Go.Proofs.YtonkhpeahbjmmaaDoorF
end

section
/- The document's spread: places and estimates. -/
set_option maxRecDepth 8192
set_option maxHeartbeats 1000000
namespace Go.Proofs.YtonkhpeahbjmmaaDoorF
open Go Go.Proofs.Vm

theorem sr_Place {S : Skt} {src : ByteArray} {i : Nat} (h0 : 0 ≤ S.s) (h1 : S.s < 18446744073709551616) (hl : S.rows.length < 4611686018427387904) (hi : i < S.rows.length) (hlr : S.rows[i].length < 4611686018427387904) (hs : src.size ≤ 1000) : TV.pu 43 [.agg (cSk S), cS src, cI .i64 i] = some (cI .i64 (splc S.s src i S.rows[i].length)) := by
  refine run43 (by simp) ?_
  have w1 : IntKind.i64.wrap ((i : Int) + 1) = (i : Int) + 1 := w64_id (by omega) (by omega)
  have hrw := r2_Row (s := S.s) (i := (i : Int) + 1) h0 h1 (by omega) (by omega)
  have hrr := hrow_range S.s ((i : Int) + 1)
  have hcl := r2_Cell (seed := hrow S.s ((i : Int) + 1)) (s := src) (n := (S.rows[i].length : Int)) hrr.1 (by omega) hs (by omega)
  simp -implicitDefEqProofs [Tryd.f43, cSk, cBkr, cBks, w1, hi, hrw, hcl, splc]
theorem estM_nn : ∀ {rows : List (List Bool)}, 0 ≤ estM rows := by
  intro rows
  have h1 : ∀ (b k lo : Nat), 0 ≤ estS b lo k := fun b k => by
    induction k with
    | zero => intro lo; simp [estS]
    | succ k ih =>
      intro lo
      have := ih (lo + 1)
      unfold estS
      obtain ⟨v, hv⟩ : ∃ v, b * 65536 / (lo + 1) = v := ⟨_, rfl⟩
      rw [hv]
      omega
  induction rows with
  | nil => simp [estM]
  | cons r rows ih =>
    have := h1 r.length (cntT r) (r.length - cntT r)
    unfold estM at ih ⊢
    rw [List.map_cons, List.sum_cons]
    unfold estR at ih ⊢
    omega
theorem estA_nn (S : Skt) (src : ByteArray) (i : Nat) : 0 ≤ estA S src i := by
  unfold estA
  split
  · split
    · exact estM_nn
    · omega
  · omega
theorem minA_nn (S : Skt) (src : ByteArray) {a : Int} (ha : 0 ≤ a) : ∀ k, 0 ≤ minA S src a k
  | 0 => ha
  | k + 1 => by
    rw [minA_succ]
    have := minA_nn S src ha k
    have := estA_nn S src k
    omega
theorem sr_Estimate {S : Skt} {src : ByteArray} (hs : SeedS S) (hl : LensS S) (hok : sOk S = true) (hz : src.size ≤ 1000) : TV.pu 18 [.agg (cSk S), cS src] = some (cI .i64 (estB S src)) := by
  refine run18 (by simp) ?_
  unfold estB
  rw [if_pos hok]
  obtain ⟨q1, q2, q3, q4, q5⟩ := sOk_facts hok
  have hPl : ∀ (i : Nat) (h : i < S.rows.length), TV.pu 43 [.agg (cSk S), cS src, cI .i64 i] = some (cI .i64 (splc S.s src i S.rows[i].length)) := fun i h => sr_Place hs.1 hs.2.1 hl.1 h (hl.2 _ (List.getElem_mem h)).1 hz
  have hAt : ∀ (i : Nat) (h : i < S.rows.length), ∃ (q : Nat) (hq : q < S.rows[i].length), splc S.s src i S.rows[i].length = (q : Int) ∧ TV.pu 39 [.agg (cBM S.rows[i][q].m)] = some (cI .i64 (estA S src i)) := fun i h => by
    have hb := q5 _ (List.getElem_mem h)
    have hpr := splc_range (s := S.s) (src := src) (i := i) (n := S.rows[i].length) (by omega)
    obtain ⟨q, hq⟩ : ∃ q : Nat, splc S.s src i S.rows[i].length = (q : Int) := ⟨_, (Int.toNat_of_nonneg hpr.1).symm⟩
    rw [hq] at hpr
    have hql : q < S.rows[i].length := by omega
    have he : estA S src i = estM S.rows[i][q].m.rows := by
      unfold estA
      rw [List.getElem?_eq_getElem h]
      dsimp only
      rw [hq, Int.toNat_natCast, List.getElem?_eq_getElem hql]
    refine ⟨q, hql, hq, ?_⟩
    rw [he]
    exact r13_Estimate ((hl.2 _ (List.getElem_mem h)).2 _ (List.getElem_mem hql)) (badB_facts (hb.2 _ (List.getElem_mem hql))).1
  obtain ⟨s, rows⟩ := S
  dsimp only at *
  have h00 : 0 < rows.length := by omega
  simp -implicitDefEqProofs [Tryd.f18, cSk, cBkr, cBks]
  obtain ⟨I, hI⟩ : ∃ I : Nat → St → Prop, ∀ k s', I k s' ↔ (∃ e i L, s' = ⟨e, .opn [(cSk ⟨s, rows⟩).map .c] false :: L⟩ ∧ e 1 = vS src ∧ e 2 = .one (.ptr ⟨0, 0, 0, 1⟩) ∧ e 5 = vI .i64 (if i = 0 then -1 else minA ⟨s, rows⟩ src (estA ⟨s, rows⟩ src 0) i) ∧ e 6 = vI .i64 (i : Nat) ∧ (i + k = rows.length)) := ⟨_, fun _ _ => Iff.rfl⟩
  refine wpL_ind I ?_ rows.length _ ((hI _ _).2 ⟨_, 0, _, (by first | rfl | (simp [cSk, cBkr, cBks]; done) | (simp [cSk, cBkr, cBks]; rfl) | (simp [cSk, cBkr, cBks]; and_intros <;> rfl)), by simp, by simp, by simp, by simp, by omega⟩)
  intro k stI hstI
  obtain ⟨e, i, L, rfl, e1, e2, e5, e6, hk⟩ := (hI _ _).1 hstI
  by_cases c : i < rows.length
  rotate_left
  · obtain rfl : i = rows.length := by omega
    have hi0 : rows.length ≠ 0 := by omega
    rw [if_neg hi0] at e5
    simp -implicitDefEqProofs [e2, e5, e6, cSk, cBkr, cBks]
  have w_i : IntKind.i64.wrap ((i : Int) + 1) = ((i + 1 : Nat) : Int) := by rw [w64_id (by omega) (by omega)]; omega
  obtain ⟨p2, hp2, hpe2, hE2⟩ := hAt i c
  have hP2 := hPl i c
  rw [hpe2] at hP2
  obtain ⟨b2, hb2⟩ : ∃ b, rows[i][p2] = b := ⟨_, rfl⟩
  have hcl2 : cBk rows[i][p2] = [.v (.int .u64 b2.m.s), cBrs b2.m.rows, .v (.string b2.src), .v (.int .i64 b2.lev)] := by rw [hb2]; rfl
  have hms := minA_succ ⟨s, rows⟩ src (estA ⟨s, rows⟩ src 0) i
  have hnn := minA_nn ⟨s, rows⟩ src (estA_nn ⟨s, rows⟩ src 0) i
  rw [hb2] at hE2
  obtain ⟨v, hv⟩ : ∃ v, estA ⟨s, rows⟩ src i = v := ⟨_, rfl⟩
  simp only [cSk, cBkr, cBks, cBM, cBrs, cBr] at hP2 hE2
  rw [hv] at hE2 hms
  by_cases ci : i = 0
  · subst ci
    rw [if_pos rfl] at e5
    have hm1 : minA ⟨s, rows⟩ src (estA ⟨s, rows⟩ src 0) (0 + 1) = v := by rw [hms, show minA ⟨s, rows⟩ src (estA ⟨s, rows⟩ src 0) 0 = estA ⟨s, rows⟩ src 0 from rfl, hv]; omega
    simp only [Int.cast_ofNat_Int, Nat.zero_add] at e6 hP2 w_i hm1
    have w11 : IntKind.i64.wrap 1 = 1 := by decide
    simp -implicitDefEqProofs [e1, e2, e5, e6, c, cSk, cBkr, cBks, cBrs, cBr, hP2, hE2, hp2, hcl2]
    exact ⟨k - 1, by omega, (hI _ _).2 ⟨_, 1, _, (by first | rfl | (simp [cSk, cBkr, cBks, hm1, w11]; done) | (simp [cSk, cBkr, cBks, hm1, w11]; rfl) | (simp [cSk, cBkr, cBks, hm1, w11]; and_intros <;> rfl)), by simp [e1, w11], by simp [e2, w11], by simp [hm1, w11], by simp [w11], by omega⟩⟩
  · rw [if_neg ci] at e5
    obtain ⟨u, hu⟩ : ∃ u, minA ⟨s, rows⟩ src (estA ⟨s, rows⟩ src 0) i = u := ⟨_, rfl⟩
    rw [hu] at e5 hms hnn
    have hu0 : ¬ u < 0 := by omega
    by_cases cv : v < u
    · have hm1 : minA ⟨s, rows⟩ src (estA ⟨s, rows⟩ src 0) (i + 1) = v := by rw [hms]; omega
      simp -implicitDefEqProofs [e1, e2, e5, e6, c, cSk, cBkr, cBks, cBrs, cBr, hP2, hE2, hp2, hcl2, w_i, hu0, cv]
      exact ⟨k - 1, by omega, (hI _ _).2 ⟨_, i + 1, _, (by first | rfl | (simp [cSk, cBkr, cBks, hm1]; done) | (simp [cSk, cBkr, cBks, hm1]; rfl) | (simp [cSk, cBkr, cBks, hm1]; and_intros <;> rfl)), by simp [e1], by simp [e2], by simp [hm1], by simp, by omega⟩⟩
    · have hm1 : minA ⟨s, rows⟩ src (estA ⟨s, rows⟩ src 0) (i + 1) = u := by rw [hms]; omega
      simp -implicitDefEqProofs [e1, e2, e5, e6, c, cSk, cBkr, cBks, cBrs, cBr, hP2, hE2, hp2, hcl2, w_i, hu0, cv]
      exact ⟨k - 1, by omega, (hI _ _).2 ⟨_, i + 1, _, (by first | rfl | (simp [cSk, cBkr, cBks, hm1]; done) | (simp [cSk, cBkr, cBks, hm1]; rfl) | (simp [cSk, cBkr, cBks, hm1]; and_intros <;> rfl)), by simp [e1], by simp [e2], by simp [e5, hm1], by simp, by omega⟩⟩
end Go.Proofs.YtonkhpeahbjmmaaDoorF
end

section
/- The document's spread: what a right one is. -/
set_option maxRecDepth 8192
set_option maxHeartbeats 2000000
namespace Go.Proofs.YtonkhpeahbjmmaaDoorF
open Go Go.Proofs.Vm

theorem estS_pos {b : Nat} : ∀ (k lo : Nat), lo + (k + 1) ≤ b → 1 ≤ estS b lo (k + 1) := fun k lo h => by
  have h1 : 1 ≤ b * 65536 / (lo + 1) := (Nat.le_div_iff_mul_le (by omega)).2 (by omega)
  have h2 : ∀ (k lo : Nat), 0 ≤ estS b lo k := fun k => by
    induction k with
    | zero => intro lo; simp [estS]
    | succ k ih =>
      intro lo
      have := ih (lo + 1)
      unfold estS
      obtain ⟨v, hv⟩ : ∃ v, b * 65536 / (lo + 1) = v := ⟨_, rfl⟩
      rw [hv]
      omega
  have := h2 k (lo + 1)
  unfold estS
  obtain ⟨v, hv⟩ : ∃ v, b * 65536 / (lo + 1) = v := ⟨_, rfl⟩
  rw [hv] at h1 ⊢
  omega
theorem estR_zero (r : List Bool) : estR r = 0 ↔ (r.any fun b => true == b) = false := by
  have h0 : estR r = 0 ↔ cntT r = 0 := by
    have hle := cntT_le r
    unfold estR
    constructor
    · intro h
      cases hc : cntT r with
      | zero => rfl
      | succ k =>
        rw [hc] at h hle
        have := estS_pos (b := r.length) k (r.length - (k + 1)) (by omega)
        omega
    · intro h; rw [h]; rfl
  rw [h0]
  unfold cntT
  rw [List.countP_eq_zero, List.any_eq_false]
  constructor
  · intro h x hx; have := h x hx; revert this; cases x <;> simp
  · intro h x hx; have := h x hx; revert this; cases x <;> simp
theorem estR_nn (r : List Bool) : 0 ≤ estR r := by
  have h := estM_nn (rows := [r])
  unfold estM at h
  simpa using h
theorem estM_zero : ∀ rows : List (List Bool), estM rows = 0 ↔ noneB rows = true
  | [] => by simp [estM, noneB]
  | r :: rows => by
    have ih := estM_zero rows
    have h1 := estR_nn r
    have h2 := estM_nn (rows := rows)
    have h3 := estR_zero r
    have hs : estM (r :: rows) = estR r + estM rows := by unfold estM; rw [List.map_cons, List.sum_cons]
    have hn : noneB (r :: rows) = true ↔ (r.any fun b => true == b) = false ∧ noneB rows = true := by
      unfold noneB
      rw [List.any_cons]
      simp
    rw [hs, hn, ← h3, ← ih]
    omega
theorem emptyS_eq (b : Bkt) : emptyS b = (decide (b.src.size = 0) && decide (estM b.m.rows = 0)) := by
  unfold emptyS
  congr 1
  · rw [Bool.eq_iff_iff, sEq_iff, decide_eq_true_iff]
    constructor
    · intro h; rw [h]; rfl
    · intro h; exact ByteArray.ext (Array.eq_empty_of_size_eq_zero h)
  · rw [Bool.eq_iff_iff, ← estM_zero, decide_eq_true_iff]
theorem fstM_get {rows : List (List Bkt)} (h0 : 0 < rows.length) (h1 : 0 < rows[0].length) : fstM rows = rows[0][0].m := by
  cases rows with
  | nil => simp at h0
  | cons r t => cases r with | nil => simp at h1 | cons b t2 => rfl
theorem sr_Right {S : Skt} (hs0 : 0 ≤ S.s) (hs1 : S.s < 18446744073709551616) (hl : LensS S) : TV.pu 15 [.agg (cSk S)] = some (cB (sOk S)) := by
  refine run15 (by simp) ?_
  obtain ⟨s, rows⟩ := S
  obtain ⟨l1, l2⟩ := hl
  dsimp only at hs0 hs1 l1 l2
  have hrw := r2_Row (s := s) (i := 0) hs0 hs1 (by omega) (by omega)
  obtain ⟨res, hres⟩ : ∃ res, sOk ⟨s, rows⟩ = res := ⟨_, rfl⟩
  have hcon : ∀ P : Prop, (sOk ⟨s, rows⟩ = true → ¬ P) → P → res = false := fun P h p => by
    cases hr : res with
    | false => rfl
    | true => rw [hr] at hres; exact absurd p (h hres)
  rw [hres]
  by_cases c3 : rows.length = 0
  · rw [hcon _ (fun h => by have := (sOk_facts h).1; dsimp only at this; omega) c3]
    have c3' : (rows.length : Int) = 0 := by omega
    simp -implicitDefEqProofs [Tryd.f15, cSk, cBkr, c3]
  have c3' : ¬ (rows.length : Int) = 0 := by omega
  by_cases c4 : 7 < rows.length
  · rw [hcon _ (fun h => by have := (sOk_facts h).2.1; dsimp only at this; omega) c4]
    have c4' : 7 < (rows.length : Int) := by omega
    simp -implicitDefEqProofs [Tryd.f15, cSk, cBkr, c3, c4']
  have c4' : ¬ 7 < (rows.length : Int) := by omega
  have c4n : rows.length ≤ 7 := by omega
  have hh0 : 0 < rows.length := by omega
  have hhd : rows.headD [] = rows[0] := headD_get hh0
  simp -implicitDefEqProofs [Tryd.f15, cSk, cBkr, cBks, c3, c4', vmove, isNil]
  obtain ⟨I, hI⟩ : ∃ I : Nat → St → Prop, ∀ k s', I k s' ↔ (∃ e i L, s' = ⟨e, .opn [(cSk ⟨s, rows⟩).map .c] false :: L⟩ ∧ e 1 = .one (.ptr ⟨0, 0, 0, 1⟩) ∧ e 3 = vI .i64 (i : Nat) ∧ (i + k = rows.length) ∧ (∀ j (h : j < rows.length), j < i → 1 ≤ rows[0].length ∧ rows[0].length ≤ 256 ∧ rows[j].length = rows[0].length ∧ ∀ b ∈ rows[j], badB s (fstM rows) b = false)) := ⟨_, fun _ _ => Iff.rfl⟩
  refine wpL_ind I ?_ rows.length _ ((hI _ _).2 ⟨_, 0, _, (by first | rfl | (simp [cSk, cBkr, cBks]; done) | (simp [cSk, cBkr, cBks]; rfl) | (simp [cSk, cBkr, cBks]; and_intros <;> rfl)), by simp, by simp, by omega, by omega⟩)
  intro k stI hstI
  obtain ⟨e, i, L, rfl, e1, e3, hk, hno⟩ := (hI _ _).1 hstI
  by_cases c : i < rows.length
  rotate_left
  · have : res = true := by
      rw [← hres, sOk]
      dsimp only
      rw [hhd]
      have hall : (rows.all fun r => decide (r.length = rows[0].length) && r.all fun b => !badB s (fstM rows) b) = true := List.all_eq_true.2 fun x hx => by
        obtain ⟨q, hq, rfl⟩ := List.getElem_of_mem hx
        obtain ⟨g1, g2, g3, g4⟩ := hno q hq (by omega)
        simp only [Bool.and_eq_true, decide_eq_true_eq, List.all_eq_true, Bool.not_eq_true']
        exact ⟨g3, g4⟩
      obtain ⟨g1, g2, _⟩ := hno 0 hh0 (by omega)
      have g0 : 1 ≤ rows.length := by omega
      rw [hall]; simp [g0, c4n, g1, g2]
    simp -implicitDefEqProofs [e1, e3, cSk, cBkr, cBks, c, this]
  have w_i : IntKind.i64.wrap ((i : Int) + 1) = ((i + 1 : Nat) : Int) := by rw [w64_id (by omega) (by omega)]; omega
  have hlr := (l2 _ (List.getElem_mem c)).1
  have hl0 := (l2 _ (List.getElem_mem hh0)).1
  have hgr : sOk ⟨s, rows⟩ = true → 1 ≤ rows[0].length ∧ rows[0].length ≤ 256 ∧ rows[i].length = rows[0].length ∧ ∀ b ∈ rows[i], badB s (fstM rows) b = false := fun h => by
    obtain ⟨_, _, g3, g4, g5⟩ := sOk_facts h
    dsimp only at g3 g4 g5
    rw [hhd] at g3 g4 g5
    exact ⟨g3, g4, g5 _ (List.getElem_mem c)⟩
  by_cases d0 : rows[i].length = 0
  · rw [hcon _ (fun h => by have := hgr h; omega) d0]
    have d0' : (rows[i].length : Int) = 0 := by omega
    simp -implicitDefEqProofs [e1, e3, cSk, cBkr, cBks, c, d0, vmove, isNil]
  have d0' : ¬ (rows[i].length : Int) = 0 := by omega
  by_cases d2 : 256 < rows[i].length
  · rw [hcon _ (fun h => by have := hgr h; omega) d2]
    have d2' : 256 < (rows[i].length : Int) := by omega
    simp -implicitDefEqProofs [e1, e3, cSk, cBkr, cBks, c, d0, d2', vmove, isNil]
  have d2' : ¬ 256 < (rows[i].length : Int) := by omega
  have d2n : rows[i].length ≤ 256 := by omega
  by_cases d1 : rows[i].length = rows[0].length
  rotate_left
  · rw [hcon _ (fun h => by have := (hgr h).2.2.1; exact fun g => g this) d1]
    have d1' : ¬ (rows[i].length : Int) = rows[0].length := by omega
    simp -implicitDefEqProofs [e1, e3, cSk, cBkr, cBks, hh0, c, d0, d1', d2', vmove, isNil]
  have d1' : ((rows[i].length : Int) != (rows[0].length : Int)) = false := by simp [d1]
  have h00 : 0 < rows[0].length := by omega
  simp -implicitDefEqProofs [e1, e3, cSk, cBkr, cBks, hh0, c, d0, d1', d2', vmove, isNil]
  obtain ⟨f, hf⟩ : ∃ f, rows[0][0] = f := ⟨_, rfl⟩
  have hcf : cBk rows[0][0] = [.v (.int .u64 f.m.s), cBrs f.m.rows, .v (.string f.src), .v (.int .i64 f.lev)] := by rw [hf]; rfl
  have hfm : fstM rows = f.m := by
    rw [← hf]; exact fstM_get hh0 h00
  rw [hfm] at hgr hno
  obtain ⟨J, hJ⟩ : ∃ J : Nat → St → Prop, ∀ k' s', J k' s' ↔ (∃ e p L, s' = ⟨e, .opn [(cSk ⟨s, rows⟩).map .c] false :: L⟩ ∧ e 1 = .one (.ptr ⟨0, 0, 0, 1⟩) ∧ e 3 = vI .i64 (i : Nat) ∧ e 4 = vI .i64 rows[i].length ∧ e 5 = vI .i64 (p : Nat) ∧ (p + k' = rows[i].length) ∧ (∀ q (h : q < rows[i].length), q < p → badB s f.m rows[i][q] = false)) := ⟨_, fun _ _ => Iff.rfl⟩
  refine wpL_ind J ?_ rows[i].length _ ((hJ _ _).2 ⟨_, 0, _, (by first | rfl | (simp [e1, e3, cSk, cBkr, cBks]; done) | (simp [e1, e3, cSk, cBkr, cBks]; rfl) | (simp [e1, e3, cSk, cBkr, cBks]; and_intros <;> rfl)), by simp [e1], by simp [e3], by simp, by simp, by omega, by omega⟩)
  clear e1 e3
  intro k' stJ hstJ
  obtain ⟨e, p, L, rfl, e1, e3, e4, e5, hk', hnp⟩ := (hJ _ _).1 hstJ
  by_cases d : p < rows[i].length
  rotate_left
  · simp -implicitDefEqProofs [e3, e4, e5, d, w_i, cSk, cBkr, cBks]
    refine ⟨k - 1, by omega, (hI _ _).2 ⟨_, i + 1, _, (by first | rfl | (simp [cSk, cBkr, cBks]; done) | (simp [cSk, cBkr, cBks]; rfl) | (simp [cSk, cBkr, cBks]; and_intros <;> rfl)), by simp [e1], by simp, by omega, fun q hq hq2 => ?_⟩⟩
    rw [hfm]
    by_cases hqi : q = i
    · subst hqi
      exact ⟨by omega, by omega, d1, fun b hb => by
        obtain ⟨z, hz, rfl⟩ := List.getElem_of_mem hb
        exact hnp z hz (by omega)⟩
    · exact hno q hq (by omega)
  have w_p : IntKind.i64.wrap ((p : Int) + 1) = ((p + 1 : Nat) : Int) := by rw [w64_id (by omega) (by omega)]; omega
  have hbp : badB s f.m rows[i][p] = true → res = false := fun h => hcon _ (fun g => fun g2 => by rw [(hgr g).2.2.2 _ (List.getElem_mem d)] at g2; cases g2) h
  have hnx : badB s f.m rows[i][p] = false → ∀ q (h : q < rows[i].length), q < p + 1 → badB s f.m rows[i][q] = false := fun hg q hq hq2 => by
    by_cases hqp : q = p
    · subst hqp; exact hg
    · exact hnp q hq (by omega)
  have hlb := (l2 _ (List.getElem_mem c)).2 _ (List.getElem_mem d)
  have hMR := r13_Right hlb
  have hEs := fun h => r13_Estimate hlb h
  obtain ⟨b, hb⟩ : ∃ b, rows[i][p] = b := ⟨_, rfl⟩
  have hcl : cBk rows[i][p] = [.v (.int .u64 b.m.s), cBrs b.m.rows, .v (.string b.src), .v (.int .i64 b.lev)] := by rw [hb]; rfl
  rw [hb] at hbp hnx hlb hMR hEs
  simp only [cBM, cBrs, cBr] at hMR hEs
  unfold badB at hbp
  cases g1 : mOk b.m with
  | false =>
    rw [g1] at hMR
    rw [hbp (by rw [g1]; simp)]
    simp -implicitDefEqProofs [e1, e3, e4, e5, c, d, hcl, hMR, cSk, cBkr, cBks, cBrs, cBr, vmove, isNil, vstore, cellsOf?, Ent.wrO, wr]
  | true =>
  rw [g1] at hMR
  have hE := hEs g1
  by_cases g2 : b.m.s = hrow s 0
  rotate_left
  · rw [hbp (by simp [g2])]
    simp -implicitDefEqProofs [e1, e3, e4, e5, c, d, hcl, hrw, hMR, cSk, cBkr, cBks, cBrs, cBr, vmove, isNil, vstore, cellsOf?, Ent.wrO, wr, g2]
  rw [g2] at hMR hE
  by_cases g5 : b.lev < -1
  · rw [hbp (by simp [g5])]
    simp -implicitDefEqProofs [e1, e3, e4, e5, c, d, hcl, hrw, hMR, cSk, cBkr, cBks, cBrs, cBr, vmove, isNil, vstore, cellsOf?, Ent.wrO, wr, g2, g5]
  by_cases g6 : 16 < b.lev
  · rw [hbp (by simp [g6])]
    simp -implicitDefEqProofs [e1, e3, e4, e5, c, d, hcl, hrw, hMR, cSk, cBkr, cBks, cBrs, cBr, vmove, isNil, vstore, cellsOf?, Ent.wrO, wr, g2, g5, g6]
  have g6n : b.lev ≤ 16 := by omega
  have g5n : -1 ≤ b.lev := by omega
  by_cases g3 : b.m.rows.length = f.m.rows.length
  rotate_left
  · rw [hbp (by simp [g3])]
    have g3' : ¬ (b.m.rows.length : Int) = f.m.rows.length := by omega
    simp -implicitDefEqProofs [e1, e3, e4, e5, c, d, hh0, h00, hcl, hcf, hrw, hMR, cSk, cBkr, cBks, cBrs, cBr, vmove, isNil, vstore, cellsOf?, Ent.wrO, wr, g2, g3', g5, g6]
  have g3' : ((b.m.rows.length : Int) != (f.m.rows.length : Int)) = false := by simp [g3]
  have q1 := (mOk_facts g1).1
  have x0 : 0 < b.m.rows.length := by omega
  have y0 : 0 < f.m.rows.length := by omega
  have xh : b.m.rows.headD [] = b.m.rows[0] := headD_get x0
  have yh : f.m.rows.headD [] = f.m.rows[0] := headD_get y0
  rw [xh, yh] at hbp
  by_cases g4 : b.m.rows[0].length = f.m.rows[0].length
  rotate_left
  · rw [hbp (by simp [g4])]
    have g4' : ¬ (b.m.rows[0].length : Int) = f.m.rows[0].length := by omega
    simp -implicitDefEqProofs [e1, e3, e4, e5, c, d, hh0, h00, hcl, hcf, hrw, hMR, cSk, cBkr, cBks, cBrs, cBr, vmove, isNil, vstore, cellsOf?, Ent.wrO, wr, g2, g3', g4', x0, y0, g5, g6]
  have g4' : ((b.m.rows[0].length : Int) != (f.m.rows[0].length : Int)) = false := by simp [g4]
  have hbp2 : (decide (b.lev = -1) != emptyS b) = true → res = false := fun h => hbp (by rw [h]; simp)
  have hnx2 : (decide (b.lev = -1) != emptyS b) = false → ∀ q (h : q < rows[i].length), q < p + 1 → badB s f.m rows[i][q] = false := fun h => hnx (by unfold badB; rw [xh, yh, h, g1]; simp [g2, g3, g4, g5, g6])
  clear hbp hnx
  rw [emptyS_eq] at hbp2 hnx2
  have hlv : decide (b.lev = -1) = decide (b.lev < 0) := by rw [Bool.eq_iff_iff, decide_eq_true_iff, decide_eq_true_iff]; omega
  rw [hlv] at hbp2 hnx2
  by_cases k1 : b.src.size = 0
  · have k1' : (b.src.size : Int) = 0 := by omega
    by_cases k2 : estM b.m.rows = 0
    · by_cases k3 : b.lev < 0
      · simp -implicitDefEqProofs [e1, e3, e4, e5, c, d, hh0, h00, hcl, hcf, hrw, hMR, w_p, cSk, cBkr, cBks, cBrs, cBr, vmove, isNil, vstore, cellsOf?, Ent.wrO, wr, g2, g3', g4', x0, y0, g5, g6, hE, k1, k2, k3, bin_bne ub4]
        exact ⟨k' - 1, by omega, (hJ _ _).2 ⟨_, p + 1, _, (by first | rfl | (simp [cSk, cBkr, cBks]; done) | (simp [cSk, cBkr, cBks]; rfl) | (simp [cSk, cBkr, cBks]; and_intros <;> rfl)), by simp [e1], by simp [e3], by simp [e4], by simp, by omega, hnx2 (by simp [k1, k2, k3])⟩⟩
      · rw [hbp2 (by simp [k1, k2, k3])]
        simp -implicitDefEqProofs [e1, e3, e4, e5, c, d, hh0, h00, hcl, hcf, hrw, hMR, cSk, cBkr, cBks, cBrs, cBr, vmove, isNil, vstore, cellsOf?, Ent.wrO, wr, g2, g3', g4', x0, y0, g5, g6, hE, k1, k2, k3, bin_bne ub4]
    · by_cases k3 : b.lev < 0
      · rw [hbp2 (by simp [k1, k2, k3])]
        simp -implicitDefEqProofs [e1, e3, e4, e5, c, d, hh0, h00, hcl, hcf, hrw, hMR, cSk, cBkr, cBks, cBrs, cBr, vmove, isNil, vstore, cellsOf?, Ent.wrO, wr, g2, g3', g4', x0, y0, g5, g6, hE, k1, k2, k3, bin_bne ub4]
      · simp -implicitDefEqProofs [e1, e3, e4, e5, c, d, hh0, h00, hcl, hcf, hrw, hMR, w_p, cSk, cBkr, cBks, cBrs, cBr, vmove, isNil, vstore, cellsOf?, Ent.wrO, wr, g2, g3', g4', x0, y0, g5, g6, hE, k1, k2, k3, bin_bne ub4]
        exact ⟨k' - 1, by omega, (hJ _ _).2 ⟨_, p + 1, _, (by first | rfl | (simp [cSk, cBkr, cBks]; done) | (simp [cSk, cBkr, cBks]; rfl) | (simp [cSk, cBkr, cBks]; and_intros <;> rfl)), by simp [e1], by simp [e3], by simp [e4], by simp, by omega, hnx2 (by simp [k1, k2, k3])⟩⟩
  · have k1' : ¬ (b.src.size : Int) = 0 := by omega
    by_cases k3 : b.lev < 0
    · rw [hbp2 (by simp [k1, k3])]
      simp -implicitDefEqProofs [e1, e3, e4, e5, c, d, hh0, h00, hcl, hcf, hrw, hMR, cSk, cBkr, cBks, cBrs, cBr, vmove, isNil, vstore, cellsOf?, Ent.wrO, wr, g2, g3', g4', x0, y0, g5, g6, k1, k3, bin_bne ub4]
    · simp -implicitDefEqProofs [e1, e3, e4, e5, c, d, hh0, h00, hcl, hcf, hrw, hMR, w_p, cSk, cBkr, cBks, cBrs, cBr, vmove, isNil, vstore, cellsOf?, Ent.wrO, wr, g2, g3', g4', x0, y0, g5, g6, k1, k3, bin_bne ub4]
      exact ⟨k' - 1, by omega, (hJ _ _).2 ⟨_, p + 1, _, (by first | rfl | (simp [cSk, cBkr, cBks]; done) | (simp [cSk, cBkr, cBks]; rfl) | (simp [cSk, cBkr, cBks]; and_intros <;> rfl)), by simp [e1], by simp [e3], by simp [e4], by simp, by omega, hnx2 (by simp [k1, k3])⟩⟩
end Go.Proofs.YtonkhpeahbjmmaaDoorF
end

section
/- The document's spread: the same ones, small ones. -/
set_option maxRecDepth 8192
set_option maxHeartbeats 2000000
namespace Go.Proofs.YtonkhpeahbjmmaaDoorF
open Go Go.Proofs.Vm

theorem eqM_self (m : BM) : eqM m m = true := by simp [eqM]
theorem sr_Equal {S : Skt} (hl : LensS S) : TV.pu 17 [.agg (cSk S), .agg (cSk S)] = some (cB true) := by
  refine run17 (by simp) ?_
  obtain ⟨s, rows⟩ := S
  obtain ⟨l1, l2⟩ := hl
  dsimp only at l1 l2
  simp -implicitDefEqProofs [Tryd.f17, cSk, cBkr, cBks, vmove, isNil]
  obtain ⟨I, hI⟩ : ∃ I : Nat → St → Prop, ∀ k s', I k s' ↔ (∃ e i L, s' = ⟨e, .opn [(cSk ⟨s, rows⟩).map .c] false :: .opn [(cSk ⟨s, rows⟩).map .c] false :: L⟩ ∧ e 2 = .one (.ptr ⟨0, 0, 0, 1⟩) ∧ e 3 = .one (.ptr ⟨1, 0, 0, 1⟩) ∧ e 5 = vI .i64 (i : Nat) ∧ (i + k = rows.length)) := ⟨_, fun _ _ => Iff.rfl⟩
  refine wpL_ind I ?_ rows.length _ ((hI _ _).2 ⟨_, 0, _, (by first | rfl | (simp [cSk, cBkr, cBks]; done) | (simp [cSk, cBkr, cBks]; rfl) | (simp [cSk, cBkr, cBks]; and_intros <;> rfl)), by simp, by simp, by simp, by omega⟩)
  intro k stI hstI
  obtain ⟨e, i, L, rfl, e2, e3, e5, hk⟩ := (hI _ _).1 hstI
  by_cases c : i < rows.length
  rotate_left
  · simp -implicitDefEqProofs [e2, e5, cSk, cBkr, cBks, c]
  have w_i : IntKind.i64.wrap ((i : Int) + 1) = ((i + 1 : Nat) : Int) := by rw [w64_id (by omega) (by omega)]; omega
  have hlr := (l2 _ (List.getElem_mem c)).1
  simp -implicitDefEqProofs [e2, e3, e5, cSk, cBkr, cBks, c, vmove, isNil]
  obtain ⟨J, hJ⟩ : ∃ J : Nat → St → Prop, ∀ k' s', J k' s' ↔ (∃ e p L, s' = ⟨e, .opn [(cSk ⟨s, rows⟩).map .c] false :: .opn [(cSk ⟨s, rows⟩).map .c] false :: L⟩ ∧ e 2 = .one (.ptr ⟨0, 0, 0, 1⟩) ∧ e 3 = .one (.ptr ⟨1, 0, 0, 1⟩) ∧ e 5 = vI .i64 (i : Nat) ∧ e 6 = vI .i64 (p : Nat) ∧ (p + k' = rows[i].length)) := ⟨_, fun _ _ => Iff.rfl⟩
  refine wpL_ind J ?_ rows[i].length _ ((hJ _ _).2 ⟨_, 0, _, (by first | rfl | (simp [e2, e3, e5, cSk, cBkr, cBks]; done) | (simp [e2, e3, e5, cSk, cBkr, cBks]; rfl) | (simp [e2, e3, e5, cSk, cBkr, cBks]; and_intros <;> rfl)), by simp [e2], by simp [e3], by simp [e5], by simp, by omega⟩)
  clear e2 e3 e5
  intro k' stJ hstJ
  obtain ⟨e, p, L, rfl, e2, e3, e5, e6, hk'⟩ := (hJ _ _).1 hstJ
  by_cases d : p < rows[i].length
  rotate_left
  · simp -implicitDefEqProofs [e2, e5, e6, c, d, w_i, cSk, cBkr, cBks]
    exact ⟨k - 1, by omega, (hI _ _).2 ⟨_, i + 1, _, (by first | rfl | (simp [cSk, cBkr, cBks]; done) | (simp [cSk, cBkr, cBks]; rfl) | (simp [cSk, cBkr, cBks]; and_intros <;> rfl)), by simp [e2], by simp [e3], by simp, by omega⟩⟩
  have w_p : IntKind.i64.wrap ((p : Int) + 1) = ((p + 1 : Nat) : Int) := by rw [w64_id (by omega) (by omega)]; omega
  have hEq := r13_Equal (A := rows[i][p].m) (B := rows[i][p].m) ((l2 _ (List.getElem_mem c)).2 _ (List.getElem_mem d))
  rw [eqM_self] at hEq
  obtain ⟨b, hb⟩ : ∃ b, rows[i][p] = b := ⟨_, rfl⟩
  have hcl : cBk rows[i][p] = [.v (.int .u64 b.m.s), cBrs b.m.rows, .v (.string b.src), .v (.int .i64 b.lev)] := by rw [hb]; rfl
  rw [hb] at hEq
  simp only [cBM, cBrs, cBr] at hEq
  simp -implicitDefEqProofs [e2, e3, e5, e6, c, d, hcl, hEq, w_p, cSk, cBkr, cBks, cBrs, cBr, vmove, isNil, vstore, cellsOf?, Ent.wrO, wr]
  exact ⟨k' - 1, by omega, (hJ _ _).2 ⟨_, p + 1, _, (by first | rfl | (simp [cSk, cBkr, cBks]; done) | (simp [cSk, cBkr, cBks]; rfl) | (simp [cSk, cBkr, cBks]; and_intros <;> rfl)), by simp [e2], by simp [e3], by simp [e5], by simp, by omega⟩⟩
def smallB (b : Bkt) : Bool := decide (b.src.size ≤ 100) && decide (b.m.rows.length ≤ 20) && b.m.rows.all fun r => decide (r.length ≤ 100)
def smallS (S : Skt) : Bool := decide (S.rows.length ≤ 10) && S.rows.all fun r => decide (r.length ≤ 20) && r.all smallB
theorem smallS_facts {S : Skt} (h : smallS S = true) : S.rows.length ≤ 10 ∧ ∀ r ∈ S.rows, r.length ≤ 20 ∧ ∀ b ∈ r, b.src.size ≤ 100 ∧ b.m.rows.length ≤ 20 ∧ ∀ q ∈ b.m.rows, q.length ≤ 100 := by
  unfold smallS smallB at h
  simp only [Bool.and_eq_true, decide_eq_true_eq, List.all_eq_true] at h
  exact ⟨h.1, fun r hr => ⟨(h.2 r hr).1, fun b hb => ⟨((h.2 r hr).2 b hb).1.1, ((h.2 r hr).2 b hb).1.2, ((h.2 r hr).2 b hb).2⟩⟩⟩
theorem sr_Small {S : Skt} (hl : LensS S) (hz : ∀ r ∈ S.rows, ∀ b ∈ r, b.src.size < 4611686018427387904) : TV.pu 10 [.agg (cSk S)] = some (cB (smallS S)) := by
  refine run10 (by simp) ?_
  obtain ⟨s, rows⟩ := S
  obtain ⟨l1, l2⟩ := hl
  dsimp only at l1 l2 hz
  obtain ⟨res, hres⟩ : ∃ res, smallS ⟨s, rows⟩ = res := ⟨_, rfl⟩
  have hcon : ∀ P : Prop, (smallS ⟨s, rows⟩ = true → ¬ P) → P → res = false := fun P h p => by
    cases hr : res with
    | false => rfl
    | true => rw [hr] at hres; exact absurd p (h hres)
  rw [hres]
  by_cases c1 : 10 < rows.length
  · rw [hcon _ (fun h => by have := (smallS_facts h).1; dsimp only at this; omega) c1]
    have c1' : 10 < (rows.length : Int) := by omega
    simp -implicitDefEqProofs [Tryd.f10, cSk, cBkr, c1']
  have c1' : ¬ 10 < (rows.length : Int) := by omega
  have c1n : rows.length ≤ 10 := by omega
  simp -implicitDefEqProofs [Tryd.f10, cSk, cBkr, cBks, c1', vmove, isNil]
  obtain ⟨I, hI⟩ : ∃ I : Nat → St → Prop, ∀ k s', I k s' ↔ (∃ e i L, s' = ⟨e, .opn [(cSk ⟨s, rows⟩).map .c] false :: L⟩ ∧ e 1 = .one (.ptr ⟨0, 0, 0, 1⟩) ∧ e 3 = vI .i64 (i : Nat) ∧ (i + k = rows.length) ∧ (∀ j (h : j < rows.length), j < i → rows[j].length ≤ 20 ∧ ∀ b ∈ rows[j], smallB b = true)) := ⟨_, fun _ _ => Iff.rfl⟩
  refine wpL_ind I ?_ rows.length _ ((hI _ _).2 ⟨_, 0, _, (by first | rfl | (simp [cSk, cBkr, cBks]; done) | (simp [cSk, cBkr, cBks]; rfl) | (simp [cSk, cBkr, cBks]; and_intros <;> rfl)), by simp, by simp, by omega, by omega⟩)
  intro k stI hstI
  obtain ⟨e, i, L, rfl, e1, e3, hk, hno⟩ := (hI _ _).1 hstI
  by_cases c : i < rows.length
  rotate_left
  · have : res = true := by
      rw [← hres, smallS]
      dsimp only
      simp only [Bool.and_eq_true, decide_eq_true_eq, List.all_eq_true]
      refine ⟨c1n, fun r hr => ?_⟩
      obtain ⟨q, hq, rfl⟩ := List.getElem_of_mem hr
      exact hno q hq (by omega)
    simp -implicitDefEqProofs [e1, e3, cSk, cBkr, cBks, c, this]
  have w_i : IntKind.i64.wrap ((i : Int) + 1) = ((i + 1 : Nat) : Int) := by rw [w64_id (by omega) (by omega)]; omega
  have hlr := (l2 _ (List.getElem_mem c)).1
  by_cases d2 : 20 < rows[i].length
  · rw [hcon _ (fun h => by have := ((smallS_facts h).2 _ (List.getElem_mem c)).1; omega) d2]
    have d2' : 20 < (rows[i].length : Int) := by omega
    simp -implicitDefEqProofs [e1, e3, cSk, cBkr, cBks, c, d2', vmove, isNil]
  have d2' : ¬ 20 < (rows[i].length : Int) := by omega
  have d2n : rows[i].length ≤ 20 := by omega
  simp -implicitDefEqProofs [e1, e3, cSk, cBkr, cBks, c, d2', vmove, isNil]
  obtain ⟨J, hJ⟩ : ∃ J : Nat → St → Prop, ∀ k' s', J k' s' ↔ (∃ e p L, s' = ⟨e, .opn [(cSk ⟨s, rows⟩).map .c] false :: L⟩ ∧ e 1 = .one (.ptr ⟨0, 0, 0, 1⟩) ∧ e 3 = vI .i64 (i : Nat) ∧ e 30 = .one (.c (cBks rows[i])) ∧ e 31 = vI .i64 rows[i].length ∧ e 32 = vI .i64 (p : Nat) ∧ (p + k' = rows[i].length) ∧ (∀ q (h : q < rows[i].length), q < p → smallB rows[i][q] = true)) := ⟨_, fun _ _ => Iff.rfl⟩
  refine wpL_ind J ?_ rows[i].length _ ((hJ _ _).2 ⟨_, 0, _, (by first | rfl | (simp [e1, e3, cSk, cBkr, cBks]; done) | (simp [e1, e3, cSk, cBkr, cBks]; rfl) | (simp [e1, e3, cSk, cBkr, cBks]; and_intros <;> rfl)), by simp [e1], by simp [e3], by simp [cBks], by simp, by simp, by omega, by omega⟩)
  clear e1 e3
  intro k' stJ hstJ
  obtain ⟨e, p, L, rfl, e1, e3, e30, e31, e32, hk', hnp⟩ := (hJ _ _).1 hstJ
  by_cases d : p < rows[i].length
  rotate_left
  · simp -implicitDefEqProofs [e3, e31, e32, d, w_i, cSk, cBkr, cBks]
    refine ⟨k - 1, by omega, (hI _ _).2 ⟨_, i + 1, _, (by first | rfl | (simp [cSk, cBkr, cBks]; done) | (simp [cSk, cBkr, cBks]; rfl) | (simp [cSk, cBkr, cBks]; and_intros <;> rfl)), by simp [e1], by simp, by omega, fun q hq hq2 => ?_⟩⟩
    by_cases hqi : q = i
    · subst hqi
      exact ⟨d2n, fun b hb => by
        obtain ⟨z, hz2, rfl⟩ := List.getElem_of_mem hb
        exact hnp z hz2 (by omega)⟩
    · exact hno q hq (by omega)
  have w_p : IntKind.i64.wrap ((p : Int) + 1) = ((p + 1 : Nat) : Int) := by rw [w64_id (by omega) (by omega)]; omega
  have hsm : smallS ⟨s, rows⟩ = true → rows[i][p].src.size ≤ 100 ∧ rows[i][p].m.rows.length ≤ 20 ∧ ∀ q ∈ rows[i][p].m.rows, q.length ≤ 100 := fun h => ((smallS_facts h).2 _ (List.getElem_mem c)).2 _ (List.getElem_mem d)
  have hlb := (l2 _ (List.getElem_mem c)).2 _ (List.getElem_mem d)
  have hzb := hz _ (List.getElem_mem c) _ (List.getElem_mem d)
  have hnx : smallB rows[i][p] = true → ∀ q (h : q < rows[i].length), q < p + 1 → smallB rows[i][q] = true := fun hg q hq hq2 => by
    by_cases hqp : q = p
    · subst hqp; exact hg
    · exact hnp q hq (by omega)
  obtain ⟨b, hb⟩ : ∃ b, rows[i][p] = b := ⟨_, rfl⟩
  have hcl : cBk rows[i][p] = [.v (.int .u64 b.m.s), cBrs b.m.rows, .v (.string b.src), .v (.int .i64 b.lev)] := by rw [hb]; rfl
  rw [hb] at hsm hlb hzb hnx
  by_cases k1 : 100 < b.src.size
  · rw [hcon _ (fun h => by have := (hsm h).1; omega) k1]
    have k1' : 100 < (b.src.size : Int) := by omega
    simp -implicitDefEqProofs [e30, e31, e32, d, hcl, k1', cSk, cBkr, cBks, cBrs, cBr, vmove, isNil, vstore, cellsOf?, Ent.wrO, wr]
  have k1' : ¬ 100 < (b.src.size : Int) := by omega
  have k1n : b.src.size ≤ 100 := by omega
  by_cases k2 : 20 < b.m.rows.length
  · rw [hcon _ (fun h => by have := (hsm h).2.1; omega) k2]
    have k2' : 20 < (b.m.rows.length : Int) := by omega
    simp -implicitDefEqProofs [e30, e31, e32, d, hcl, k1', k2', cSk, cBkr, cBks, cBrs, cBr, vmove, isNil, vstore, cellsOf?, Ent.wrO, wr]
  have k2' : ¬ 20 < (b.m.rows.length : Int) := by omega
  have k2n : b.m.rows.length ≤ 20 := by omega
  simp -implicitDefEqProofs [e30, e31, e32, d, hcl, k1', k2', cSk, cBkr, cBks, cBrs, cBr, vmove, isNil, vstore, cellsOf?, Ent.wrO, wr]
  obtain ⟨G, hG⟩ : ∃ G : Nat → St → Prop, ∀ n s', G n s' ↔ (∃ e z L, s' = ⟨e, .opn [(cSk ⟨s, rows⟩).map .c] false :: L⟩ ∧ e 1 = .one (.ptr ⟨0, 0, 0, 1⟩) ∧ e 3 = vI .i64 (i : Nat) ∧ e 30 = .one (.c (cBks rows[i])) ∧ e 31 = vI .i64 rows[i].length ∧ e 32 = vI .i64 (p : Nat) ∧ e 49 = .one (.c (cBrs b.m.rows)) ∧ e 50 = vI .i64 b.m.rows.length ∧ e 51 = vI .i64 (z : Nat) ∧ (z + n = b.m.rows.length) ∧ (∀ q (h : q < b.m.rows.length), q < z → b.m.rows[q].length ≤ 100)) := ⟨_, fun _ _ => Iff.rfl⟩
  refine wpL_ind G ?_ b.m.rows.length _ ((hG _ _).2 ⟨_, 0, _, (by first | rfl | (simp [e1, e3, e30, e31, e32, cSk, cBkr, cBks, cBrs, cBr]; done) | (simp [e1, e3, e30, e31, e32, cSk, cBkr, cBks, cBrs, cBr]; rfl) | (simp [e1, e3, e30, e31, e32, cSk, cBkr, cBks, cBrs, cBr]; and_intros <;> rfl)), by simp [e1], by simp [e3], by simp [e30, cBks], by simp [e31], by simp [e32], by simp [cBrs, cBr], by simp, by simp, by omega, by omega⟩)
  clear e1 e3 e30 e31 e32
  intro n stG hstG
  obtain ⟨e, z, L, rfl, e1, e3, e30, e31, e32, e49, e50, e51, hn', hnz⟩ := (hG _ _).1 hstG
  by_cases g : z < b.m.rows.length
  rotate_left
  · simp -implicitDefEqProofs [e32, e50, e51, g, w_p, cSk, cBkr, cBks]
    refine ⟨k' - 1, by omega, (hJ _ _).2 ⟨_, p + 1, _, (by first | rfl | (simp [cSk, cBkr, cBks]; done) | (simp [cSk, cBkr, cBks]; rfl) | (simp [cSk, cBkr, cBks]; and_intros <;> rfl)), by simp [e1], by simp [e3], by simp [e30, cBks], by simp [e31], by simp, by omega, hnx ?_⟩⟩
    unfold smallB
    simp only [Bool.and_eq_true, decide_eq_true_eq, List.all_eq_true]
    refine ⟨⟨k1n, k2n⟩, fun r hr => ?_⟩
    obtain ⟨q, hq, rfl⟩ := List.getElem_of_mem hr
    exact hnz q hq (by omega)
  have w_z : IntKind.i64.wrap ((z : Int) + 1) = ((z + 1 : Nat) : Int) := by rw [w64_id (by omega) (by omega)]; omega
  have hlz := hlb.2 _ (List.getElem_mem g)
  by_cases k3 : 100 < b.m.rows[z].length
  · rw [hcon _ (fun h => by have := (hsm h).2.2 _ (List.getElem_mem g); omega) k3]
    have k3' : 100 < (b.m.rows[z].length : Int) := by omega
    simp -implicitDefEqProofs [e49, e50, e51, g, k3', cSk, cBkr, cBks, cBrs, cBr]
  have k3' : ¬ 100 < (b.m.rows[z].length : Int) := by omega
  have k3n : b.m.rows[z].length ≤ 100 := by omega
  simp -implicitDefEqProofs [e49, e50, e51, g, k3', w_z, cSk, cBkr, cBks, cBrs, cBr]
  refine ⟨n - 1, by omega, (hG _ _).2 ⟨_, z + 1, _, (by first | rfl | (simp [cSk, cBkr, cBks, cBrs, cBr]; done) | (simp [cSk, cBkr, cBks, cBrs, cBr]; rfl) | (simp [cSk, cBkr, cBks, cBrs, cBr]; and_intros <;> rfl)), by simp [e1], by simp [e3], by simp [e30, cBks], by simp [e31], by simp [e32], by simp [e49, cBrs, cBr], by simp [e50], by simp, by omega, fun q hq hq2 => ?_⟩⟩
  by_cases hqz : q = z
  · subst hqz; exact k3n
  · exact hnz q hq (by omega)
end Go.Proofs.YtonkhpeahbjmmaaDoorF
end

section
/- A spread sketch as the document's. -/
set_option maxRecDepth 8192
set_option maxHeartbeats 1000000
namespace Go.Proofs.YtonkhpeahbjmmaaDoorF
open Go Go.Proofs.Vm

/-- Lengths that goods have. -/
def LensS7 (S : Skt) : Prop := 24 * S.rows.length ≤ 140737488355328 ∧ ∀ x ∈ S.rows, 56 * x.length ≤ 140737488355328
theorem ls_ref {S : Skt} (hl : LensS7 S) : TV.pu 9 [.agg (cSk S)] = some (.agg (cSk S)) := by
  refine run9 (by simp) ?_
  obtain ⟨s, rows⟩ := S
  obtain ⟨l1, l2⟩ := hl
  dsimp only at l1 l2
  simp -implicitDefEqProofs [Tryd.f9, cSk, cBkr, cBks, vstore, cellsOf?, Ent.wrO, wr, vmove, isNil]
  obtain ⟨I, hI⟩ : ∃ I : Nat → St → Prop, ∀ k s', I k s' ↔ (∃ e i E0 L, s' = ⟨e, E0 :: .opn [[.c (.v (.int .u64 0)), .sl 2 0 0 0]] false :: .clo [] false :: .clo ((rows.take i).map fun l => [cBks l]) false :: .opn [[.c (.v (.int .u64 s)), .sl 3 0 i i]] false :: L⟩ ∧ e 2 = .one (.ptr ⟨1, 0, 0, 1⟩) ∧ e 3 = .one (.ptr ⟨4, 0, 0, 1⟩) ∧ e 13 = .one (.c (cBkr rows)) ∧ e 14 = vI .i64 rows.length ∧ e 15 = vI .i64 (i : Nat) ∧ (i + k = rows.length)) := ⟨_, fun _ _ => Iff.rfl⟩
  refine wpL_ind I ?_ rows.length _ ((hI _ _).2 ⟨_, 0, _, _, (by first | rfl | (simp [cBkr, cBks]; done) | (simp [cBkr, cBks]; rfl) | (simp [cBkr, cBks]; and_intros <;> rfl)), by simp, by simp, by simp [cBkr, cBks], by simp, by simp, by omega⟩)
  intro k stI hstI
  obtain ⟨e, i, E0, L, rfl, e2, e3, e13, e14, e15, hk⟩ := (hI _ _).1 hstI
  by_cases c : i < rows.length
  rotate_left
  · obtain rfl : i = rows.length := by omega
    simp -implicitDefEqProofs [e2, e3, e14, e15, vstore, cellsOf?, Ent.wrO, wr]
    simp [qa, cBks]
    try exact List.take_of_length_le (by simp)
  have w_i : IntKind.i64.wrap ((i : Int) + 1) = ((i + 1 : Nat) : Int) := by rw [w64_id (by omega) (by omega)]; omega
  have lr := l2 _ (List.getElem_mem c)
  simp -implicitDefEqProofs [e13, e14, e15, c, cBkr, cBks, vmove, isNil]
  obtain ⟨J, hJ⟩ : ∃ J : Nat → St → Prop, ∀ k' s', J k' s' ↔ (∃ e p M, s' = ⟨e, E0 :: .opn [[.c (.v (.int .u64 0)), .sl 2 0 0 0]] false :: .clo [] false :: .clo ((rows.take i).map fun l => [cBks l]) false :: .opn [[.c (.v (.int .u64 s)), .sl 3 0 i i]] false :: (L ++ .clo ((rows[i].take p).map cBk) false :: M)⟩ ∧ e 2 = .one (.ptr ⟨1, 0, 0, 1⟩) ∧ e 3 = .one (.ptr ⟨4, 0, 0, 1⟩) ∧ e 13 = .one (.c (cBkr rows)) ∧ e 14 = vI .i64 rows.length ∧ e 15 = vI .i64 (i : Nat) ∧ e 6 = .one (.sl (L.length + 1 + 1 + 1 + 1 + 1) 0 p p) ∧ e 19 = .one (.c (cBks rows[i])) ∧ e 20 = vI .i64 rows[i].length ∧ e 21 = vI .i64 (p : Nat) ∧ (p + k' = rows[i].length)) := ⟨_, fun _ _ => Iff.rfl⟩
  refine wpL_ind J ?_ rows[i].length _ ((hJ _ _).2 ⟨_, 0, [], (by first | rfl | (simp [cBks]; done) | (simp [cBks]; rfl) | (simp [e2, e3, e13, e14, e15, cBkr, cBks]; and_intros <;> rfl)), by simp [e2], by simp [e3], by simp [e13, cBkr, cBks], by simp [e14], by simp [e15], by simp, by simp [cBks], by simp, by simp, by omega⟩)
  clear e2 e3 e13 e14 e15
  intro k' stJ hstJ
  obtain ⟨e, p, M, rfl, e2, e3, e13, e14, e15, e6, e19, e20, e21, hk'⟩ := (hJ _ _).1 hstJ
  by_cases d : p < rows[i].length
  · have w_p : IntKind.i64.wrap ((p : Int) + 1) = ((p + 1 : Nat) : Int) := by rw [w64_id (by omega) (by omega)]; omega
    have c1 : 56 * (p + 1) ≤ 140737488355328 := by omega
    have c2 : p + 1 ≤ 4611686018427387904 := by omega
    have hpl : min p rows[i].length = p := by omega
    have hal : AllLen ((rows[i].take p).map cBk) 4 := by intro x hx; obtain ⟨y, _, rfl⟩ := List.mem_map.1 hx; rfl
    have htk : (rows[i].take p).map cBk ++ [cBk rows[i][p]] = (rows[i].take (p + 1)).map cBk := by rw [List.take_add_one, List.getElem?_eq_getElem d, Option.toList_some, List.map_append]; rfl
    obtain ⟨b, hb⟩ : ∃ b, rows[i][p] = b := ⟨_, rfl⟩
    have hcl : cBk rows[i][p] = [.v (.int .u64 b.m.s), cBrs b.m.rows, .v (.string b.src), .v (.int .i64 b.lev)] := by rw [hb]; rfl
    obtain ⟨Q, hQ⟩ : ∃ Q : List (List CV), cBrs b.m.rows = .arr Q := ⟨_, rfl⟩
    rw [hQ] at hcl
    rw [hcl] at htk
    simp -implicitDefEqProofs [-List.map_take, e6, e19, e20, e21, d, w_p, cBks, hcl, vmove, isNil, vstore, cellsOf?, Ent.wrO, wr, vappend_sp es69 es69 el72, vbuildSlice_eq es69 el72, fzParts, setAll, rchParts, rch, elemsOf, c1, c2, hpl, hal, htk]
    exact ⟨k' - 1, by omega, (hJ _ _).2 ⟨_, p + 1, _, (by first | rfl | (simp [cBkr, cBks]; done) | (simp [cBkr, cBks]; rfl) | (simp [cBkr, cBks]; and_intros <;> rfl)), by simp [e2], by simp [e3], by simp [e13, cBkr, cBks], by simp [e14], by simp [e15], by simp, by simp [e19, cBks], by simp [e20], by simp, by omega⟩⟩
  · obtain rfl : p = rows[i].length := by omega
    have c1 : 24 * (i + 1) ≤ 140737488355328 := by omega
    have c2 : i + 1 ≤ 4611686018427387904 := by omega
    have hil : min i rows.length = i := by omega
    have hal : AllLen ((rows.take i).map fun l => [cBks l]) 1 := by intro x hx; obtain ⟨y, _, rfl⟩ := List.mem_map.1 hx; rfl
    have htk : ((rows.take i).map fun l => [cBks l]) ++ [[cBks rows[i]]] = (rows.take (i + 1)).map fun l => [cBks l] := by rw [List.take_add_one, List.getElem?_eq_getElem c, Option.toList_some, List.map_append]; rfl
    have hfl : rows[i].take rows[i].length = rows[i] := List.take_of_length_le (Nat.le_refl _)
    have hfm : (rows[i].map cBk).take rows[i].length = rows[i].map cBk := List.take_of_length_le (by simp)
    simp only [cBks] at hal htk
    simp -implicitDefEqProofs [-List.map_take, e3, e6, e15, e20, e21, w_i, cBks, vmove, isNil, vstore, cellsOf?, Ent.wrO, wr, vappend_sp es26 es26 el69, vbuildSlice_eq es26 el69, fzParts, setAll, rchParts, rch, frzAll, Ent.frz, elemsOf, c1, c2, hil, hal, htk, hfl, hfm]
    exact ⟨k - 1, by omega, (hI _ _).2 ⟨_, i + 1, E0, _, (by first | rfl | (simp [cBkr, cBks]; done) | (simp [cBkr, cBks]; rfl) | (simp [cBkr, cBks]; and_intros <;> rfl)), by simp [e2], by simp [e3], by simp [e13, cBkr, cBks], by simp [e14], by simp, by omega⟩⟩
end Go.Proofs.YtonkhpeahbjmmaaDoorF
end

section
/- The document's spread: a pair comes. -/
set_option maxRecDepth 8192
set_option maxHeartbeats 1000000
namespace Go.Proofs.YtonkhpeahbjmmaaDoorF
open Go Go.Proofs.Vm

theorem addRw_get {s : Int} {src : ByteArray} {f : Bkt → Bkt} {i : Nat} {r : List Bkt} {p q : Nat} (hq : splc s src i r.length = (q : Int)) (h : p < r.length) (h' : p < (addRw s src f i r).length) : (addRw s src f i r)[p] = if p = q then f r[p] else r[p] := by
  simp only [addRw, List.getElem_modify, hq, Int.toNat_natCast]
  by_cases hp : q = p
  · subst hp; simp
  · rw [if_neg hp, if_neg (fun h => hp h.symm)]
theorem sr_Add {S : Skt} {src tgt : ByteArray} (hs : SeedS S) (hl : LensS S) (h7 : LensS7 S) (hok : sOk S = true) (hz : src.size + tgt.size ≤ 1000) : TV.pu 21 [.agg (cSk S), cS src, cS tgt] = some (.agg (cSk (addS S src tgt))) := by
  refine run21 (by simp) ?_
  obtain ⟨q1, q2, q3, q4, q5⟩ := sOk_facts hok
  have hPl : ∀ (i : Nat) (h : i < S.rows.length), TV.pu 43 [.agg (cSk S), cS src, cI .i64 i] = some (cI .i64 (splc S.s src i S.rows[i].length)) := fun i h => sr_Place hs.1 hs.2.1 hl.1 h (hl.2 _ (List.getElem_mem h)).1 (by omega)
  obtain ⟨s, rows⟩ := S
  obtain ⟨s0, s1, s2⟩ := hs
  obtain ⟨l1, l2⟩ := h7
  dsimp only at *
  have hpz : (src ++ tgt).size ≤ 1000 := by rw [ByteArray.size_append]; exact hz
  have hadd := fun (H : Hp) (t : TypeId) (x y : Operand) => sbin_add (P := Tryd.prog) (H := H) (t := t) (x := x) (y := y) (u := src) (v := tgt) (by omega)
  have hrw := r2_Row (s := s) (i := 20) s0 s1 (by omega) (by omega)
  have hrr := hrow_range s 20
  have hLv := r2_Level (seed := hrow s 20) (s := src ++ tgt) (most := 16) hrr.1 (by omega) hpz (by omega) (by omega)
  obtain ⟨lv, hlv⟩ : ∃ lv, hlev (hrow s 20) (src ++ tgt) 16 = lv := ⟨_, rfl⟩
  rw [hlv] at hLv
  unfold addS plev
  dsimp only
  rw [hlv]
  obtain ⟨pair, hpair⟩ : ∃ pair, src ++ tgt = pair := ⟨_, rfl⟩
  rw [hpair] at hpz hadd hLv ⊢
  obtain ⟨A, hA⟩ : ∃ A, addTo s src (addBk pair src lv) rows.length rows = A := ⟨_, rfl⟩
  have hAl : A.length = rows.length := by rw [← hA, addTo_len]
  have hAi : ∀ i, ∀ h : i < rows.length, ∀ h2 : i < A.length, A[i] = addRw s src (addBk pair src lv) i rows[i] := fun i h h2 => by
    subst hA
    rw [addTo_at h h2, if_pos h]
  rw [hA]
  clear hA
  simp only [cSk, cBkr, cBks] at hPl
  simp -implicitDefEqProofs [Tryd.f21, cSk, cBkr, cBks, hadd, hrw, hLv, vmove, isNil]
  obtain ⟨I, hI⟩ : ∃ I : Nat → St → Prop, ∀ k s', I k s' ↔ (∃ e i L, s' = ⟨e, .opn [(cSk ⟨s, rows⟩).map .c] false :: .opn [[.c (.v (.int .u64 0)), .sl 2 0 0 0]] false :: .clo [] false :: .clo ((A.take i).map fun l => [cBks l]) false :: L⟩ ∧ e 1 = vS src ∧ e 3 = .one (.ptr ⟨0, 0, 0, 1⟩) ∧ e 6 = .one (.ptr ⟨1, 0, 0, 1⟩) ∧ e 7 = vS pair ∧ e 8 = vI .i64 lv ∧ e 9 = .one (.sl 3 0 i i) ∧ e 10 = vI .i64 (i : Nat) ∧ (i + k = rows.length)) := ⟨_, fun _ _ => Iff.rfl⟩
  refine wpL_ind I ?_ rows.length _ ((hI _ _).2 ⟨_, 0, _, (by first | rfl | (simp [cSk, cBkr, cBks]; done) | (simp [cSk, cBkr, cBks]; rfl) | (simp [cSk, cBkr, cBks]; and_intros <;> rfl)), by simp, by simp, by simp, by simp, by simp, by simp, by simp, by omega⟩)
  intro k stI hstI
  obtain ⟨e, i, L, rfl, e1, e3, e6, e7, e8, e9, e10, hk⟩ := (hI _ _).1 hstI
  by_cases c : i < rows.length
  rotate_left
  · obtain rfl : i = rows.length := by omega
    have hfA : A.take rows.length = A := List.take_of_length_le (by omega)
    have hfB : (A.map fun l => [CV.arr (l.map cBk)]).take rows.length = A.map fun l => [CV.arr (l.map cBk)] := List.take_of_length_le (by simp; omega)
    rw [hfA]
    simp -implicitDefEqProofs [e3, e6, e9, e10, cSk, cBkr, cBks, vstore, cellsOf?, Ent.wrO, wr]
    simp [qa, hAl, hfB]
  have w_i : IntKind.i64.wrap ((i : Int) + 1) = ((i + 1 : Nat) : Int) := by rw [w64_id (by omega) (by omega)]; omega
  have lr := l2 _ (List.getElem_mem c)
  have ciA : i < A.length := by omega
  have hAie := hAi i c ciA
  have hAil : A[i].length = rows[i].length := by rw [hAie, addRw_len]
  obtain ⟨b1, b2⟩ := q5 _ (List.getElem_mem c)
  have hP := hPl i c
  have hpr := splc_range (s := s) (src := src) (i := i) (n := rows[i].length) (by omega)
  obtain ⟨q, hq⟩ : ∃ q : Nat, splc s src i rows[i].length = (q : Int) := ⟨_, (Int.toNat_of_nonneg hpr.1).symm⟩
  rw [hq] at hP
  have hget := fun (p : Nat) (h : p < rows[i].length) => addRw_get (f := addBk pair src lv) hq h (by rw [addRw_len]; exact h)
  simp -implicitDefEqProofs [e1, e3, e10, c, hP, cSk, cBkr, cBks, vmove, isNil]
  obtain ⟨J, hJ⟩ : ∃ J : Nat → St → Prop, ∀ k' s', J k' s' ↔ (∃ e p M, s' = ⟨e, .opn [(cSk ⟨s, rows⟩).map .c] false :: .opn [[.c (.v (.int .u64 0)), .sl 2 0 0 0]] false :: .clo [] false :: .clo ((A.take i).map fun l => [cBks l]) false :: (L ++ .clo ((A[i].take p).map cBk) false :: M)⟩ ∧ e 1 = vS src ∧ e 3 = .one (.ptr ⟨0, 0, 0, 1⟩) ∧ e 6 = .one (.ptr ⟨1, 0, 0, 1⟩) ∧ e 7 = vS pair ∧ e 8 = vI .i64 lv ∧ e 9 = .one (.sl 3 0 i i) ∧ e 10 = vI .i64 (i : Nat) ∧ e 11 = .one (.sl (L.length + 1 + 1 + 1 + 1) 0 p p) ∧ e 12 = vI .i64 (q : Nat) ∧ e 13 = vI .i64 (p : Nat) ∧ (p + k' = rows[i].length)) := ⟨_, fun _ _ => Iff.rfl⟩
  refine wpL_ind J ?_ rows[i].length _ ((hJ _ _).2 ⟨_, 0, [], (by first | rfl | (simp [cSk, cBkr, cBks]; done) | (simp [cSk, cBkr, cBks]; rfl) | (simp [e1, e3, e6, e7, e8, e9, e10, cSk, cBkr, cBks]; and_intros <;> rfl)), by simp [e1], by simp [e3], by simp [e6], by simp [e7], by simp [e8], by simp [e9], by simp [e10], by simp, by simp, by simp, by omega⟩)
  clear e1 e3 e6 e7 e8 e9 e10
  intro k' stJ hstJ
  obtain ⟨e, p, M, rfl, e1, e3, e6, e7, e8, e9, e10, e11, e12, e13, hk'⟩ := (hJ _ _).1 hstJ
  by_cases d : p < rows[i].length
  rotate_left
  · obtain rfl : p = rows[i].length := by omega
    have c1 : 24 * (i + 1) ≤ 140737488355328 := by omega
    have c2 : i + 1 ≤ 4611686018427387904 := by omega
    have hil : min i A.length = i := by omega
    have hal : AllLen ((A.take i).map fun l => [cBks l]) 1 := by intro x hx; obtain ⟨y, _, rfl⟩ := List.mem_map.1 hx; rfl
    have htk : ((A.take i).map fun l => [cBks l]) ++ [[cBks A[i]]] = (A.take (i + 1)).map fun l => [cBks l] := by rw [List.take_add_one, List.getElem?_eq_getElem ciA, Option.toList_some, List.map_append]; rfl
    have hfl : A[i].take rows[i].length = A[i] := List.take_of_length_le (by omega)
    have hfm : (A[i].map cBk).take rows[i].length = A[i].map cBk := List.take_of_length_le (by simp; omega)
    simp only [cBks] at hal htk
    simp -implicitDefEqProofs [-List.map_take, e3, e9, e10, e11, e13, c, w_i, hAil, cSk, cBkr, cBks, vmove, isNil, cellsOf?, vappend_sp es26 es26 el69, vbuildSlice_eq es26 el69, fzParts, setAll, rchParts, rch, frzAll, Ent.frz, elemsOf, c1, c2, hil, hal, htk, hfl, hfm]
    exact ⟨k - 1, by omega, (hI _ _).2 ⟨_, i + 1, _, (by first | rfl | (simp [cSk, cBkr, cBks]; done) | (simp [cSk, cBkr, cBks]; rfl) | (simp [cSk, cBkr, cBks]; and_intros <;> rfl)), by simp [e1], by simp [e3], by simp [e6], by simp [e7], by simp [e8], by simp, by simp, by omega⟩⟩
  have w_p : IntKind.i64.wrap ((p : Int) + 1) = ((p + 1 : Nat) : Int) := by rw [w64_id (by omega) (by omega)]; omega
  have c1 : 56 * (p + 1) ≤ 140737488355328 := by omega
  have c2 : p + 1 ≤ 4611686018427387904 := by omega
  have dA : p < A[i].length := by omega
  have hpl : min p A[i].length = p := by omega
  have hal : AllLen ((A[i].take p).map cBk) 4 := by intro x hx; obtain ⟨y, _, rfl⟩ := List.mem_map.1 hx; rfl
  have htk : (A[i].take p).map cBk ++ [cBk A[i][p]] = (A[i].take (p + 1)).map cBk := by rw [List.take_add_one, List.getElem?_eq_getElem dA, Option.toList_some, List.map_append]; rfl
  have hgp : A[i][p] = if p = q then addBk pair src lv rows[i][p] else rows[i][p] := by
    rw [← hget p d]
    congr 1
  rw [hgp] at htk
  have hbf := badB_facts (b2 _ (List.getElem_mem d))
  have hbs := s2 _ (List.getElem_mem c) _ (List.getElem_mem d)
  obtain ⟨b, hb⟩ : ∃ b, rows[i][p] = b := ⟨_, rfl⟩
  have hcl : cBk rows[i][p] = [.v (.int .u64 b.m.s), cBrs b.m.rows, .v (.string b.src), .v (.int .i64 b.lev)] := by rw [hb]; rfl
  rw [hb] at hbf hbs htk
  have hA2 := r13_Add (m := b.m) (t := pair) hbs.1 hbs.2 hbf.1 hpz
  simp only [cBM, cBrs, cBr] at hA2 hcl
  by_cases hpq : p = q
  rotate_left
  · have hpq' : ¬ (p : Int) = q := by omega
    rw [if_neg hpq, cBk] at htk
    simp only [cBrs, cBr] at htk
    simp -implicitDefEqProofs [-List.map_take, e3, e10, e11, e12, e13, c, d, hcl, hpq', w_p, cSk, cBkr, cBks, vmove, isNil, vstore, cellsOf?, Ent.wrO, wr, vappend_sp es69 es69 el72, vbuildSlice_eq es69 el72, fzParts, setAll, rchParts, rch, elemsOf, c1, c2, hpl, hal, htk]
    exact ⟨k' - 1, by omega, (hJ _ _).2 ⟨_, p + 1, _, (by first | rfl | (simp [cSk, cBkr, cBks]; done) | (simp [cSk, cBkr, cBks]; rfl) | (simp [cSk, cBkr, cBks]; and_intros <;> rfl)), by simp [e1], by simp [e3], by simp [e6], by simp [e7], by simp [e8], by simp [e9], by simp [e10], by simp, by simp [e12], by simp, by omega⟩⟩
  rw [if_pos hpq, cBk] at htk
  subst hpq
  by_cases hlt : b.lev ≤ lv
  · simp only [addBk, hlt, if_true, cBrs, cBr] at htk
    simp -implicitDefEqProofs [-List.map_take, e1, e3, e7, e8, e10, e11, e12, e13, c, d, hcl, hA2, hlt, w_p, cSk, cBkr, cBks, vmove, isNil, vstore, cellsOf?, Ent.wrO, wr, vappend_sp es69 es69 el72, vbuildSlice_eq es69 el72, fzParts, setAll, rchParts, rch, elemsOf, c1, c2, hpl, hal, htk]
    exact ⟨k' - 1, by omega, (hJ _ _).2 ⟨_, p + 1, _, (by first | rfl | (simp [cSk, cBkr, cBks]; done) | (simp [cSk, cBkr, cBks]; rfl) | (simp [cSk, cBkr, cBks]; and_intros <;> rfl)), by simp [e1], by simp [e3], by simp [e6], by simp [e7], by simp [e8], by simp [e9], by simp [e10], by simp, by simp [e12], by simp, by omega⟩⟩
  · simp only [addBk, hlt, if_false, cBrs, cBr] at htk
    simp -implicitDefEqProofs [-List.map_take, e3, e7, e8, e10, e11, e12, e13, c, d, hcl, hA2, hlt, w_p, cSk, cBkr, cBks, vmove, isNil, vstore, cellsOf?, Ent.wrO, wr, vappend_sp es69 es69 el72, vbuildSlice_eq es69 el72, fzParts, setAll, rchParts, rch, elemsOf, c1, c2, hpl, hal, htk]
    exact ⟨k' - 1, by omega, (hJ _ _).2 ⟨_, p + 1, _, (by first | rfl | (simp [cSk, cBkr, cBks]; done) | (simp [cSk, cBkr, cBks]; rfl) | (simp [cSk, cBkr, cBks]; and_intros <;> rfl)), by simp [e1], by simp [e3], by simp [e6], by simp [e7], by simp [e8], by simp [e9], by simp [e10], by simp, by simp [e12], by simp, by omega⟩⟩
end Go.Proofs.YtonkhpeahbjmmaaDoorF
end

section
/- The document's spread: the list. -/
set_option maxRecDepth 8192
set_option maxHeartbeats 1000000
namespace Go.Proofs.YtonkhpeahbjmmaaDoorF
open Go Go.Proofs.Vm

def rstep (S : Skt) (most : Int) (l : List Itm) (b : Bkt) : List Itm := if 0 < b.src.size ∧ (mget b.src l).isSome = false ∧ most ≤ estB S b.src then insL (b.src, estB S b.src) l else l
def rrow (S : Skt) (most : Int) (l : List Itm) (r : List Bkt) : List Itm := r.foldl (rstep S most) l
def rto (S : Skt) (most : Int) (rows : List (List Bkt)) : List Itm := rows.foldl (rrow S most) []
theorem rrow_take (S : Skt) (most : Int) (a : List Itm) {r : List Bkt} {p : Nat} (h : p < r.length) : rrow S most a (r.take (p + 1)) = rstep S most (rrow S most a (r.take p)) r[p] := by
  unfold rrow
  rw [List.take_add_one, List.getElem?_eq_getElem h, Option.toList_some, List.foldl_append]
  rfl
theorem rto_take (S : Skt) (most : Int) {rows : List (List Bkt)} {i : Nat} (h : i < rows.length) : rto S most (rows.take (i + 1)) = rrow S most (rto S most (rows.take i)) rows[i] := by
  unfold rto
  rw [List.take_add_one, List.getElem?_eq_getElem h, Option.toList_some, List.foldl_append]
  rfl
theorem sr_List {S : Skt} {most : Int} (hs : SeedS S) (hl : LensS S) (hok : sOk S = true) (hsm : smallS S = true) : TV.pu 20 [.agg (cSk S), cI .i64 most] = some (.one (cItms (rto S most S.rows))) := by
  refine run20 (by simp) ?_
  obtain ⟨z1, z2⟩ := smallS_facts hsm
  have hE : ∀ r ∈ S.rows, ∀ b ∈ r, TV.pu 18 [.agg (cSk S), cS b.src] = some (cI .i64 (estB S b.src)) := fun r hr b hb => sr_Estimate hs hl hok (by have := ((z2 r hr).2 b hb).1; omega)
  obtain ⟨q1, q2, q3, q4, q5⟩ := sOk_facts hok
  clear q3 q4 q5
  obtain ⟨s, rows⟩ := S
  dsimp only at *
  simp only [cSk, cBkr, cBks] at hE
  simp -implicitDefEqProofs [Tryd.f20, cSk, cBkr, cBks, vmove, isNil, cItms]
  obtain ⟨S, hS⟩ : ∃ S : Skt, (⟨s, rows⟩ : Skt) = S := ⟨_, rfl⟩
  simp only [hS] at hE
  rw [hS]
  clear hS
  obtain ⟨I, hI⟩ : ∃ I : Nat → St → Prop, ∀ k s', I k s' ↔ (∃ e i out E1 L, s' = ⟨e, .opn [(cSk ⟨s, rows⟩).map .c] false :: E1 :: L⟩ ∧ e 2 = .one (.ptr ⟨0, 0, 0, 1⟩) ∧ e 1 = vI .i64 most ∧ e 6 = vI .i64 (i : Nat) ∧ (e 5 = .one (.c (cItms out)) ∨ e 5 = .one (.sl 2 0 0 0) ∧ out = [] ∧ ∃ b L', L = .clo [] b :: L') ∧ (i + k = rows.length) ∧ (rto S most (rows.take i) = out) ∧ (out.length ≤ 20 * i)) := ⟨_, fun _ _ => Iff.rfl⟩
  refine wpL_ind I ?_ rows.length _ ((hI _ _).2 ⟨_, 0, [], _, _, (by first | rfl | (simp [cSk, cBkr, cBks]; done) | (simp [cSk, cBkr, cBks]; rfl) | (simp [cSk, cBkr, cBks]; and_intros <;> rfl)), by simp, by simp, by simp, .inr ⟨by simp, rfl, _, _, rfl⟩, by omega, rfl, by simp⟩)
  intro k stI hstI
  obtain ⟨e, i, out, E1, L, rfl, e2, e1, e6, e5, hk, ho, hol⟩ := (hI _ _).1 hstI
  by_cases c : i < rows.length
  rotate_left
  · have hil : rows.take i = rows := List.take_of_length_le (by omega)
    rw [hil] at ho
    rw [ho]
    rcases e5 with e5 | ⟨e5, rfl, b, L', rfl⟩
    · simp -implicitDefEqProofs [e2, e5, e6, c, cSk, cBkr, cBks, vmove, isNil, cItms]
      try simp [qa, comps]
    · simp -implicitDefEqProofs [e2, e5, e6, c, cSk, cBkr, cBks, vmove, isNil]
      try simp [qa, comps]
  have w_i : IntKind.i64.wrap ((i : Int) + 1) = ((i + 1 : Nat) : Int) := by rw [w64_id (by omega) (by omega)]; omega
  have hrli := (z2 _ (List.getElem_mem c)).1
  have hEi := hE _ (List.getElem_mem c)
  simp -implicitDefEqProofs [e2, e6, c, cSk, cBkr, cBks]
  have hto := rto_take S most c
  rw [ho] at hto
  obtain ⟨J, hJ⟩ : ∃ J : Nat → St → Prop, ∀ k' s', J k' s' ↔ (∃ e p out E1 L, s' = ⟨e, .opn [(cSk ⟨s, rows⟩).map .c] false :: E1 :: L⟩ ∧ e 2 = .one (.ptr ⟨0, 0, 0, 1⟩) ∧ e 1 = vI .i64 most ∧ e 6 = vI .i64 (i : Nat) ∧ e 23 = .one (.c (cBks rows[i])) ∧ e 24 = vI .i64 rows[i].length ∧ e 25 = vI .i64 (p : Nat) ∧ (e 5 = .one (.c (cItms out)) ∨ e 5 = .one (.sl 2 0 0 0) ∧ out = [] ∧ ∃ b L', L = .clo [] b :: L') ∧ (p + k' = rows[i].length) ∧ (rrow S most (rto S most (rows.take i)) (rows[i].take p) = out) ∧ (out.length ≤ 20 * i + p)) := ⟨_, fun _ _ => Iff.rfl⟩
  refine wpL_ind J ?_ rows[i].length _ ((hJ _ _).2 ⟨_, 0, out, _, _, (by first | rfl | (simp [e1, e2, e6, cSk, cBkr, cBks]; done) | (simp [e1, e2, e6, cSk, cBkr, cBks]; rfl) | (simp [e1, e2, e6, cSk, cBkr, cBks]; and_intros <;> rfl)), by simp [e2], by simp [e1], by simp [e6], by simp [cBks], by simp, by simp, by simpa using e5, by omega, ho, by omega⟩)
  clear e1 e2 e5 e6 ho hto hol
  intro k' stJ hstJ
  obtain ⟨e, p, out, E1, L, rfl, e2, e1, e6, e23, e24, e25, e5, hk', ho', hol'⟩ := (hJ _ _).1 hstJ
  by_cases d : p < rows[i].length
  rotate_left
  · have hil : rows[i].take p = rows[i] := List.take_of_length_le (by omega)
    rw [hil, ← rto_take S most c] at ho'
    simp -implicitDefEqProofs [e6, e24, e25, d, w_i, cSk, cBkr, cBks]
    exact ⟨k - 1, by omega, (hI _ _).2 ⟨_, i + 1, out, _, _, (by first | rfl | (simp [cSk, cBkr, cBks]; done) | (simp [cSk, cBkr, cBks]; rfl) | (simp [cSk, cBkr, cBks]; and_intros <;> rfl)), by simp [e2], by simp [e1], by simp, by simpa using e5, by omega, ho', by omega⟩⟩
  have w_p : IntKind.i64.wrap ((p : Int) + 1) = ((p + 1 : Nat) : Int) := by rw [w64_id (by omega) (by omega)]; omega
  have hEp := hEi _ (List.getElem_mem d)
  have hst := rrow_take S most (rto S most (rows.take i)) d
  rw [ho'] at hst
  obtain ⟨b, hb⟩ : ∃ b, rows[i][p] = b := ⟨_, rfl⟩
  have hcl : cBk rows[i][p] = [.v (.int .u64 b.m.s), cBrs b.m.rows, .v (.string b.src), .v (.int .i64 b.lev)] := by rw [hb]; rfl
  rw [hb] at hEp hst
  simp only [cBrs, cBr] at hcl
  have hG := refGet out b.src (by omega)
  have hP := Put out (b.src, estB S b.src) (by omega)
  have hil := insL_len (b.src, estB S b.src) out
  have hnil : out = [] → cItms out = CV.arr [] := fun h => by rw [h]; rfl
  simp only [cItms] at hG hP
  by_cases k1 : b.src.size = 0
  · have hst' : rrow S most (rto S most (rows.take i)) (rows[i].take (p + 1)) = out := by rw [hst]; simp [rstep, k1]
    have k1' : ¬ 0 < b.src.size := by omega
    have k1i : ¬ 0 < (b.src.size : Int) := by omega
    rcases e5 with e5 | ⟨e5, rfl, b', L', rfl⟩
    · simp -implicitDefEqProofs [e2, e5, e23, e24, e25, d, hcl, hEp, hG, w_p, cSk, cBkr, cBks, cItms, rcha, rch, frzAll, vmove, isNil, vstore, cellsOf?, Ent.wrO, wr, k1]
      exact ⟨k' - 1, by omega, (hJ _ _).2 ⟨_, p + 1, out, _, _, (by first | rfl | (simp [cSk, cBkr, cBks]; done) | (simp [cSk, cBkr, cBks]; rfl) | (simp [cSk, cBkr, cBks]; and_intros <;> rfl)), by simp [e2], by simp [e1], by simp [e6], by simp [e23, cBks], by simp [e24], by simp, .inl (by simp [e5, cItms]), by omega, hst', by omega⟩⟩
    · simp only [List.map_nil] at hG hP
      simp -implicitDefEqProofs [e2, e5, e23, e24, e25, d, hcl, hEp, hG, w_p, cSk, cBkr, cBks, rcha, rch, frzAll, vmove, isNil, vstore, cellsOf?, Ent.wrO, wr, k1]
      exact ⟨k' - 1, by omega, (hJ _ _).2 ⟨_, p + 1, [], _, _, (by first | rfl | (simp [cSk, cBkr, cBks]; done) | (simp [cSk, cBkr, cBks]; rfl) | (simp [cSk, cBkr, cBks]; and_intros <;> rfl)), by simp [e2], by simp [e1], by simp [e6], by simp [e23, cBks], by simp [e24], by simp, .inr ⟨by simp [e5], rfl, _, _, rfl⟩, by omega, hst', by simp⟩⟩
  have k1' : 0 < b.src.size := by omega
  have k1i : 0 < (b.src.size : Int) := by omega
  obtain ⟨g, hg⟩ : ∃ g, (mget b.src out).isSome = g := ⟨_, rfl⟩
  rw [hg] at hG
  cases g with
  | true =>
    have hst' : rrow S most (rto S most (rows.take i)) (rows[i].take (p + 1)) = out := by rw [hst]; simp [rstep, hg]
    rcases e5 with e5 | ⟨e5, rfl, b', L', rfl⟩
    · simp -implicitDefEqProofs [e2, e5, e23, e24, e25, d, hcl, hEp, hG, w_p, cSk, cBkr, cBks, cItms, rcha, rch, frzAll, vmove, isNil, vstore, cellsOf?, Ent.wrO, wr, k1']
      exact ⟨k' - 1, by omega, (hJ _ _).2 ⟨_, p + 1, out, _, _, (by first | rfl | (simp [cSk, cBkr, cBks]; done) | (simp [cSk, cBkr, cBks]; rfl) | (simp [cSk, cBkr, cBks]; and_intros <;> rfl)), by simp [e2], by simp [e1], by simp [e6], by simp [e23, cBks], by simp [e24], by simp, .inl (by simp [e5, cItms]), by omega, hst', by omega⟩⟩
    · simp only [List.map_nil] at hG hP
      simp -implicitDefEqProofs [e2, e5, e23, e24, e25, d, hcl, hEp, hG, w_p, cSk, cBkr, cBks, rcha, rch, frzAll, vmove, isNil, vstore, cellsOf?, Ent.wrO, wr, k1']
      exact ⟨k' - 1, by omega, (hJ _ _).2 ⟨_, p + 1, [], _, _, (by first | rfl | (simp [cSk, cBkr, cBks]; done) | (simp [cSk, cBkr, cBks]; rfl) | (simp [cSk, cBkr, cBks]; and_intros <;> rfl)), by simp [e2], by simp [e1], by simp [e6], by simp [e23, cBks], by simp [e24], by simp, .inr ⟨by simp [e5], rfl, _, _, rfl⟩, by omega, hst', by simp⟩⟩
  | false =>
  by_cases k3 : most ≤ estB S b.src
  rotate_left
  · have hst' : rrow S most (rto S most (rows.take i)) (rows[i].take (p + 1)) = out := by rw [hst]; simp [rstep, k3]
    rcases e5 with e5 | ⟨e5, rfl, b', L', rfl⟩
    · simp -implicitDefEqProofs [e1, e2, e5, e23, e24, e25, d, hcl, hEp, hG, w_p, cSk, cBkr, cBks, cItms, rcha, rch, frzAll, vmove, isNil, vstore, cellsOf?, Ent.wrO, wr, k1', k3]
      exact ⟨k' - 1, by omega, (hJ _ _).2 ⟨_, p + 1, out, _, _, (by first | rfl | (simp [cSk, cBkr, cBks]; done) | (simp [cSk, cBkr, cBks]; rfl) | (simp [cSk, cBkr, cBks]; and_intros <;> rfl)), by simp [e2], by simp [e1], by simp [e6], by simp [e23, cBks], by simp [e24], by simp, .inl (by simp [e5, cItms]), by omega, hst', by omega⟩⟩
    · simp only [List.map_nil] at hG hP
      simp -implicitDefEqProofs [e1, e2, e5, e23, e24, e25, d, hcl, hEp, hG, w_p, cSk, cBkr, cBks, rcha, rch, frzAll, vmove, isNil, vstore, cellsOf?, Ent.wrO, wr, k1', k3]
      exact ⟨k' - 1, by omega, (hJ _ _).2 ⟨_, p + 1, [], _, _, (by first | rfl | (simp [cSk, cBkr, cBks]; done) | (simp [cSk, cBkr, cBks]; rfl) | (simp [cSk, cBkr, cBks]; and_intros <;> rfl)), by simp [e2], by simp [e1], by simp [e6], by simp [e23, cBks], by simp [e24], by simp, .inr ⟨by simp [e5], rfl, _, _, rfl⟩, by omega, hst', by simp⟩⟩
  · have hst' : rrow S most (rto S most (rows.take i)) (rows[i].take (p + 1)) = insL (b.src, estB S b.src) out := by rw [hst]; simp [rstep, k1', hg, k3]
    simp only [cItm] at hP
    rcases e5 with e5 | ⟨e5, rfl, b', L', rfl⟩
    · simp -implicitDefEqProofs [e1, e2, e5, e23, e24, e25, d, hcl, hEp, hG, w_p, cSk, cBkr, cBks, cItms, rcha, rch, frzAll, vmove, isNil, vstore, cellsOf?, Ent.wrO, wr, k1', k3, hP]
      exact ⟨k' - 1, by omega, (hJ _ _).2 ⟨_, p + 1, insL (b.src, estB S b.src) out, _, _, (by first | rfl | (simp [cSk, cBkr, cBks]; done) | (simp [cSk, cBkr, cBks]; rfl) | (simp [cSk, cBkr, cBks]; and_intros <;> rfl)), by simp [e2], by simp [e1], by simp [e6], by simp [e23, cBks], by simp [e24], by simp, .inl (by simp [cItms]), by omega, hst', by omega⟩⟩
    · simp only [List.map_nil] at hG hP
      simp -implicitDefEqProofs [e1, e2, e5, e23, e24, e25, d, hcl, hEp, hG, w_p, cSk, cBkr, cBks, rcha, rch, frzAll, Ent.frz, vmove, isNil, vstore, cellsOf?, Ent.wrO, wr, k1', k3, hP]
      exact ⟨k' - 1, by omega, (hJ _ _).2 ⟨_, p + 1, insL (b.src, estB S b.src) [], _, _, (by first | rfl | (simp [cSk, cBkr, cBks]; done) | (simp [cSk, cBkr, cBks]; rfl) | (simp [cSk, cBkr, cBks]; and_intros <;> rfl)), by simp [e2], by simp [e1], by simp [e6], by simp [e23, cBks], by simp [e24], by simp, .inl (by simp [cItms]), by omega, hst', by omega⟩⟩
end Go.Proofs.YtonkhpeahbjmmaaDoorF
end

section
/- Spread: a right sketch stays right. -/
set_option maxRecDepth 8192
set_option maxHeartbeats 1000000
namespace Go.Proofs.YtonkhpeahbjmmaaDoorF
open Go Go.Proofs.Vm

theorem addM_rows_len (m : BM) (t : ByteArray) : (addM m t).rows.length = m.rows.length := by simp [addM, addRows_len]
theorem addRows_rowlen {rows : List (List Bool)} {i k j : Nat} (h : j < rows.length) (h' : j < (addRows rows i k).length) : (addRows rows i k)[j].length = rows[j].length := by
  rw [addRows_at h h']; split <;> simp
theorem addM_head {m : BM} (t : ByteArray) (h : 0 < m.rows.length) : ((addM m t).rows.headD []).length = (m.rows.headD []).length := by
  have h2 : 0 < (addM m t).rows.length := by rw [addM_rows_len]; exact h
  rw [headD_get h, headD_get h2]
  exact addRows_rowlen h h2
theorem addM_ok {m : BM} (t : ByteArray) (h : mOk m = true) : mOk (addM m t) = true := by
  obtain ⟨h1, h2, h3⟩ := mOk_facts h
  refine mOk_of (by rw [addM_rows_len]; exact h1) (by rw [addM_rows_len]; exact h2) fun r hr => ?_
  obtain ⟨j, hj, rfl⟩ := List.getElem_of_mem hr
  have hj2 : j < m.rows.length := by rw [addM_rows_len] at hj; exact hj
  have he : (addM m t).rows[j].length = m.rows[j].length := addRows_rowlen hj2 hj
  rw [addM_head t (by omega), he]
  exact h3 _ (List.getElem_mem hj2)
theorem addM_some {m : BM} (t : ByteArray) (h : mOk m = true) : noneB (addM m t).rows = false := by
  have h1 := mrow_range h t
  have h2 := mbit_range h t
  obtain ⟨q1, q2, q3⟩ := mOk_facts h
  obtain ⟨i, hi⟩ := Int.eq_ofNat_of_zero_le h1.1
  obtain ⟨k, hk⟩ := Int.eq_ofNat_of_zero_le h2.1
  have hil : i < m.rows.length := by omega
  have hr := q3 _ (List.getElem_mem hil)
  have hkl : k < m.rows[i].length := by omega
  have hl2 : i < (addM m t).rows.length := by rw [addM_rows_len]; exact hil
  have he : (addM m t).rows[i] = m.rows[i].set k true := by
    have := addRows_at (k := k) (i := i) hil (by rw [addRows_len]; exact hil)
    rw [if_pos rfl] at this
    rw [← this]
    simp only [addM, hi, hk, Int.toNat_natCast]
  unfold noneB
  simp only [Bool.not_eq_false', List.any_eq_true]
  refine ⟨_, List.getElem_mem hl2, true, ?_, rfl⟩
  rw [he]
  exact List.mem_iff_getElem.2 ⟨k, by simpa using hkl, by simp⟩
/-- A right sketch whose seeds are numbers. -/
def Good (S : Skt) : Prop := SeedS S ∧ sOk S = true
theorem lens_of {S : Skt} (h : sOk S = true) : LensS S := by
  obtain ⟨q1, q2, q3, q4, q5⟩ := sOk_facts h
  refine ⟨by omega, fun r hr => ⟨by have := (q5 r hr).1; omega, fun b hb => ?_⟩⟩
  have hm := mOk_facts (badB_facts ((q5 r hr).2 b hb)).1
  exact ⟨by omega, fun x hx => by have := hm.2.2 x hx; omega⟩
theorem lens7_of {S : Skt} (h : sOk S = true) : LensS7 S := by
  obtain ⟨q1, q2, q3, q4, q5⟩ := sOk_facts h
  exact ⟨by omega, fun r hr => by have := (q5 r hr).1; omega⟩
theorem addBk_lev {pair src : ByteArray} {lv : Int} {b : Bkt} (h0 : 0 ≤ lv) (h1 : lv ≤ 16) (h2 : b.lev ≤ 16) : 0 ≤ (addBk pair src lv b).lev ∧ (addBk pair src lv b).lev ≤ 16 := by
  unfold addBk
  dsimp only
  split <;> omega
theorem plev_range (s : Int) (pair : ByteArray) : 0 ≤ plev s pair ∧ plev s pair ≤ 16 := by
  have := hlev_range (hrow s 20) pair 16
  unfold plev
  omega
theorem addBk_bad {s : Int} {f : BM} {pair src : ByteArray} {lv : Int} {b : Bkt} (h0 : 0 ≤ lv) (h1 : lv ≤ 16) (h : badB s f b = false) : badB s f (addBk pair src lv b) = false := by
  obtain ⟨g1, g2, g3, g4, g5, g6, g7⟩ := badB_facts h
  have hl := addBk_lev (pair := pair) (src := src) h0 h1 g6
  have hr0 : 0 < b.m.rows.length := by have := (mOk_facts g1).1; omega
  refine badB_of (addM_ok pair g1) g2 (by rw [show (addBk pair src lv b).m = addM b.m pair from rfl, addM_rows_len]; exact g3) (by rw [show (addBk pair src lv b).m = addM b.m pair from rfl, addM_head _ hr0]; exact g4) (by omega) hl.2 ?_
  constructor
  · intro h; omega
  · intro h
    unfold emptyS at h
    rw [show (addBk pair src lv b).m = addM b.m pair from rfl, addM_some pair g1, Bool.and_false] at h
    cases h
theorem addRw_mem {s : Int} {src : ByteArray} {f : Bkt → Bkt} {i : Nat} {r : List Bkt} {b : Bkt} (h : b ∈ addRw s src f i r) : b ∈ r ∨ ∃ c ∈ r, b = f c := by
  obtain ⟨p, hp, rfl⟩ := List.getElem_of_mem h
  have hp2 : p < r.length := by rw [addRw_len] at hp; exact hp
  simp only [addRw, List.getElem_modify]
  split
  · exact .inr ⟨_, List.getElem_mem hp2, rfl⟩
  · exact .inl (List.getElem_mem hp2)
theorem addTo_mem {s : Int} {src : ByteArray} {f : Bkt → Bkt} {rows : List (List Bkt)} {r : List Bkt} (h : r ∈ addTo s src f rows.length rows) : ∃ (i : Nat) (hi : i < rows.length), r = addRw s src f i rows[i] := by
  obtain ⟨p, hp, rfl⟩ := List.getElem_of_mem h
  have hp2 : p < rows.length := by rw [addTo_len] at hp; exact hp
  exact ⟨p, hp2, by rw [addTo_at hp2 hp, if_pos hp2]⟩
theorem addS_good {S : Skt} (src tgt : ByteArray) (h : Good S) : Good (addS S src tgt) := by
  obtain ⟨⟨s0, s1, s2⟩, hok⟩ := h
  obtain ⟨q1, q2, q3, q4, q5⟩ := sOk_facts hok
  have hpl := plev_range S.s (src ++ tgt)
  obtain ⟨f, hf⟩ : ∃ f, addBk (src ++ tgt) src (plev S.s (src ++ tgt)) = f := ⟨_, rfl⟩
  have hfb : ∀ g b, badB S.s g b = false → badB S.s g (f b) = false := fun g b hb => by rw [← hf]; exact addBk_bad hpl.1 hpl.2 hb
  have hfs : ∀ b, (f b).m.s = b.m.s := fun b => by rw [← hf]; rfl
  have hfl : ∀ b, (f b).m.rows.length = b.m.rows.length := fun b => by rw [← hf]; exact addM_rows_len _ _
  have hfh : ∀ b, 0 < b.m.rows.length → ((f b).m.rows.headD []).length = (b.m.rows.headD []).length := fun b hb => by rw [← hf]; exact addM_head _ hb
  have hS : addS S src tgt = { S with rows := addTo S.s src f S.rows.length S.rows } := by unfold addS; rw [hf]
  rw [hS]
  obtain ⟨s, rows⟩ := S
  dsimp only at *
  have h0 : 0 < rows.length := by omega
  have hh : rows.headD [] = rows[0] := headD_get h0
  rw [hh] at q3 q4 q5
  have h00 : 0 < rows[0].length := by omega
  have hfm := fstM_get h0 h00
  have h0' : 0 < (addTo s src f rows.length rows).length := by rw [addTo_len]; exact h0
  have hz : (addTo s src f rows.length rows)[0] = addRw s src f 0 rows[0] := by rw [addTo_at h0 h0', if_pos h0]
  have hh' : (addTo s src f rows.length rows).headD [] = addRw s src f 0 rows[0] := by rw [headD_get h0', hz]
  have h00' : 0 < ((addTo s src f rows.length rows)[0]).length := by rw [hz, addRw_len]; exact h00
  have hfm' := fstM_get h0' h00'
  have hb0 := badB_facts ((q5 _ (List.getElem_mem h0)).2 _ (List.getElem_mem h00))
  have hdim : (fstM (addTo s src f rows.length rows)).rows.length = (fstM rows).rows.length ∧ ((fstM (addTo s src f rows.length rows)).rows.headD []).length = ((fstM rows).rows.headD []).length := by
    rw [hfm, hfm']
    have : (addTo s src f rows.length rows)[0][0] = rows[0][0] ∨ (addTo s src f rows.length rows)[0][0] = f rows[0][0] := by
      simp only [hz]
      simp only [addRw, List.getElem_modify]
      split
      · exact .inr rfl
      · exact .inl rfl
    rcases this with e | e
    · rw [e]; exact ⟨rfl, rfl⟩
    · rw [e]; exact ⟨hfl _, hfh _ (by have := (mOk_facts hb0.1).1; omega)⟩
  have hbm : ∀ b, badB s (fstM (addTo s src f rows.length rows)) b = badB s (fstM rows) b := fun b => by unfold badB; rw [hdim.1, hdim.2]
  refine ⟨⟨s0, s1, fun r hr b hb => ?_⟩, ?_⟩
  · obtain ⟨i, hi, rfl⟩ := addTo_mem hr
    rcases addRw_mem hb with hb | ⟨c, hc, rfl⟩
    · exact s2 _ (List.getElem_mem hi) b hb
    · rw [hfs]; exact s2 _ (List.getElem_mem hi) c hc
  · unfold sOk
    dsimp only
    rw [hh', addTo_len, addRw_len]
    simp only [Bool.and_eq_true, decide_eq_true_eq, List.all_eq_true, Bool.not_eq_true']
    refine ⟨⟨⟨⟨q1, q2⟩, q3⟩, q4⟩, fun r hr => ?_⟩
    obtain ⟨i, hi, rfl⟩ := addTo_mem hr
    obtain ⟨g1, g2⟩ := q5 _ (List.getElem_mem hi)
    refine ⟨by rw [addRw_len]; exact g1, fun b hb => ?_⟩
    rw [hbm]
    rcases addRw_mem hb with hb | ⟨c, hc, rfl⟩
    · exact g2 b hb
    · exact hfb _ _ (g2 c hc)
end Go.Proofs.YtonkhpeahbjmmaaDoorF
end

section
/- Spread: what is listed. -/
set_option maxRecDepth 8192
set_option maxHeartbeats 1000000
namespace Go.Proofs.YtonkhpeahbjmmaaDoorF
open Go Go.Proofs.Vm

theorem inS_put {k x : ByteArray} {ks : List ByteArray} : inS x (putS k ks) = true ↔ x = k ∨ inS x ks = true := by
  rw [inS_iff, inS_iff]
  unfold putS
  cases h : inS k ks with
  | true =>
    rw [if_pos rfl]
    have := inS_iff.1 h
    constructor
    · exact .inr
    · rintro (rfl | g)
      · exact this
      · exact g
  | false =>
    rw [if_neg (by decide), List.mem_append, List.mem_singleton]
    exact Or.comm
/-- What the list's state tells, once these buckets are gone through. -/
structure LInv (S : Skt) (most : Int) (bs : List Bkt) (a : List Itm × List ByteArray) : Prop where
  seen : ∀ k, inS k a.2 = true ↔ ∃ b ∈ bs, b.src = k
  mem : ∀ x ∈ a.1, ∃ b ∈ bs, b.src ≠ ByteArray.empty ∧ x = (b.src, estB S b.src) ∧ most ≤ estB S b.src
  nd : (a.1.map (·.1)).Nodup
  all : ∀ b ∈ bs, b.src ≠ ByteArray.empty → most ≤ estB S b.src → (b.src, estB S b.src) ∈ a.1
theorem LInv.nil (S : Skt) (most : Int) : LInv S most [] ([], []) where
  seen k := by simp [inS_iff]
  mem x h := by simp at h
  nd := List.nodup_nil
  all b h := by simp at h
theorem LInv.step {S : Skt} {most : Int} {bs : List Bkt} {a : List Itm × List ByteArray} (h : LInv S most bs a) (b : Bkt) : LInv S most (bs ++ [b]) (lstep S most a b) := by
  have hseen : ∀ k, inS k (putS b.src a.2) = true ↔ ∃ c ∈ bs ++ [b], c.src = k := fun k => by
    rw [inS_put, h.seen]
    constructor
    · rintro (rfl | ⟨c, hc, e⟩)
      · exact ⟨b, by simp, rfl⟩
      · exact ⟨c, by simp [hc], e⟩
    · rintro ⟨c, hc, e⟩
      rcases List.mem_append.1 hc with hc | hc
      · exact .inr ⟨c, hc, e⟩
      · rw [List.mem_singleton.1 hc] at e; exact .inl e.symm
  unfold lstep
  by_cases hc : b.src ≠ ByteArray.empty ∧ inS b.src a.2 = false ∧ most ≤ estB S b.src
  · rw [if_pos hc]
    refine ⟨hseen, fun x hx => ?_, ?_, fun c hc2 h1 h2 => ?_⟩
    · rcases List.mem_append.1 hx with hx | hx
      · obtain ⟨c, g1, g2⟩ := h.mem x hx; exact ⟨c, by simp [g1], g2⟩
      · rw [List.mem_singleton.1 hx]; exact ⟨b, by simp, hc.1, rfl, hc.2.2⟩
    · rw [List.map_append, List.nodup_append]
      refine ⟨h.nd, by simp, ?_⟩
      rintro k hk _ hy rfl
      simp only [List.map_cons, List.map_nil, List.mem_singleton] at hy
      obtain ⟨x, hx, rfl⟩ := List.mem_map.1 hk
      obtain ⟨c, g1, g2, g3, g4⟩ := h.mem x hx
      have : inS b.src a.2 = true := (h.seen _).2 ⟨c, g1, by rw [← hy, g3]⟩
      rw [hc.2.1] at this; cases this
    · rcases List.mem_append.1 hc2 with hc2 | hc2
      · exact List.mem_append_left _ (h.all c hc2 h1 h2)
      · rw [List.mem_singleton.1 hc2]; simp
  · rw [if_neg hc]
    refine ⟨hseen, fun x hx => ?_, h.nd, fun c hc2 h1 h2 => ?_⟩
    · obtain ⟨c, g1, g2⟩ := h.mem x hx; exact ⟨c, by simp [g1], g2⟩
    · rcases List.mem_append.1 hc2 with hc2 | hc2
      · exact h.all c hc2 h1 h2
      · rw [List.mem_singleton.1 hc2] at h1 h2 ⊢
        cases hin : inS b.src a.2 with
        | false => exact absurd ⟨h1, hin, h2⟩ hc
        | true =>
          obtain ⟨d, hd, e⟩ := (h.seen _).1 hin
          have := h.all d hd (by rw [e]; exact h1) (by rw [e]; exact h2)
          rw [e] at this
          exact this
theorem LInv.row {S : Skt} {most : Int} : ∀ {r bs : List Bkt} {a : List Itm × List ByteArray}, LInv S most bs a → LInv S most (bs ++ r) (lrow S most a r)
  | [], bs, a, h => by simpa [lrow] using h
  | b :: r, bs, a, h => by
    have := LInv.row (r := r) (h.step b)
    rw [List.append_assoc] at this
    exact this
theorem LInv.rows {S : Skt} {most : Int} : ∀ {rs : List (List Bkt)} {bs : List Bkt} {a : List Itm × List ByteArray}, LInv S most bs a → LInv S most (bs ++ rs.flatten) (rs.foldl (lrow S most) a)
  | [], bs, a, h => by simpa using h
  | r :: rs, bs, a, h => by
    have := LInv.rows (rs := rs) (h.row (r := r))
    rw [List.append_assoc] at this
    simpa using this
theorem lall_inv (S : Skt) (most : Int) : LInv S most S.rows.flatten (lall S most) := by
  have := LInv.rows (rs := S.rows) (LInv.nil S most)
  rw [List.nil_append] at this
  exact this
end Go.Proofs.YtonkhpeahbjmmaaDoorF
end

section
/- Spread: new sketches, and fed ones. -/
set_option maxRecDepth 8192
set_option maxHeartbeats 1000000
namespace Go.Proofs.YtonkhpeahbjmmaaDoorF
open Go Go.Proofs.Vm

theorem noneB_new (rows bits : Nat) : noneB (List.replicate rows (List.replicate bits false)) = true := by
  unfold noneB
  rw [Bool.not_eq_true', List.any_eq_false]
  intro r hr
  rw [List.eq_of_mem_replicate hr]
  simp
theorem newBM_ok {seed : Int} {rows bits : Nat} (hb : 1 ≤ rows ∧ rows ≤ 16 ∧ 1 ≤ bits ∧ bits ≤ 256) : mOk (newBM seed rows bits) = true := by
  obtain ⟨b1, b2, b3, b4⟩ := hb
  refine mOk_of (by simp [newBM]; omega) (by simp [newBM]; omega) fun r hr => ?_
  have h0 : 0 < (newBM seed rows bits).rows.length := by simp [newBM]; omega
  have he : (newBM seed rows bits).rows[0] = List.replicate bits false := List.eq_of_mem_replicate (List.getElem_mem h0)
  have he2 : r = List.replicate bits false := List.eq_of_mem_replicate hr
  rw [headD_get h0, he, he2, List.length_replicate]
  omega
theorem new_good {seed : Int} {rows cols levels bits : Nat} (h0 : 0 ≤ seed) (h1 : seed < 18446744073709551616) (hb : 1 ≤ levels ∧ levels ≤ 16 ∧ 1 ≤ bits ∧ bits ≤ 256 ∧ 1 ≤ rows ∧ rows ≤ 7 ∧ 1 ≤ cols ∧ cols ≤ 256) : Good (newSk seed rows cols levels bits) := by
  obtain ⟨b1, b2, b3, b4, b5, b6, b7, b8⟩ := hb
  have hrr := hrow_range seed 0
  have hr0 : 0 < (newSk seed rows cols levels bits).rows.length := by simp [newSk]; omega
  have hre : ∀ r ∈ (newSk seed rows cols levels bits).rows, r = List.replicate cols (nBk seed levels bits) := fun r hr => List.eq_of_mem_replicate hr
  have hbe : ∀ r ∈ (newSk seed rows cols levels bits).rows, ∀ b ∈ r, b = nBk seed levels bits := fun r hr b hb => by
    rw [hre r hr] at hb
    exact List.eq_of_mem_replicate hb
  have h00 := hre _ (List.getElem_mem hr0)
  have hl0 : 0 < (newSk seed rows cols levels bits).rows[0].length := by rw [h00]; simp; omega
  have hf : fstM (newSk seed rows cols levels bits).rows = (nBk seed levels bits).m := by
    rw [fstM_get hr0 hl0, hbe _ (List.getElem_mem hr0) _ (List.getElem_mem hl0)]
  have hk := newBM_ok (seed := hrow seed 0) ⟨b1, b2, b3, b4⟩
  refine ⟨⟨h0, h1, fun r hr b hb => ?_⟩, ?_⟩
  · rw [hbe r hr b hb]
    show 0 ≤ hrow seed 0 ∧ hrow seed 0 < 18446744073709551616
    omega
  · unfold sOk
    rw [headD_get hr0]
    simp only [Bool.and_eq_true, decide_eq_true_eq, List.all_eq_true, Bool.not_eq_true']
    refine ⟨⟨⟨⟨by omega, by simp [newSk]; omega⟩, by omega⟩, by rw [h00]; simp; omega⟩, fun r hr => ⟨by rw [hre r hr, h00], fun b hb => ?_⟩⟩
    rw [hf, hbe r hr b hb]
    refine badB_of hk rfl rfl rfl (by show (-1 : Int) ≤ -1; omega) (by show (-1 : Int) ≤ 16; omega) ⟨fun _ => ?_, fun _ => rfl⟩
    unfold emptyS
    rw [sEq_iff.2 (show (nBk seed levels bits).src = ByteArray.empty from rfl), Bool.true_and]
    exact noneB_new _ _
/-- A bucket is as new, or a source of these lies there. -/
def Lies (z : Bkt) (srcs : List ByteArray) (b : Bkt) : Prop := b = z ∨ b.src ≠ ByteArray.empty ∧ b.src ∈ srcs ∧ noneB b.m.rows = false ∧ 0 ≤ b.lev
def LiesS (z : Bkt) (srcs : List ByteArray) (S : Skt) : Prop := ∀ r ∈ S.rows, ∀ b ∈ r, Lies z srcs b
theorem Lies.mono {z : Bkt} {srcs : List ByteArray} {b : Bkt} (x : ByteArray) (h : Lies z srcs b) : Lies z (srcs ++ [x]) b := by
  rcases h with h | ⟨h1, h2, h3⟩
  · exact .inl h
  · exact .inr ⟨h1, List.mem_append_left _ h2, h3⟩
theorem Lies.add {z : Bkt} {srcs : List ByteArray} {b : Bkt} {pair src : ByteArray} {lv : Int} (h0 : 0 ≤ lv) (hz : z.lev = -1) (hk : mOk b.m = true) (hs : src ≠ ByteArray.empty) (h : Lies z srcs b) : Lies z (srcs ++ [src]) (addBk pair src lv b) ∧ addBk pair src lv b ≠ z := by
  have hn := addM_some pair hk
  have key : (addBk pair src lv b).src ≠ ByteArray.empty ∧ (addBk pair src lv b).src ∈ srcs ++ [src] ∧ 0 ≤ (addBk pair src lv b).lev := by
    unfold addBk
    dsimp only
    by_cases hle : b.lev ≤ lv
    · rw [if_pos hle, if_pos hle]; exact ⟨hs, by simp, h0⟩
    · rw [if_neg hle, if_neg hle]
      rcases h with rfl | ⟨g1, g2, g3, g4⟩
      · omega
      · exact ⟨g1, List.mem_append_left _ g2, g4⟩
  exact ⟨.inr ⟨key.1, key.2.1, hn, key.2.2⟩, fun h => by have := key.2.2; rw [h] at this; omega⟩
theorem LiesS.add {z : Bkt} {srcs : List ByteArray} {S : Skt} {src tgt : ByteArray} (hz : z.lev = -1) (hg : Good S) (hs : src ≠ ByteArray.empty) (h : LiesS z srcs S) : LiesS z (srcs ++ [src]) (addS S src tgt) := by
  have hpl := plev_range S.s (src ++ tgt)
  obtain ⟨q1, q2, q3, q4, q5⟩ := sOk_facts hg.2
  intro r hr b hb
  unfold addS at hr
  obtain ⟨i, hi, rfl⟩ := addTo_mem hr
  have hri := List.getElem_mem hi
  rcases addRw_mem hb with hb | ⟨c, hc, rfl⟩
  · exact (h _ hri b hb).mono src
  · exact (Lies.add hpl.1 hz (badB_facts ((q5 _ hri).2 c hc)).1 hs (h _ hri c hc)).1
theorem estR_big {r : List Bool} (h : (r.any fun b => true == b) = true) : 65536 ≤ estR r := by
  have hc : cntT r ≠ 0 := fun hc => by
    have : estR r = 0 := by unfold estR; rw [hc]; rfl
    rw [(estR_zero r).1 this] at h; cases h
  obtain ⟨k, hk⟩ : ∃ k, cntT r = k + 1 := ⟨cntT r - 1, by omega⟩
  have hle := cntT_le r
  unfold estR
  rw [hk, estS]
  have h1 : 65536 ≤ r.length * 65536 / (r.length - (k + 1) + 1) := (Nat.le_div_iff_mul_le (by omega)).2 (by rw [Nat.mul_comm]; exact Nat.mul_le_mul_right _ (by omega))
  have h2 := estR_nn r
  have h3 : 0 ≤ estS r.length (r.length - (k + 1) + 1) k := by
    have : ∀ (k lo : Nat), 0 ≤ estS r.length lo k := fun k => by
      induction k with
      | zero => intro lo; simp [estS]
      | succ k ih =>
        intro lo
        have := ih (lo + 1)
        unfold estS
        obtain ⟨v, hv⟩ : ∃ v, r.length * 65536 / (lo + 1) = v := ⟨_, rfl⟩
        rw [hv]; omega
    exact this _ _
  obtain ⟨v, hv⟩ : ∃ v, r.length * 65536 / (r.length - (k + 1) + 1) = v := ⟨_, rfl⟩
  rw [hv] at h1 ⊢
  omega
theorem estM_big : ∀ {rows : List (List Bool)}, noneB rows = false → 65536 ≤ estM rows
  | [], h => by simp [noneB] at h
  | r :: rows, h => by
    have h1 := estR_nn r
    have h2 := estM_nn (rows := rows)
    have hs : estM (r :: rows) = estR r + estM rows := by unfold estM; rw [List.map_cons, List.sum_cons]
    rw [hs]
    cases hr : (r.any fun b => true == b) with
    | true => have := estR_big hr; omega
    | false =>
      have : noneB rows = false := by unfold noneB at h ⊢; rw [List.any_cons, hr, Bool.false_or] at h; exact h
      have := estM_big this
      omega
end Go.Proofs.YtonkhpeahbjmmaaDoorF
end

section
/- Spread: a source that came has a bucket in each row. -/
set_option maxRecDepth 8192
set_option maxHeartbeats 1000000
namespace Go.Proofs.YtonkhpeahbjmmaaDoorF
open Go Go.Proofs.Vm

/-- The bucket of a source in a row. -/
def bkAt (S : Skt) (src : ByteArray) (i : Nat) : Option Bkt := match S.rows[i]? with
  | some r => r[(splc S.s src i r.length).toNat]?
  | none => none
theorem estA_bk (S : Skt) (src : ByteArray) (i : Nat) : estA S src i = match bkAt S src i with
    | some b => estM b.m.rows
    | none => 0 := by
  unfold estA bkAt
  cases S.rows[i]? <;> rfl
theorem bkAt_some {S : Skt} (h : sOk S = true) (src : ByteArray) {i : Nat} (hi : i < S.rows.length) : ∃ b, bkAt S src i = some b ∧ b ∈ S.rows[i] := by
  obtain ⟨q1, q2, q3, q4, q5⟩ := sOk_facts h
  have hr := (q5 _ (List.getElem_mem hi)).1
  have hpr := splc_range (s := S.s) (src := src) (i := i) (n := S.rows[i].length) (by omega)
  have hq : (splc S.s src i S.rows[i].length).toNat < S.rows[i].length := by omega
  refine ⟨S.rows[i][(splc S.s src i S.rows[i].length).toNat], ?_, List.getElem_mem hq⟩
  unfold bkAt
  rw [List.getElem?_eq_getElem hi]
  exact List.getElem?_eq_getElem hq
/-- What a pair does to the bucket of a source. -/
theorem bkAt_add {S : Skt} (src tgt who : ByteArray) (i : Nat) : bkAt (addS S src tgt) who i = (bkAt S who i).map fun b => if ∀ r, S.rows[i]? = some r → (splc S.s src i r.length).toNat = (splc S.s who i r.length).toNat then addBk (src ++ tgt) src (plev S.s (src ++ tgt)) b else b := by
  unfold bkAt addS
  dsimp only
  cases hr : S.rows[i]? with
  | none =>
    have : (addTo S.s src (addBk (src ++ tgt) src (plev S.s (src ++ tgt))) S.rows.length S.rows)[i]? = none := by
      rw [List.getElem?_eq_none_iff, addTo_len]; exact List.getElem?_eq_none_iff.1 hr
    rw [this]; rfl
  | some r =>
    obtain ⟨hi, he⟩ := List.getElem?_eq_some_iff.1 hr
    have hi' : i < (addTo S.s src (addBk (src ++ tgt) src (plev S.s (src ++ tgt))) S.rows.length S.rows).length := by rw [addTo_len]; exact hi
    rw [List.getElem?_eq_getElem hi', addTo_at hi hi', if_pos hi, he]
    dsimp only
    rw [addRw_len]
    simp only [addRw, List.getElem?_modify]
    cases r[(splc S.s who i r.length).toNat]? with
    | none => simp
    | some b =>
      simp only [Option.map_some, Option.some.injEq, forall_eq']
      split <;> rfl
/-- A source's buckets have bits. -/
def TouchS (src : ByteArray) (S : Skt) : Prop := ∀ i, i < S.rows.length → ∃ b, bkAt S src i = some b ∧ noneB b.m.rows = false
theorem addS_len (S : Skt) (src tgt : ByteArray) : (addS S src tgt).rows.length = S.rows.length := by unfold addS; exact addTo_len _ _ _ _ _
theorem TouchS.self {S : Skt} (hg : Good S) (src tgt : ByteArray) : TouchS src (addS S src tgt) := by
  intro i hi
  rw [addS_len] at hi
  obtain ⟨b, hb, hm⟩ := bkAt_some hg.2 src hi
  obtain ⟨q1, q2, q3, q4, q5⟩ := sOk_facts hg.2
  rw [bkAt_add, hb]
  refine ⟨_, rfl, ?_⟩
  dsimp only
  rw [if_pos fun _ _ => rfl]
  exact addM_some _ (badB_facts ((q5 _ (List.getElem_mem hi)).2 b hm)).1
theorem TouchS.add {S : Skt} (hg : Good S) {who : ByteArray} (src tgt : ByteArray) (h : TouchS who S) : TouchS who (addS S src tgt) := by
  intro i hi
  rw [addS_len] at hi
  obtain ⟨b, hb, hm⟩ := bkAt_some hg.2 who hi
  obtain ⟨q1, q2, q3, q4, q5⟩ := sOk_facts hg.2
  obtain ⟨b', hb', hn⟩ := h i hi
  rw [hb] at hb'
  cases hb'
  rw [bkAt_add, hb]
  refine ⟨_, rfl, ?_⟩
  dsimp only
  split
  · exact addM_some _ (badB_facts ((q5 _ (List.getElem_mem hi)).2 b hm)).1
  · exact hn
theorem est_big {S : Skt} (hg : Good S) {src : ByteArray} (h : TouchS src S) : 65536 ≤ estB S src := by
  obtain ⟨q1, q2, q3, q4, q5⟩ := sOk_facts hg.2
  have hA : ∀ i, i < S.rows.length → 65536 ≤ estA S src i := fun i hi => by
    obtain ⟨b, hb, hn⟩ := h i hi
    rw [estA_bk, hb]
    exact estM_big hn
  have hM : ∀ k, k ≤ S.rows.length → 65536 ≤ minA S src (estA S src 0) k := fun k => by
    induction k with
    | zero => intro _; exact hA 0 (by omega)
    | succ k ih =>
      intro hk
      rw [minA_succ]
      have := ih (by omega)
      have := hA k (by omega)
      omega
  unfold estB
  rw [if_pos hg.2]
  exact hM _ (Nat.le_refl _)
/-- One source alone is listed alone. -/
theorem lst_alone {S : Skt} {z : Bkt} {srcs : List ByteArray} {src : ByteArray} {most : Int} (hg : Good S) (hl : LiesS z srcs S) (hz : z.src = ByteArray.empty ∧ noneB z.m.rows = true) (hs : ∀ x ∈ srcs, x = src) (ht : TouchS src S) (hm : most ≤ 65536) : lstB S most = [(src, estB S src)] := by
  obtain ⟨q1, q2, q3, q4, q5⟩ := sOk_facts hg.2
  have hI := lall_inv S most
  have hsrc : ∀ b ∈ S.rows.flatten, b.src ≠ ByteArray.empty → b.src = src := fun b hb hne => by
    obtain ⟨r, hr, hbr⟩ := List.mem_flatten.1 hb
    rcases hl r hr b hbr with rfl | ⟨_, g2, _⟩
    · exact absurd hz.1 hne
    · exact hs _ g2
  have h0 : 0 < S.rows.length := by omega
  obtain ⟨b, hb, hbm⟩ := bkAt_some hg.2 src h0
  obtain ⟨b', hb', hn⟩ := ht 0 h0
  rw [hb] at hb'
  cases hb'
  have hbf : b ∈ S.rows.flatten := List.mem_flatten.2 ⟨_, List.getElem_mem h0, hbm⟩
  have hbs : b.src ≠ ByteArray.empty := by
    rcases hl _ (List.getElem_mem h0) b hbm with rfl | ⟨g1, _⟩
    · rw [hz.2] at hn; cases hn
    · exact g1
  have he := hsrc b hbf hbs
  have hin := hI.all b hbf hbs (by rw [he]; have := est_big hg ht; omega)
  rw [he] at hin
  have hall : ∀ x ∈ (lall S most).1, x = (src, estB S src) := fun x hx => by
    obtain ⟨c, g1, g2, g3, _⟩ := hI.mem x hx
    rw [g3, hsrc c g1 g2]
  have hone : (lall S most).1 = [(src, estB S src)] := by
    have hnd := hI.nd
    cases hl1 : (lall S most).1 with
    | nil => rw [hl1] at hin; cases hin
    | cons x t =>
      rw [hl1] at hall hnd
      have hx := hall x List.mem_cons_self
      cases t with
      | nil => rw [hx]
      | cons y t =>
        have hy := hall y (by simp)
        rw [hx, hy] at hnd
        simp at hnd
  unfold lstB
  rw [if_pos hg.2, hone]
  simp [isort]
end Go.Proofs.YtonkhpeahbjmmaaDoorF
end

section
/- Spread: the laws' own functions. -/
set_option maxRecDepth 8192
set_option maxHeartbeats 1000000
namespace Go.Proofs.YtonkhpeahbjmmaaDoorF
open Go Go.Proofs.Vm

theorem new_lies (seed : Int) (rows cols levels bits : Nat) (srcs : List ByteArray) : LiesS (nBk seed levels bits) srcs (newSk seed rows cols levels bits) := fun r hr b hb => by
  have h1 : r = List.replicate cols (nBk seed levels bits) := List.eq_of_mem_replicate hr
  rw [h1] at hb
  exact .inl (List.eq_of_mem_replicate hb)
theorem nBk_none (seed : Int) (levels bits : Nat) : (nBk seed levels bits).src = ByteArray.empty ∧ noneB (nBk seed levels bits).m.rows = true := ⟨rfl, noneB_new _ _⟩
theorem law_awake : TV.pu 11 [] = some (cB true) := by
  refine run11 (by simp) ?_
  have hN := sp_New (seed := 1) (rows := 1) (cols := 4) (levels := 1) (bits := 8) (by omega) (by omega) (by omega)
  simp only [Int.cast_ofNat_Int] at hN
  have g0 := new_good (seed := 1) (rows := 1) (cols := 4) (levels := 1) (bits := 8) (by omega) (by omega) (by omega)
  have l0 := new_lies 1 1 4 1 8 []
  obtain ⟨S0, hS0⟩ : ∃ S, newSk 1 1 4 1 8 = S := ⟨_, rfl⟩
  rw [hS0] at hN g0 l0
  have ha : (⟨#[97]⟩ : ByteArray) ≠ ByteArray.empty := by decide
  have hA0 := sp_Add (src := ⟨#[97]⟩) (tgt := ⟨#[120]⟩) g0.1 (lens_of g0.2) g0.2 ha (by decide)
  have g1 := addS_good ⟨#[97]⟩ ⟨#[120]⟩ g0
  have l1 := LiesS.add (tgt := ⟨#[120]⟩) rfl g0 ha l0
  obtain ⟨S1, hS1⟩ : ∃ S, addS S0 ⟨#[97]⟩ ⟨#[120]⟩ = S := ⟨_, rfl⟩
  rw [hS1] at hA0 g1 l1
  have hA1 := sp_Add (src := ⟨#[97]⟩) (tgt := ⟨#[121]⟩) g1.1 (lens_of g1.2) g1.2 ha (by decide)
  have g2 := addS_good ⟨#[97]⟩ ⟨#[121]⟩ g1
  have l2 := LiesS.add (tgt := ⟨#[121]⟩) rfl g1 ha l1
  have t2 := TouchS.self g1 ⟨#[97]⟩ ⟨#[121]⟩
  obtain ⟨S2, hS2⟩ : ∃ S, addS S1 ⟨#[97]⟩ ⟨#[121]⟩ = S := ⟨_, rfl⟩
  rw [hS2] at hA1 g2 l2 t2
  have hbig := est_big g2 t2
  have hE := sp_Estimate (src := ⟨#[97]⟩) g2.1 (lens_of g2.2) (by decide)
  have hL := sp_List (most := 1) g2.1 (lens_of g2.2) fun r hr b hb => by
    rcases l2 r hr b hb with h | ⟨_, h, _⟩
    · rw [h]; decide
    · simp only [List.nil_append, List.mem_append, List.mem_singleton, or_self] at h
      rw [h]; decide
  rw [lst_alone (src := ⟨#[97]⟩) g2 l2 (nBk_none ..) (by intro x hx; simpa using hx) t2 (by omega)] at hL
  obtain ⟨n, hn⟩ : ∃ n, estB S2 ⟨#[97]⟩ = n := ⟨_, rfl⟩
  rw [hn] at hbig hE hL
  simp only [cSk, cBkr, cBks] at hN hA0 hA1 hE hL
  simp only [List.map_cons, List.map_nil, cItm] at hL
  simp -implicitDefEqProofs [Tryd.f11, hN, hA0, hA1, hE, hL, hbig, vmove, isNil, vstore, cellsOf?, Ent.wrO, wr]
end Go.Proofs.YtonkhpeahbjmmaaDoorF
end

section
/- Spread: pairs, few and fed. -/
set_option maxRecDepth 8192
set_option maxHeartbeats 1000000
namespace Go.Proofs.YtonkhpeahbjmmaaDoorF
open Go Go.Proofs.Vm

abbrev Par := ByteArray × ByteArray
def cPar (p : Par) : List CV := [.v (.string p.1), .v (.string p.2)]
def addP (S : Skt) (p : Par) : Skt := if p.1 = ByteArray.empty then S else addS S p.1 p.2
def fedP (S : Skt) (l : List Par) : Skt := l.foldl addP S
theorem addP_good {S : Skt} (p : Par) (h : Good S) : Good (addP S p) := by
  unfold addP
  split
  · exact h
  · exact addS_good _ _ h
theorem fedP_good : ∀ {l : List Par} {S : Skt}, Good S → Good (fedP S l)
  | [], _, h => h
  | p :: l, _S, h => fedP_good (l := l) (addP_good p h)
theorem sp_AddP {S : Skt} (h : Good S) (p : Par) (hz : p.1.size + p.2.size ≤ 140737488351232) : TV.pu 12 [.agg (cSk S), cS p.1, cS p.2] = some (.agg (cSk (addP S p))) := by
  unfold addP
  by_cases hp : p.1 = ByteArray.empty
  · rw [if_pos hp]
    exact sp_Add_no h.1.1 h.1.2.1 (lens_of h.2) (.inr hp)
  · rw [if_neg hp]
    exact sp_Add h.1 (lens_of h.2) h.2 hp hz
theorem fedP_take {S : Skt} {l : List Par} {i : Nat} (h : i < l.length) : fedP S (l.take (i + 1)) = addP (fedP S (l.take i)) l[i] := by
  unfold fedP
  rw [List.take_add_one, List.getElem?_eq_getElem h, Option.toList_some, List.foldl_append]
  rfl
def fewP (l : List Par) : Bool := (l.all fun p => decide (p.1.size ≤ 100) && decide (p.2.size ≤ 100)) && decide (l.length ≤ 60)
theorem law_fed {S : Skt} {l : List Par} (h : Good S) (hl : l.length < 4611686018427387904) (hz : ∀ p ∈ l, p.1.size + p.2.size ≤ 140737488351232) : TV.pu 24 [.agg (cSk S), .one (.arr (l.map cPar))] = some (.agg (cSk (fedP S l))) := by
  refine run24 (by simp) ?_
  simp -implicitDefEqProofs [Tryd.f24, cSk, cBkr, cBks, vmove, isNil]
  obtain ⟨I, hI⟩ : ∃ I : Nat → St → Prop, ∀ k s', I k s' ↔ (∃ e i E1 L, s' = ⟨e, .opn [(cSk (fedP S (l.take i))).map .c] false :: E1 :: L⟩ ∧ e 2 = .one (.ptr ⟨0, 0, 0, 1⟩) ∧ e 4 = .one (.ptr ⟨1, 0, 0, 1⟩) ∧ e 7 = .one (.c (.arr (l.map cPar))) ∧ e 8 = vI .i64 l.length ∧ e 9 = vI .i64 (i : Nat) ∧ (i + k = l.length) ∧ (∃ c, E1 = .opn [c] false ∧ c.length = 2)) := ⟨_, fun _ _ => Iff.rfl⟩
  refine wpL_ind I ?_ l.length _ ((hI _ _).2 ⟨_, 0, _, _, (by first | rfl | (simp [cSk, cBkr, cBks, fedP]; done) | (simp [cSk, cBkr, cBks, fedP]; rfl) | (simp [cSk, cBkr, cBks, fedP]; and_intros <;> rfl)), by simp, by simp, by simp, by simp, by simp, by omega, ⟨_, rfl, rfl⟩⟩)
  intro k stI hstI
  obtain ⟨e, i, E1, L, rfl, e2, e4, e7, e8, e9, hk, hE⟩ := (hI _ _).1 hstI
  obtain ⟨E, rfl, hEl⟩ := hE
  obtain ⟨x, y, rfl⟩ : ∃ x y, E = [x, y] := by
    match E, hEl with
    | [x, y], _ => exact ⟨x, y, rfl⟩
  by_cases c : i < l.length
  · have w_i : IntKind.i64.wrap ((i : Int) + 1) = ((i + 1 : Nat) : Int) := by rw [w64_id (by omega) (by omega)]; omega
    have hA := sp_AddP (fedP_good (l := l.take i) h) l[i] (hz _ (List.getElem_mem c))
    rw [← fedP_take c] at hA
    obtain ⟨p, hp⟩ : ∃ p, l[i] = p := ⟨_, rfl⟩
    have hcl : cPar l[i] = [.v (.string p.1), .v (.string p.2)] := by rw [hp]; rfl
    rw [hp] at hA
    simp only [cSk, cBkr, cBks] at hA
    simp -implicitDefEqProofs [-List.map_take, e2, e7, e8, e9, c, hcl, hA, w_i, cSk, cBkr, cBks, vmove, isNil, vstore, cellsOf?, Ent.wrO, wr]
    exact ⟨k - 1, by omega, (hI _ _).2 ⟨_, i + 1, _, _, (by first | rfl | (simp [cSk, cBkr, cBks]; done) | (simp [cSk, cBkr, cBks]; rfl) | (simp [cSk, cBkr, cBks]; and_intros <;> rfl)), by simp [e2], by simp [e4], by simp [e7], by simp [e8], by simp, by omega, ⟨_, rfl, rfl⟩⟩⟩
  · have hil : l.take i = l := List.take_of_length_le (by omega)
    rw [hil]
    simp -implicitDefEqProofs [e2, e4, e8, e9, c, cSk, cBkr, cBks, vstore, cellsOf?, Ent.wrO, wr]
    try simp [qa]
theorem law_few {l : List Par} (hl : l.length < 4611686018427387904) (hz : ∀ p ∈ l, p.1.size < 4611686018427387904 ∧ p.2.size < 4611686018427387904) : TV.pu 23 [.one (.arr (l.map cPar))] = some (cB (fewP l)) := by
  refine run23 (by simp) ?_
  obtain ⟨res, hres⟩ : ∃ res, fewP l = res := ⟨_, rfl⟩
  rw [hres]
  simp -implicitDefEqProofs [Tryd.f23]
  obtain ⟨I, hI⟩ : ∃ I : Nat → St → Prop, ∀ k s', I k s' ↔ (∃ e i L, s' = ⟨e, L⟩ ∧ e 0 = .one (.c (.arr (l.map cPar))) ∧ e 5 = vI .i64 l.length ∧ e 6 = vI .i64 (i : Nat) ∧ (i + k = l.length) ∧ (∀ j (h : j < l.length), j < i → l[j].1.size ≤ 100 ∧ l[j].2.size ≤ 100)) := ⟨_, fun _ _ => Iff.rfl⟩
  refine wpL_ind I ?_ l.length _ ((hI _ _).2 ⟨_, 0, _, (by first | rfl | (simp; done) | (simp; rfl) | (simp; and_intros <;> rfl)), by simp, by simp, by simp, by omega, by omega⟩)
  intro k stI hstI
  obtain ⟨e, i, L, rfl, e0, e5, e6, hk, hno⟩ := (hI _ _).1 hstI
  by_cases c : i < l.length
  rotate_left
  · have : res = decide (l.length ≤ 60) := by
      rw [← hres, fewP]
      have : (l.all fun p => decide (p.1.size ≤ 100) && decide (p.2.size ≤ 100)) = true := List.all_eq_true.2 fun p hp => by
        obtain ⟨q, hq, rfl⟩ := List.getElem_of_mem hp
        have := hno q hq (by omega)
        simp [this.1, this.2]
      rw [this, Bool.true_and]
    have h2 : decide ((l.length : Int) ≤ 60) = res := by rw [this, Bool.eq_iff_iff, decide_eq_true_iff, decide_eq_true_iff]; omega
    by_cases d : l.length ≤ 60
    · have d' : (l.length : Int) ≤ 60 := by omega
      rw [this]
      simp -implicitDefEqProofs [e0, e5, e6, c, d, d']
    · have d' : ¬ (l.length : Int) ≤ 60 := by omega
      rw [this]
      simp -implicitDefEqProofs [e0, e5, e6, c, d, d']
  have w_i : IntKind.i64.wrap ((i : Int) + 1) = ((i + 1 : Nat) : Int) := by rw [w64_id (by omega) (by omega)]; omega
  have hzi := hz _ (List.getElem_mem c)
  have hbad : ¬ (l[i].1.size ≤ 100 ∧ l[i].2.size ≤ 100) → res = false := fun h => by
    rw [← hres, fewP]
    have : (l.all fun p => decide (p.1.size ≤ 100) && decide (p.2.size ≤ 100)) = false := List.all_eq_false.2 ⟨_, List.getElem_mem c, by simpa using h⟩
    rw [this]; rfl
  obtain ⟨p, hp⟩ : ∃ p, l[i] = p := ⟨_, rfl⟩
  have hcl : cPar l[i] = [.v (.string p.1), .v (.string p.2)] := by rw [hp]; rfl
  rw [hp] at hbad hzi
  by_cases d1 : 100 < p.1.size
  · rw [hbad (by omega)]
    have d1' : 100 < (p.1.size : Int) := by omega
    simp -implicitDefEqProofs [e0, e5, e6, c, hcl, d1']
  have d1' : ¬ 100 < (p.1.size : Int) := by omega
  have d1n : p.1.size ≤ 100 := by omega
  by_cases d2 : 100 < p.2.size
  · rw [hbad (by omega)]
    have d2' : 100 < (p.2.size : Int) := by omega
    simp -implicitDefEqProofs [e0, e5, e6, c, hcl, d1', d2']
  have d2' : ¬ 100 < (p.2.size : Int) := by omega
  have d2n : p.2.size ≤ 100 := by omega
  simp -implicitDefEqProofs [e0, e5, e6, c, hcl, d1', d2', w_i]
  refine ⟨k - 1, by omega, (hI _ _).2 ⟨_, i + 1, _, (by first | rfl | (simp; done) | (simp; rfl) | (simp; and_intros <;> rfl)), by simp [e0], by simp [e5], by simp, by omega, fun q hq hq2 => ?_⟩⟩
  by_cases hqi : q = i
  · subst hqi; rw [hp]; exact ⟨d1n, d2n⟩
  · exact hno q hq (by omega)
end Go.Proofs.YtonkhpeahbjmmaaDoorF
end

section
/- Spread: the same items. -/
set_option maxRecDepth 8192
set_option maxHeartbeats 1000000
namespace Go.Proofs.YtonkhpeahbjmmaaDoorF
open Go Go.Proofs.Vm

theorem itm_neq {H : Hp} {a b : ByteArray} {x y : Int} {p q : Operand} : vbin Tryd.prog H .neq 61 p q (.agg [.c (.v (.string a)), .c (.v (.int .i64 x))]) (.agg [.c (.v (.string b)), .c (.v (.int .i64 y))]) = qa (vB (!(a == b && x == y))) :=
  (bin_st2 (P := Tryd.prog) (t := 61) (pv_of Tryd.underlying61) (by kernel_rfl) (by kernel_rfl) (by kernel_rfl) (by kernel_rfl) (by kernel_rfl) (by kernel_rfl) (by kernel_rfl) (by kernel_rfl) us9 (by kernel_rfl)).2
theorem itm_neqR {H : Hp} {a b : ByteArray} {x y : Int} {p q : Operand} : vbin Tryd.prog H .neq 91 p q (.agg [.c (.v (.string a)), .c (.v (.int .i64 x))]) (.agg [.c (.v (.string b)), .c (.v (.int .i64 y))]) = qa (vB (!(a == b && x == y))) :=
  (bin_st2 (P := Tryd.prog) (t := 91) (pv_of Tryd.underlying91) (by kernel_rfl) (by kernel_rfl) (by kernel_rfl) (by kernel_rfl) (by kernel_rfl) (by kernel_rfl) (by kernel_rfl) (by kernel_rfl) us9 (by kernel_rfl)).2
theorem bs_self (a : ByteArray) : (a == a) = true := (Go.MapKept.bytes_beq a a).2 rfl
theorem law_same {l : List Itm} (hl : l.length < 4611686018427387904) : TV.pu 19 [.one (.arr (l.map cItm)), .one (.arr (l.map cItm))] = some (cB true) := by
  refine run19 (by simp) ?_
  simp -implicitDefEqProofs [Tryd.f19]
  obtain ⟨I, hI⟩ : ∃ I : Nat → St → Prop, ∀ k s', I k s' ↔ (∃ e i L, s' = ⟨e, L⟩ ∧ e 0 = .one (.c (.arr (l.map cItm))) ∧ e 1 = .one (.c (.arr (l.map cItm))) ∧ e 12 = vI .i64 l.length ∧ e 13 = vI .i64 (i : Nat) ∧ (i + k = l.length)) := ⟨_, fun _ _ => Iff.rfl⟩
  refine wpL_ind I ?_ l.length _ ((hI _ _).2 ⟨_, 0, _, (by first | rfl | (simp; done) | (simp; rfl) | (simp; and_intros <;> rfl)), by simp, by simp, by simp, by simp, by omega⟩)
  intro k stI hstI
  obtain ⟨e, i, L, rfl, e0, e1, e12, e13, hk⟩ := (hI _ _).1 hstI
  by_cases c : i < l.length
  · have w_i : IntKind.i64.wrap ((i : Int) + 1) = ((i + 1 : Nat) : Int) := by rw [w64_id (by omega) (by omega)]; omega
    obtain ⟨y, hy⟩ : ∃ y, l[i] = y := ⟨_, rfl⟩
    have hcl : cItm l[i] = [.v (.string y.1), .v (.int .i64 y.2)] := by rw [hy]; rfl
    simp -implicitDefEqProofs [e0, e1, e12, e13, c, hcl, w_i, itm_neqR, bs_self, vmove, isNil]
    exact ⟨k - 1, by omega, (hI _ _).2 ⟨_, i + 1, _, (by first | rfl | (simp; done) | (simp; rfl) | (simp; and_intros <;> rfl)), by simp [e0], by simp [e1], by simp [e12], by simp, by omega⟩⟩
  · simp -implicitDefEqProofs [e12, e13, c]
end Go.Proofs.YtonkhpeahbjmmaaDoorF
end

section
/- Spread: the document's list is the program's. -/
set_option maxRecDepth 8192
set_option maxHeartbeats 1000000
namespace Go.Proofs.YtonkhpeahbjmmaaDoorF
open Go Go.Proofs.Vm

def Srt (m : List Itm) : Prop := m.Pairwise fun a b => ordI a b < 0
theorem insL_perm (x : Itm) : ∀ l, (insL x l).Perm (x :: l)
  | [] => .refl _
  | y :: r => by
    unfold insL
    split
    · exact .refl _
    · exact ((insL_perm x r).cons y).trans (.swap _ _ _)
theorem insL_srt (x : Itm) : ∀ l, Srt l → (∀ y ∈ l, y.1 ≠ x.1) → Srt (insL x l)
  | [], _, _ => by simp [insL, Srt]
  | y :: r, h, hk => by
    have h' := List.pairwise_cons.1 h
    unfold insL
    split
    · rename_i ha
      have ha : ordI x y < 0 := of_decide_eq_true ha
      refine List.pairwise_cons.2 ⟨fun z hz => ?_, h⟩
      rcases List.mem_cons.1 hz with rfl | hz
      · exact ha
      · exact ordI_trans ha (h'.1 z hz)
    · rename_i ha
      have ha : ¬ ordI x y < 0 := fun e => ha (decide_eq_true e)
      have hyx : ordI y x < 0 := by
        have h1 := ordI_neg x y
        have h2 : ordI x y ≠ 0 := fun e => hk y (by simp) (by rw [ordI_eq.1 e])
        omega
      refine List.pairwise_cons.2 ⟨fun z hz => ?_, insL_srt x r h'.2 fun z hz => hk z (by simp [hz])⟩
      rcases List.mem_cons.1 ((insL_perm x r).mem_iff.1 hz) with rfl | hz
      · exact hyx
      · exact h'.1 z hz
theorem eq_of_srt : ∀ {a b : List Itm}, a.Perm b → a.Pairwise (fun x y => ordI x y ≤ 0) → b.Pairwise (fun x y => ordI x y ≤ 0) → a = b
  | [], b, h, _, _ => h.nil_eq
  | x :: a, [], h, _, _ => by have := h.length_eq; simp at this
  | x :: a, y :: b, h, ha, hb => by
    have ha' := List.pairwise_cons.1 ha
    have hb' := List.pairwise_cons.1 hb
    have hxy : x = y := by
      have h1 : x ∈ y :: b := h.mem_iff.1 (by simp)
      have h2 : y ∈ x :: a := h.mem_iff.2 (by simp)
      rcases List.mem_cons.1 h1 with e | h1
      · exact e
      rcases List.mem_cons.1 h2 with e | h2
      · exact e.symm
      have k1 := hb'.1 x h1
      have k2 := ha'.1 y h2
      have k3 := ordI_neg x y
      exact ordI_eq.1 (by omega)
    subst hxy
    rw [eq_of_srt h.cons_inv ha'.2 hb'.2]
theorem isort_perm (l : List Itm) : (isort ordI l).Perm l := List.mergeSort_perm l _
theorem isort_srt (l : List Itm) : (isort ordI l).Pairwise fun x y => ordI x y ≤ 0 := by
  have h := List.pairwise_mergeSort (le := fun x y : Itm => decide (ordI x y ≤ 0)) (fun a b c h1 h2 => decide_eq_true (ordI_le_trans a b c (of_decide_eq_true h1) (of_decide_eq_true h2))) (fun a b => by
    rcases ordI_total a b with h | h
    · simp [h]
    · simp [h]) l
  exact h.imp fun h => of_decide_eq_true h
theorem mget_mem {k : ByteArray} : ∀ {l : List Itm}, (mget k l).isSome = true ↔ ∃ x ∈ l, x.1 = k
  | [] => by simp [mget]
  | y :: r => by
    unfold mget
    by_cases h : k = y.1
    · rw [if_pos h]; simp [h]
    · rw [if_neg h, mget_mem]
      have h' : ¬ y.1 = k := fun e => h e.symm
      simp [h']
theorem size_pos {a : ByteArray} : 0 < a.size ↔ a ≠ ByteArray.empty := by
  have h := @ByteArray.size_eq_zero_iff a
  constructor
  · intro g e
    have := h.2 e
    omega
  · intro g
    rcases Nat.eq_zero_or_pos a.size with e | e
    · exact absurd (h.1 e) g
    · exact e
theorem rl_step {S : Skt} {most : Int} {bs : List Bkt} {a : List Itm × List ByteArray} {l : List Itm} (h : LInv S most bs a) (hp : a.1.Perm l) (hs : Srt l) (b : Bkt) : (lstep S most a b).1.Perm (rstep S most l b) ∧ Srt (rstep S most l b) := by
  unfold lstep rstep
  dsimp only
  by_cases c : b.src ≠ ByteArray.empty ∧ most ≤ estB S b.src
  · have hin : inS b.src a.2 = (mget b.src l).isSome := by
      rw [Bool.eq_iff_iff, mget_mem, h.seen]
      constructor
      · rintro ⟨d, hd, e⟩
        have := h.all d hd (by rw [e]; exact c.1) (by rw [e]; exact c.2)
        exact ⟨_, hp.mem_iff.1 this, e⟩
      · rintro ⟨x, hx, e⟩
        obtain ⟨d, g1, g2, g3, _⟩ := h.mem x (hp.mem_iff.2 hx)
        exact ⟨d, g1, by rw [← e, g3]⟩
    cases hg : (mget b.src l).isSome with
    | true =>
      rw [hg] at hin
      rw [if_neg (by rw [hin]; simp), if_neg (by simp)]
      exact ⟨hp, hs⟩
    | false =>
      rw [hg] at hin
      rw [if_pos ⟨c.1, hin, c.2⟩, if_pos ⟨size_pos.2 c.1, rfl, c.2⟩]
      refine ⟨(List.perm_append_singleton _ _).trans ((hp.cons _).trans (insL_perm _ _).symm), insL_srt _ _ hs fun y hy e => ?_⟩
      have := mget_mem.2 ⟨y, hy, e⟩
      rw [hg] at this
      cases this
  · rw [if_neg (fun g => c ⟨g.1, g.2.2⟩), if_neg (fun g => c ⟨size_pos.1 g.1, g.2.2⟩)]
    exact ⟨hp, hs⟩
theorem rl_row {S : Skt} {most : Int} : ∀ {r bs : List Bkt} {a : List Itm × List ByteArray} {l : List Itm}, LInv S most bs a → a.1.Perm l → Srt l → (lrow S most a r).1.Perm (rrow S most l r) ∧ Srt (rrow S most l r)
  | [], bs, a, l, _, hp, hs => ⟨hp, hs⟩
  | b :: r, bs, a, l, h, hp, hs => by
    have h1 := rl_step h hp hs b
    exact rl_row (r := r) (h.step b) h1.1 h1.2
theorem rl_rows {S : Skt} {most : Int} : ∀ {rs : List (List Bkt)} {bs : List Bkt} {a : List Itm × List ByteArray} {l : List Itm}, LInv S most bs a → a.1.Perm l → Srt l → (rs.foldl (lrow S most) a).1.Perm (rs.foldl (rrow S most) l) ∧ Srt (rs.foldl (rrow S most) l)
  | [], bs, a, l, _, hp, hs => ⟨hp, hs⟩
  | r :: rs, bs, a, l, h, hp, hs => by
    have h1 := rl_row (r := r) h hp hs
    exact rl_rows (rs := rs) (h.row (r := r)) h1.1 h1.2
theorem rto_eq (S : Skt) (most : Int) : isort ordI (lall S most).1 = rto S most S.rows := by
  have h := rl_rows (rs := S.rows) (LInv.nil S most) (.refl _) (by simp [Srt])
  exact eq_of_srt ((isort_perm _).trans h.1) (isort_srt _) (h.2.imp fun h => by omega)
theorem lst_rto {S : Skt} (hok : sOk S = true) (most : Int) : lstB S most = rto S most S.rows := by
  unfold lstB
  rw [if_pos hok, rto_eq]
theorem rstep_len (S : Skt) (most : Int) (l : List Itm) (b : Bkt) : (rstep S most l b).length ≤ l.length + 1 := by
  unfold rstep
  split
  · rw [insL_len]; omega
  · omega
theorem rrow_len (S : Skt) (most : Int) : ∀ (r : List Bkt) (l : List Itm), (rrow S most l r).length ≤ l.length + r.length
  | [], l => by simp [rrow]
  | b :: r, l => by
    have h1 := rrow_len S most r (rstep S most l b)
    have h2 := rstep_len S most l b
    show (rrow S most (rstep S most l b) r).length ≤ _
    rw [List.length_cons]
    omega
theorem rto_len (S : Skt) (most : Int) : ∀ (rs : List (List Bkt)) (l : List Itm), (∀ r ∈ rs, r.length ≤ 256) → (rs.foldl (rrow S most) l).length ≤ l.length + 256 * rs.length
  | [], l, _ => by simp
  | r :: rs, l, h => by
    have h1 := rto_len S most rs (rrow S most l r) fun x hx => h x (List.mem_cons_of_mem _ hx)
    have h2 := rrow_len S most r l
    have h3 := h r List.mem_cons_self
    rw [List.foldl_cons, List.length_cons]
    omega
end Go.Proofs.YtonkhpeahbjmmaaDoorF
end

section
/- The law SpreadTurns. -/
set_option maxRecDepth 8192
set_option maxHeartbeats 2000000
namespace Go.Proofs.YtonkhpeahbjmmaaDoorF
open Go Go.Proofs.Vm

theorem lawSpreadTurns {S : Skt} {src tgt : ByteArray} {most : Int} (hs : SeedS S) (hl : LensS S) (h7 : LensS7 S) (hz : ∀ r ∈ S.rows, ∀ b ∈ r, b.src.size ≤ 140737488351232) (hsz : src.size < 4611686018427387904) (htz : tgt.size < 4611686018427387904) : TV.pu 3 [.agg (cSk S), cS src, cS tgt, cI .i64 most] = some (cB true) := by
  refine run3 (by simp) ?_
  have hA := law_awake
  have hRef := ls_ref h7
  have hSm := sr_Small hl (fun r hr b hb => by have := hz r hr b hb; omega)
  cases hsm : smallS S with
  | false =>
    rw [hsm] at hSm
    simp only [cSk, cBkr, cBks] at hRef hSm
    simp -implicitDefEqProofs [Tryd.f3, hA, hRef, hSm, cSk, cBkr, cBks, vmove, isNil, vstore, cellsOf?, Ent.wrO, wr]
  | true =>
  rw [hsm] at hSm
  by_cases c1 : 100 < src.size
  · have c1' : 100 < (src.size : Int) := by omega
    simp only [cSk, cBkr, cBks] at hRef hSm
    simp -implicitDefEqProofs [Tryd.f3, hA, hRef, hSm, c1', cSk, cBkr, cBks, vmove, isNil, vstore, cellsOf?, Ent.wrO, wr]
  have c1n : src.size ≤ 100 := by omega
  have c1' : ¬ 100 < (src.size : Int) := by omega
  by_cases c2 : 100 < tgt.size
  · have c2' : 100 < (tgt.size : Int) := by omega
    simp only [cSk, cBkr, cBks] at hRef hSm
    simp -implicitDefEqProofs [Tryd.f3, hA, hRef, hSm, c1', c2', cSk, cBkr, cBks, vmove, isNil, vstore, cellsOf?, Ent.wrO, wr]
  have c2n : tgt.size ≤ 100 := by omega
  have c2' : ¬ 100 < (tgt.size : Int) := by omega
  have hR := sp_Right hs.1 hs.2.1 hl
  have hR' := sr_Right hs.1 hs.2.1 hl
  have hE := sp_Estimate (src := src) hs hl (by omega)
  have hL := sp_List (most := most) hs hl hz
  have hEq := sr_Equal hl
  cases hok : sOk S with
  | false =>
    rw [hok] at hR hR'
    have hAdd := sp_Add_no (src := src) (tgt := tgt) hs.1 hs.2.1 hl (.inl hok)
    have he : estB S src = 0 := by unfold estB; rw [hok]; rfl
    have hl0 : lstB S most = [] := by unfold lstB; rw [hok]; rfl
    rw [he] at hE
    rw [hl0] at hL
    simp only [cSk, cBkr, cBks, List.map_nil] at hRef hSm hR hR' hE hL hEq hAdd
    simp -implicitDefEqProofs [Tryd.f3, hA, hRef, hSm, c1', c2', hR, hR', hE, hL, hEq, hAdd, cSk, cBkr, cBks, vmove, isNil, vstore, cellsOf?, Ent.wrO, wr]
  | true =>
  rw [hok] at hR hR'
  have hE' := sr_Estimate (src := src) hs hl hok (by omega)
  have hL' := sr_List (most := most) hs hl hok hsm
  rw [lst_rto hok] at hL
  have hlen : (rto S most S.rows).length < 4611686018427387904 := by
    obtain ⟨z1, z2⟩ := smallS_facts hsm
    have := rto_len S most S.rows [] fun r hr => by have := (z2 r hr).1; omega
    unfold rto
    simp only [List.length_nil] at this
    omega
  have hSame := law_same hlen
  obtain ⟨n, hn⟩ : ∃ n, estB S src = n := ⟨_, rfl⟩
  obtain ⟨l, hll⟩ : ∃ l, rto S most S.rows = l := ⟨_, rfl⟩
  rw [hn] at hE hE'
  rw [hll] at hL hL' hSame
  simp only [cItms] at hL'
  by_cases hp : src = ByteArray.empty
  · have hAdd := sp_Add_no (src := src) (tgt := tgt) hs.1 hs.2.1 hl (.inr hp)
    subst hp
    simp only [cSk, cBkr, cBks] at hRef hSm hR hR' hE hL hEq hAdd hE' hL'
    simp -implicitDefEqProofs [Tryd.f3, hA, hRef, hSm, c2', hR, hR', hE, hL, hEq, hAdd, hE', hL', hSame, sbin_eql, cSk, cBkr, cBks, vmove, isNil, vstore, cellsOf?, Ent.wrO, wr]
  · have htl : ¬ src.toList = [] := fun h => hp (toList_inj.1 (h.trans (show [] = ByteArray.empty.toList by simp)))
    have hAdd := sp_Add (src := src) (tgt := tgt) hs hl hok hp (by omega)
    have hAdd' := sr_Add (src := src) (tgt := tgt) hs hl h7 hok (by omega)
    have hg := addS_good src tgt ⟨hs, hok⟩
    have hRef2 := ls_ref (lens7_of hg.2)
    have hEq2 := sr_Equal (lens_of hg.2)
    obtain ⟨T, hT⟩ : ∃ T, addS S src tgt = T := ⟨_, rfl⟩
    rw [hT] at hAdd hAdd' hRef2 hEq2
    simp only [cSk, cBkr, cBks] at hRef hSm hR hR' hE hL hEq hAdd hE' hL' hAdd' hRef2 hEq2
    simp -implicitDefEqProofs [Tryd.f3, hA, hRef, hSm, c1', c2', hR, hR', hE, hL, hAdd, hE', hL', hSame, hAdd', hRef2, hEq2, htl, sbin_eql, cSk, cBkr, cBks, vmove, isNil, vstore, cellsOf?, Ent.wrO, wr]
end Go.Proofs.YtonkhpeahbjmmaaDoorF
end

section
/- The law SpreadNews. -/
set_option maxRecDepth 8192
set_option maxHeartbeats 2000000
namespace Go.Proofs.YtonkhpeahbjmmaaDoorF
open Go Go.Proofs.Vm

theorem lst_new {S : Skt} {z : Bkt} {most : Int} (hg : Good S) (hl : LiesS z [] S) (hz : z.src = ByteArray.empty) : lstB S most = [] := by
  have hI := lall_inv S most
  have hone : (lall S most).1 = [] := by
    cases h : (lall S most).1 with
    | nil => rfl
    | cons x t =>
      obtain ⟨c, g1, g2, _⟩ := hI.mem x (by rw [h]; exact List.mem_cons_self)
      obtain ⟨r, hr, hbr⟩ := List.mem_flatten.1 g1
      rcases hl r hr c hbr with rfl | ⟨_, g3, _⟩
      · exact absurd hz g2
      · cases g3
  unfold lstB
  rw [if_pos hg.2, hone]
  simp [isort]
theorem lawSpreadNews {seed rows cols levels bits : Int} (s0 : 0 ≤ seed) (s1 : seed < 18446744073709551616) : TV.pu 4 [cI .u64 seed, cI .i64 rows, cI .i64 cols, cI .i64 levels, cI .i64 bits] = some (cB true) := by
  refine run4 (by simp) ?_
  have hA := law_awake
  by_cases hb : 1 ≤ levels ∧ levels ≤ 16 ∧ 1 ≤ bits ∧ bits ≤ 256 ∧ 1 ≤ rows ∧ rows ≤ 7 ∧ 1 ≤ cols ∧ cols ≤ 256
  rotate_left
  · have hN := sp_New_arg s0 s1 hb
    simp only [cSk, cBkr, zSk, List.map_nil] at hN
    by_cases c0 : rows < 1
    · simp -implicitDefEqProofs [Tryd.f4, hN, hA, c0, vmove, isNil, vstore, cellsOf?, Ent.wrO, wr]
    have n0 : 1 ≤ rows := by omega
    by_cases c1 : 7 < rows
    · simp -implicitDefEqProofs [Tryd.f4, hN, hA, c0, c1, vmove, isNil, vstore, cellsOf?, Ent.wrO, wr]
    have n1 : rows ≤ 7 := by omega
    by_cases c2 : cols < 1
    · simp -implicitDefEqProofs [Tryd.f4, hN, hA, c0, c1, c2, vmove, isNil, vstore, cellsOf?, Ent.wrO, wr]
    have n2 : 1 ≤ cols := by omega
    by_cases c3 : 256 < cols
    · simp -implicitDefEqProofs [Tryd.f4, hN, hA, c0, c1, c2, c3, vmove, isNil, vstore, cellsOf?, Ent.wrO, wr]
    have n3 : cols ≤ 256 := by omega
    by_cases c4 : levels < 1
    · simp -implicitDefEqProofs [Tryd.f4, hN, hA, c0, c1, c2, c3, c4, vmove, isNil, vstore, cellsOf?, Ent.wrO, wr]
    have n4 : 1 ≤ levels := by omega
    by_cases c5 : 16 < levels
    · simp -implicitDefEqProofs [Tryd.f4, hN, hA, c0, c1, c2, c3, c4, c5, vmove, isNil, vstore, cellsOf?, Ent.wrO, wr]
    have n5 : levels ≤ 16 := by omega
    by_cases c6 : bits < 1
    · simp -implicitDefEqProofs [Tryd.f4, hN, hA, c0, c1, c2, c3, c4, c5, c6, vmove, isNil, vstore, cellsOf?, Ent.wrO, wr]
    have n6 : 1 ≤ bits := by omega
    have c7 : 256 < bits := by omega
    simp -implicitDefEqProofs [Tryd.f4, hN, hA, c0, c1, c2, c3, c4, c5, c6, c7, vmove, isNil, vstore, cellsOf?, Ent.wrO, wr]
  obtain ⟨rows, rfl⟩ := Int.eq_ofNat_of_zero_le (show 0 ≤ rows by omega)
  obtain ⟨cols, rfl⟩ := Int.eq_ofNat_of_zero_le (show 0 ≤ cols by omega)
  obtain ⟨levels, rfl⟩ := Int.eq_ofNat_of_zero_le (show 0 ≤ levels by omega)
  obtain ⟨bits, rfl⟩ := Int.eq_ofNat_of_zero_le (show 0 ≤ bits by omega)
  have hb' : 1 ≤ levels ∧ levels ≤ 16 ∧ 1 ≤ bits ∧ bits ≤ 256 ∧ 1 ≤ rows ∧ rows ≤ 7 ∧ 1 ≤ cols ∧ cols ≤ 256 := by omega
  have hN := sp_New s0 s1 hb'
  have hg := new_good s0 s1 hb'
  have hR := sp_Right s0 s1 (lens_of hg.2)
  have hl := new_lies seed rows cols levels bits []
  have hL := sp_List (most := 0) hg.1 (lens_of hg.2) fun r hr b hb => by
    rcases hl r hr b hb with h | ⟨_, h, _⟩
    · rw [h]; show ByteArray.empty.size ≤ 140737488351232; decide
    · cases h
  rw [lst_new hg hl rfl] at hL
  rw [hg.2] at hR
  obtain ⟨r, rfl⟩ : ∃ r, rows = r + 1 := ⟨rows - 1, by omega⟩
  obtain ⟨q, rfl⟩ : ∃ q, cols = q + 1 := ⟨cols - 1, by omega⟩
  have hs : (newSk seed (r + 1) (q + 1) levels bits).s = seed := rfl
  have hlen : (newSk seed (r + 1) (q + 1) levels bits).rows.length = r + 1 := by simp [newSk]
  have hri : ∀ i (h : i < (newSk seed (r + 1) (q + 1) levels bits).rows.length), (newSk seed (r + 1) (q + 1) levels bits).rows[i] = List.replicate (q + 1) (nBk seed levels bits) := fun i h => by simp [newSk]
  obtain ⟨S, hS⟩ : ∃ S, newSk seed (r + 1) (q + 1) levels bits = S := ⟨_, rfl⟩
  rw [hS] at hN hR hL hs hlen
  simp only [hS] at hri
  obtain ⟨s, rows⟩ := S
  dsimp only at hs hlen hri
  subst hs
  have hr0 : 0 < rows.length := by omega
  have hrr : r < rows.length := by omega
  have h0 := hri 0 hr0
  have h1 := hri r hrr
  obtain ⟨m, hm⟩ : ∃ m, (nBk s levels bits).m = m := ⟨_, rfl⟩
  have hml : m.rows.length = levels := by rw [← hm]; simp [nBk, newBM]
  have hm0 : 0 < m.rows.length := by omega
  have hlv : 0 < levels := by omega
  have hmb : m.rows[0].length = bits := by
    subst hm
    have : (nBk s levels bits).m.rows[0] = List.replicate bits false := List.eq_of_mem_replicate (List.getElem_mem hm0)
    rw [this, List.length_replicate]
  have hbk : nBk s levels bits = ⟨m, ByteArray.empty, -1⟩ := by rw [← hm]; rfl
  rw [hbk] at h0 h1
  have w1 : IntKind.i64.wrap (r : Int) = r := w64_id (by omega) (by omega)
  have w2 : IntKind.i64.wrap (q : Int) = q := w64_id (by omega) (by omega)
  have g1 : ¬ ((r : Int) + 1 < 1) := by omega
  have g2 : ¬ (7 < (r : Int) + 1) := by omega
  have g3 : ¬ ((q : Int) + 1 < 1) := by omega
  have g4 : ¬ (256 < (q : Int) + 1) := by omega
  have g5 : ¬ ((levels : Int) < 1) := by omega
  have g6 : ¬ (16 < (levels : Int)) := by omega
  have g7 : ¬ ((bits : Int) < 1) := by omega
  have g8 : ¬ (256 < (bits : Int)) := by omega
  simp only [cSk, cBkr, cBks, Int.natCast_add, Int.cast_ofNat_Int] at hN hR hL
  simp only [List.map_nil] at hL
  simp -implicitDefEqProofs [Tryd.f4, hN, hA, hR, hL, w1, w2, g1, g2, g3, g4, g5, g6, g7, g8, hlen, h0, h1, hml, hmb, hlv, cBk, cBrs, cBr, vmove, isNil, vstore, cellsOf?, Ent.wrO, wr]
end Go.Proofs.YtonkhpeahbjmmaaDoorF
end

section
/- Spread: the order of pairs. -/
set_option maxRecDepth 8192
set_option maxHeartbeats 1000000
namespace Go.Proofs.YtonkhpeahbjmmaaDoorF
open Go Go.Proofs.Vm

theorem modify_comm {α : Type} (l : List α) (i j : Nat) {f g : α → α} (h : ∀ x, f (g x) = g (f x)) : (l.modify i f).modify j g = (l.modify j g).modify i f := by
  apply List.ext_getElem?
  intro n
  rw [List.getElem?_modify, List.getElem?_modify, List.getElem?_modify, List.getElem?_modify]
  cases l[n]? with
  | none => rfl
  | some x =>
    by_cases h1 : i = n <;> by_cases h2 : j = n <;> simp [h1, h2, h]
theorem set_comm (r : List Bool) (i j : Nat) : (r.set i true).set j true = (r.set j true).set i true := by
  apply List.ext_getElem?
  intro n
  simp only [List.getElem?_set, List.length_set]
  by_cases h1 : i = n <;> by_cases h2 : j = n <;> simp [h1, h2]
theorem addRows_comm (rows : List (List Bool)) (i k j q : Nat) : addRows (addRows rows i k) j q = addRows (addRows rows j q) i k := modify_comm _ _ _ fun x => set_comm x _ _
theorem addM_head' (m : BM) (t : ByteArray) : ((addM m t).rows.headD []).length = (m.rows.headD []).length := by
  by_cases h : 0 < m.rows.length
  · exact addM_head t h
  · have h1 : m.rows = [] := List.eq_nil_of_length_eq_zero (by omega)
    have h2 : (addM m t).rows = [] := List.eq_nil_of_length_eq_zero (by rw [addM_rows_len]; omega)
    rw [h1, h2]
theorem addM_comm (m : BM) (t u : ByteArray) : addM (addM m t) u = addM (addM m u) t := by
  have hr : ∀ x y, mrow (addM m x) y = mrow m y := fun x y => by unfold mrow; rw [addM_rows_len]; rfl
  have hb : ∀ x y, mbit (addM m x) y = mbit m y := fun x y => by unfold mbit; rw [addM_head']; rfl
  show (⟨m.s, addRows (addRows m.rows (mrow m t).toNat (mbit m t).toNat) (mrow (addM m t) u).toNat (mbit (addM m t) u).toNat⟩ : BM) = ⟨m.s, addRows (addRows m.rows (mrow m u).toNat (mbit m u).toNat) (mrow (addM m u) t).toNat (mbit (addM m u) t).toNat⟩
  rw [hr, hr, hb, hb, addRows_comm]
/-- The bitmaps alone. -/
def mp (S : Skt) : List (List BM) := S.rows.map fun r => r.map (·.m)
def addMp (s : Int) (src pair : ByteArray) (ms : List (List BM)) : List (List BM) := ms.mapIdx fun i r => r.modify (splc s src i r.length).toNat (addM · pair)
theorem mp_add (S : Skt) (src tgt : ByteArray) : mp (addS S src tgt) = addMp S.s src (src ++ tgt) (mp S) := by
  unfold mp addMp addS
  dsimp only
  apply List.ext_getElem
  · simp [addTo_len]
  · intro i h1 h2
    have hi : i < S.rows.length := by simpa [addTo_len] using h1
    have hi' : i < (addTo S.s src (addBk (src ++ tgt) src (plev S.s (src ++ tgt))) S.rows.length S.rows).length := by rw [addTo_len]; exact hi
    rw [List.getElem_map, addTo_at hi hi', if_pos hi, List.getElem_mapIdx, List.getElem_map]
    apply List.ext_getElem?
    intro n
    simp only [addRw, List.length_map, List.getElem?_map, List.getElem?_modify]
    cases S.rows[i][n]? with
    | none => rfl
    | some b => by_cases h : (splc S.s src i S.rows[i].length).toNat = n <;> simp [h, addBk]
theorem addMp_comm (s : Int) (a x b y : ByteArray) (ms : List (List BM)) : addMp s a x (addMp s b y ms) = addMp s b y (addMp s a x ms) := by
  unfold addMp
  apply List.ext_getElem?
  intro i
  simp only [List.getElem?_mapIdx]
  cases ms[i]? with
  | none => rfl
  | some r =>
    simp only [Option.map_some, List.length_modify, Option.some.injEq]
    exact modify_comm _ _ _ fun m => addM_comm m _ _
def addMpP (s : Int) (ms : List (List BM)) (p : Par) : List (List BM) := if p.1 = ByteArray.empty then ms else addMp s p.1 (p.1 ++ p.2) ms
theorem addP_s (S : Skt) (p : Par) : (addP S p).s = S.s := by unfold addP; split <;> rfl
theorem mp_addP (S : Skt) (p : Par) : mp (addP S p) = addMpP S.s (mp S) p := by
  unfold addP addMpP
  split
  · rfl
  · exact mp_add _ _ _
theorem fedP_s : ∀ (l : List Par) (S : Skt), (fedP S l).s = S.s
  | [], _ => rfl
  | p :: l, S => (fedP_s l (addP S p)).trans (addP_s S p)
theorem mp_fed : ∀ (l : List Par) (S : Skt), mp (fedP S l) = l.foldl (addMpP S.s) (mp S)
  | [], _ => rfl
  | p :: l, S => by
    have := mp_fed l (addP S p)
    rw [addP_s, mp_addP] at this
    exact this
theorem addMpP_comm (s : Int) (ms : List (List BM)) (p q : Par) : addMpP s (addMpP s ms p) q = addMpP s (addMpP s ms q) p := by
  unfold addMpP
  split <;> split
  · rfl
  · rfl
  · rfl
  · exact addMp_comm ..
theorem mp_perm {l m : List Par} (h : l.Perm m) (S : Skt) : mp (fedP S l) = mp (fedP S m) := by
  rw [mp_fed, mp_fed]
  exact h.foldl_eq' (fun x _ y _ z => addMpP_comm _ _ _ _) _
theorem estA_mp (S : Skt) (src : ByteArray) (i : Nat) : estA S src i = match (mp S)[i]? with
    | some r => match r[(splc S.s src i r.length).toNat]? with
      | some m => estM m.rows
      | none => 0
    | none => 0 := by
  unfold estA mp
  rw [List.getElem?_map]
  cases S.rows[i]? with
  | none => rfl
  | some r =>
    simp only [Option.map_some, List.length_map, List.getElem?_map]
    cases r[(splc S.s src i r.length).toNat]? <;> rfl
theorem est_mp {S T : Skt} (hs : S.s = T.s) (hm : mp S = mp T) (h1 : sOk S = true) (h2 : sOk T = true) (src : ByteArray) : estB S src = estB T src := by
  have hl : S.rows.length = T.rows.length := by
    have := congrArg List.length hm
    simpa [mp] using this
  have hA : estA S src = estA T src := funext fun i => by rw [estA_mp, estA_mp, hm, hs]
  unfold estB minA
  rw [h1, h2, hl, hA]
theorem est_perm {S : Skt} (hg : Good S) {l m : List Par} (h : l.Perm m) (src : ByteArray) : estB (fedP S l) src = estB (fedP S m) src :=
  est_mp (by rw [fedP_s, fedP_s]) (mp_perm h S) (fedP_good hg).2 (fedP_good hg).2 src
end Go.Proofs.YtonkhpeahbjmmaaDoorF
end

section
/- Spread: more pairs, more bits. -/
set_option maxRecDepth 8192
set_option maxHeartbeats 1000000
namespace Go.Proofs.YtonkhpeahbjmmaaDoorF
open Go Go.Proofs.Vm

/-- Of one length, and each in this order. -/
def Le2 {α : Type} (R : α → α → Prop) (a b : List α) : Prop := a.length = b.length ∧ ∀ (i : Nat) x y, a[i]? = some x → b[i]? = some y → R x y
theorem Le2.rfl' {α : Type} {R : α → α → Prop} (h : ∀ x, R x x) (l : List α) : Le2 R l l := ⟨rfl, fun i x y h1 h2 => by rw [h1] at h2; cases h2; exact h x⟩
theorem Le2.modify {α : Type} {R : α → α → Prop} {a b : List α} (h : Le2 R a b) (i : Nat) {f g : α → α} (hf : ∀ x y, R x y → R (f x) (g y)) : Le2 R (a.modify i f) (b.modify i g) := by
  refine ⟨by simp [h.1], fun j x y h1 h2 => ?_⟩
  rw [List.getElem?_modify] at h1 h2
  cases ha : a[j]? with
  | none => rw [ha] at h1; cases h1
  | some u =>
    cases hb : b[j]? with
    | none => rw [hb] at h2; cases h2
    | some v =>
      have hR := h.2 j u v ha hb
      rw [ha] at h1
      rw [hb] at h2
      simp only [Option.map_eq_map, Option.map_some, Option.some.injEq] at h1 h2
      subst h1
      subst h2
      by_cases c : i = j
      · rw [if_pos c, if_pos c]; exact hf _ _ hR
      · rw [if_neg c, if_neg c]; exact hR
theorem Le2.modifyR {α : Type} {R : α → α → Prop} {a b : List α} (h : Le2 R a b) (i : Nat) {g : α → α} (hf : ∀ x y, R x y → R x (g y)) : Le2 R a (b.modify i g) := by
  refine ⟨by simp [h.1], fun j x y h1 h2 => ?_⟩
  rw [List.getElem?_modify] at h2
  cases hb : b[j]? with
  | none => rw [hb] at h2; cases h2
  | some v =>
    have hR := h.2 j x v h1 hb
    rw [hb] at h2
    simp only [Option.map_eq_map, Option.map_some, Option.some.injEq] at h2
    subst h2
    by_cases c : i = j
    · rw [if_pos c]; exact hf _ _ hR
    · rw [if_neg c]; exact hR
theorem Le2.mapIdx {α : Type} {R : α → α → Prop} {a b : List α} (h : Le2 R a b) {f g : Nat → α → α} (hf : ∀ i x y, R x y → R (f i x) (g i y)) : Le2 R (a.mapIdx f) (b.mapIdx g) := by
  refine ⟨by simp [h.1], fun j x y h1 h2 => ?_⟩
  rw [List.getElem?_mapIdx] at h1 h2
  cases ha : a[j]? with
  | none => rw [ha] at h1; cases h1
  | some u =>
    cases hb : b[j]? with
    | none => rw [hb] at h2; cases h2
    | some v =>
      have hR := h.2 j u v ha hb
      rw [ha] at h1
      rw [hb] at h2
      simp only [Option.map_some, Option.some.injEq] at h1 h2
      subst h1
      subst h2
      exact hf _ _ _ hR
theorem Le2.mapIdxR {α : Type} {R : α → α → Prop} {a b : List α} (h : Le2 R a b) {g : Nat → α → α} (hf : ∀ i x y, R x y → R x (g i y)) : Le2 R a (b.mapIdx g) := by
  refine ⟨by simp [h.1], fun j x y h1 h2 => ?_⟩
  rw [List.getElem?_mapIdx] at h2
  cases hb : b[j]? with
  | none => rw [hb] at h2; cases h2
  | some v =>
    have hR := h.2 j x v h1 hb
    rw [hb] at h2
    simp only [Option.map_some, Option.some.injEq] at h2
    subst h2
    exact hf _ _ _ hR
theorem Le2.cons {α : Type} {R : α → α → Prop} {a b : List α} {x y : α} (h : Le2 R (x :: a) (y :: b)) : R x y ∧ Le2 R a b :=
  ⟨h.2 0 x y rfl rfl, by simpa using h.1, fun i u v h1 h2 => h.2 (i + 1) u v (by simpa using h1) (by simpa using h2)⟩
def Rb (x y : Bool) : Prop := x = true → y = true
theorem cntT_mono : ∀ {r q : List Bool}, Le2 Rb r q → cntT r ≤ cntT q
  | [], q, h => by simp [cntT]
  | x :: r, [], h => by have := h.1; simp at this
  | x :: r, y :: q, h => by
    have h1 := h.cons
    have h2 := cntT_mono h1.2
    have h3 : (if x then 1 else 0) ≤ (if y then 1 else 0) := by
      cases x with
      | false => simp
      | true => rw [h1.1 rfl]; simp
    unfold cntT at h2 ⊢
    rw [List.countP_cons, List.countP_cons]
    simp only [id_eq]
    omega
theorem estS_more (b c : Nat) : ∀ d, c + d ≤ b → estS b (b - c) c ≤ estS b (b - (c + d)) (c + d)
  | 0, _ => Int.le_refl _
  | d + 1, h => by
    have ih := estS_more b c d (by omega)
    have e1 : c + (d + 1) = (c + d) + 1 := by omega
    have e2 : b - (c + d + 1) + 1 = b - (c + d) := by omega
    rw [e1, estS, e2]
    obtain ⟨v, hv⟩ : ∃ v, b * 65536 / (b - (c + d)) = v := ⟨_, rfl⟩
    rw [hv]
    omega
theorem estR_mono {r q : List Bool} (h : Le2 Rb r q) : estR r ≤ estR q := by
  have h1 := cntT_mono h
  have h2 := cntT_le q
  unfold estR
  rw [h.1]
  have := estS_more q.length (cntT r) (cntT q - cntT r) (by omega)
  have e : cntT r + (cntT q - cntT r) = cntT q := by omega
  rw [e] at this
  exact this
theorem estM_mono : ∀ {a b : List (List Bool)}, Le2 (Le2 Rb) a b → estM a ≤ estM b
  | [], [], _ => Int.le_refl _
  | [], y :: b, h => by have := h.1; simp at this
  | x :: a, [], h => by have := h.1; simp at this
  | x :: a, y :: b, h => by
    have h1 := h.cons
    have h2 := estR_mono h1.1
    have h3 := estM_mono h1.2
    have e : ∀ (r : List Bool) rows, estM (r :: rows) = estR r + estM rows := fun r rows => by unfold estM; rw [List.map_cons, List.sum_cons]
    rw [e, e]
    omega
/-- Bitmaps of one seed, the bits of the one among those of the other. -/
def RM (m n : BM) : Prop := m.s = n.s ∧ Le2 (Le2 Rb) m.rows n.rows
theorem RM.head {m n : BM} (h : RM m n) : (m.rows.headD []).length = (n.rows.headD []).length := by
  obtain ⟨s, a⟩ := m
  obtain ⟨s', b⟩ := n
  have h2 := h.2
  dsimp only at h2 ⊢
  match a, b, h2 with
  | [], [], _ => rfl
  | [], y :: b, h => have := h.1; simp at this
  | x :: a, [], h => have := h.1; simp at this
  | x :: a, y :: b, h => exact h.cons.1.1
theorem set_modify {α : Type} (l : List α) (k : Nat) (x : α) : l.set k x = l.modify k fun _ => x := by
  apply List.ext_getElem?
  intro n
  rw [List.getElem?_set, List.getElem?_modify]
  by_cases h : k = n
  · subst h
    by_cases c : k < l.length
    · simp [c]
    · simp [c]
  · simp only [h, if_false]
    cases l[n]? <;> rfl
theorem Le2.setB {r q : List Bool} (h : Le2 Rb r q) (k : Nat) : Le2 Rb (r.set k true) (q.set k true) := by
  rw [set_modify, set_modify]
  exact h.modify k fun _ _ _ _ => rfl
theorem Le2.setBR {r q : List Bool} (h : Le2 Rb r q) (k : Nat) : Le2 Rb r (q.set k true) := by
  rw [set_modify]
  exact h.modifyR k fun _ _ _ _ => rfl
theorem RM.add {m n : BM} (h : RM m n) (t : ByteArray) : RM (addM m t) (addM n t) := by
  have e1 : mrow m t = mrow n t := by unfold mrow; rw [h.1, h.2.1]
  have e2 : mbit m t = mbit n t := by unfold mbit; rw [h.1, h.head]
  refine ⟨h.1, ?_⟩
  show Le2 (Le2 Rb) (addRows m.rows _ _) (addRows n.rows _ _)
  rw [e1, e2]
  exact h.2.modify _ fun x y hx => hx.setB _
theorem RM.addR {m n : BM} (h : RM m n) (t : ByteArray) : RM m (addM n t) := ⟨h.1, h.2.modifyR _ fun _ _ hx => hx.setBR _⟩
theorem RM.rfl' (m : BM) : RM m m := ⟨rfl, Le2.rfl' (Le2.rfl' fun _ h => h) _⟩
def LeMp (a b : List (List BM)) : Prop := Le2 (Le2 RM) a b
theorem LeMp.rfl' (a : List (List BM)) : LeMp a a := Le2.rfl' (Le2.rfl' RM.rfl') a
theorem LeMp.add {a b : List (List BM)} (h : LeMp a b) (s : Int) (p : Par) : LeMp (addMpP s a p) (addMpP s b p) := by
  unfold addMpP
  split
  · exact h
  · refine Le2.mapIdx h fun i x y hx => ?_
    rw [hx.1]
    exact hx.modify _ fun _ _ hm => hm.add _
theorem LeMp.addR {a b : List (List BM)} (h : LeMp a b) (s : Int) (p : Par) : LeMp a (addMpP s b p) := by
  unfold addMpP
  split
  · exact h
  · exact Le2.mapIdxR h fun i x y hx => hx.modifyR _ fun _ _ hm => hm.addR _
theorem LeMp.filter (s : Int) (f : Par → Bool) : ∀ (l : List Par) {a b : List (List BM)}, LeMp a b → LeMp ((l.filter f).foldl (addMpP s) a) (l.foldl (addMpP s) b)
  | [], _, _, h => h
  | p :: l, a, b, h => by
    rw [List.filter_cons]
    cases f p with
    | true => rw [if_pos rfl]; exact LeMp.filter s f l (h.add s p)
    | false => rw [if_neg (by decide)]; exact LeMp.filter s f l (h.addR s p)
theorem estA_le {S T : Skt} (hs : S.s = T.s) (h : LeMp (mp S) (mp T)) (src : ByteArray) (i : Nat) : estA S src i ≤ estA T src i := by
  rw [estA_mp, estA_mp, hs]
  cases ha : (mp S)[i]? with
  | none =>
    have : (mp T)[i]? = none := by rw [List.getElem?_eq_none_iff] at ha ⊢; rw [← h.1]; exact ha
    rw [this]
    exact Int.le_refl _
  | some r =>
    cases hb : (mp T)[i]? with
    | none =>
      have : (mp S)[i]? = none := by rw [List.getElem?_eq_none_iff] at hb ⊢; rw [h.1]; exact hb
      rw [this] at ha; cases ha
    | some q =>
      have hR := h.2 i r q ha hb
      dsimp only
      rw [hR.1]
      obtain ⟨j, hj⟩ : ∃ j, (splc T.s src i q.length).toNat = j := ⟨_, rfl⟩
      rw [hj]
      cases hx : r[j]? with
      | none =>
        have : q[j]? = none := by rw [List.getElem?_eq_none_iff] at hx ⊢; rw [← hR.1]; exact hx
        rw [this]
        exact Int.le_refl _
      | some m =>
        cases hy : q[j]? with
        | none =>
          have : r[j]? = none := by rw [List.getElem?_eq_none_iff] at hy ⊢; rw [hR.1]; exact hy
          rw [this] at hx; cases hx
        | some n => exact estM_mono (hR.2 j m n hx hy).2
theorem est_le {S T : Skt} (hs : S.s = T.s) (h : LeMp (mp S) (mp T)) (h1 : sOk S = true) (h2 : sOk T = true) (src : ByteArray) : estB S src ≤ estB T src := by
  have hl : S.rows.length = T.rows.length := by
    have := h.1
    simpa [mp] using this
  have hM : ∀ k, minA S src (estA S src 0) k ≤ minA T src (estA T src 0) k := fun k => by
    induction k with
    | zero => exact estA_le hs h src 0
    | succ k ih =>
      rw [minA_succ, minA_succ]
      have := estA_le hs h src k
      omega
  unfold estB
  rw [if_pos h1, if_pos h2, hl]
  exact hM _
/-- With a pair more an estimate never falls. -/
theorem est_addP {S : Skt} (hg : Good S) (p : Par) (src : ByteArray) : estB S src ≤ estB (addP S p) src :=
  est_le (addP_s S p).symm (by rw [mp_addP]; exact (LeMp.rfl' _).addR _ _) hg.2 (addP_good p hg).2 src
/-- The estimate is at least that of some of the pairs alone. -/
theorem est_own {S : Skt} (hg : Good S) (f : Par → Bool) (l : List Par) (src : ByteArray) : estB (fedP S (l.filter f)) src ≤ estB (fedP S l) src :=
  est_le (by rw [fedP_s, fedP_s]) (by rw [mp_fed, mp_fed]; exact LeMp.filter _ f l (LeMp.rfl' _)) (fedP_good hg).2 (fedP_good hg).2 src
theorem modify_idem {α : Type} (l : List α) (i : Nat) {f : α → α} (h : ∀ x, f (f x) = f x) : (l.modify i f).modify i f = l.modify i f := by
  apply List.ext_getElem?
  intro n
  rw [List.getElem?_modify, List.getElem?_modify]
  cases l[n]? with
  | none => rfl
  | some x => by_cases h1 : i = n <;> simp [h1, h]
theorem addM_idem (m : BM) (t : ByteArray) : addM (addM m t) t = addM m t := by
  have hr : mrow (addM m t) t = mrow m t := by unfold mrow; rw [addM_rows_len]; rfl
  have hb : mbit (addM m t) t = mbit m t := by unfold mbit; rw [addM_head']; rfl
  show (⟨m.s, addRows (addRows m.rows (mrow m t).toNat (mbit m t).toNat) (mrow (addM m t) t).toNat (mbit (addM m t) t).toNat⟩ : BM) = ⟨m.s, addRows m.rows (mrow m t).toNat (mbit m t).toNat⟩
  rw [hr, hb]
  unfold addRows
  rw [modify_idem]
  intro x
  simp
theorem addMpP_idem (s : Int) (ms : List (List BM)) (p : Par) : addMpP s (addMpP s ms p) p = addMpP s ms p := by
  unfold addMpP
  by_cases hp : p.1 = ByteArray.empty
  · rw [if_pos hp, if_pos hp]
  · rw [if_neg hp, if_neg hp]
    unfold addMp
    apply List.ext_getElem?
    intro i
    simp only [List.getElem?_mapIdx]
    cases ms[i]? with
    | none => rfl
    | some r =>
      simp only [Option.map_some, List.length_modify, Option.some.injEq]
      exact modify_idem _ _ fun m => addM_idem m _
/-- A pair that came turns no estimate. -/
theorem est_again {S : Skt} (hg : Good S) {l : List Par} {p : Par} (hp : p ∈ l) (src : ByteArray) : estB (addP (fedP S l) p) src = estB (fedP S l) src := by
  have hga := fedP_good (l := l) hg
  refine est_mp (addP_s _ p) ?_ (addP_good p hga).2 hga.2 src
  rw [mp_addP, fedP_s, mp_fed]
  obtain ⟨s, t, rfl⟩ := List.append_of_mem hp
  have hc : ∀ {l m : List Par}, l.Perm m → ∀ z, l.foldl (addMpP S.s) z = m.foldl (addMpP S.s) z := fun h z => h.foldl_eq' (fun x _ y _ z => addMpP_comm _ _ _ _) z
  have h1 : (s ++ p :: t).Perm ((s ++ t) ++ [p]) := List.perm_middle.trans (List.perm_append_singleton p (s ++ t)).symm
  rw [hc h1, List.foldl_append, List.foldl_cons, List.foldl_nil, addMpP_idem]
theorem est_new {seed : Int} {rows cols levels bits : Nat} (hg : Good (newSk seed rows cols levels bits)) (src : ByteArray) : estB (newSk seed rows cols levels bits) src = 0 := by
  have hA : ∀ i, i < (newSk seed rows cols levels bits).rows.length → estA (newSk seed rows cols levels bits) src i = 0 := fun i hi => by
    obtain ⟨b, hb, hm⟩ := bkAt_some hg.2 src hi
    rw [estA_bk, hb]
    rcases new_lies seed rows cols levels bits [] _ (List.getElem_mem hi) b hm with rfl | ⟨_, h, _⟩
    · exact (estM_zero _).2 (nBk_none ..).2
    · cases h
  obtain ⟨q1, _⟩ := sOk_facts hg.2
  have hM : ∀ k, k ≤ (newSk seed rows cols levels bits).rows.length → minA (newSk seed rows cols levels bits) src (estA (newSk seed rows cols levels bits) src 0) k = 0 := fun k => by
    induction k with
    | zero => intro _; exact hA 0 (by omega)
    | succ k ih =>
      intro hk
      rw [minA_succ, ih (by omega), hA k (by omega)]
      rfl
  unfold estB
  rw [if_pos hg.2]
  exact hM _ (Nat.le_refl _)
end Go.Proofs.YtonkhpeahbjmmaaDoorF
end

section
/- Spread: where the sources of fed sketches lie. -/
set_option maxRecDepth 8192
set_option maxHeartbeats 1000000
namespace Go.Proofs.YtonkhpeahbjmmaaDoorF
open Go Go.Proofs.Vm

theorem LiesS.mono {z : Bkt} {srcs : List ByteArray} {S : Skt} (x : ByteArray) (h : LiesS z srcs S) : LiesS z (srcs ++ [x]) S := fun r hr b hb => (h r hr b hb).mono x
theorem LiesS.addP {z : Bkt} {srcs : List ByteArray} {S : Skt} (hz : z.lev = -1) (hg : Good S) (h : LiesS z srcs S) (p : Par) : LiesS z (srcs ++ [p.1]) (addP S p) := by
  unfold Go.Proofs.YtonkhpeahbjmmaaDoorF.addP
  by_cases hp : p.1 = ByteArray.empty
  · rw [if_pos hp]; exact h.mono _
  · rw [if_neg hp]; exact LiesS.add hz hg hp h
theorem LiesS.fed {z : Bkt} (hz : z.lev = -1) : ∀ (l : List Par) {srcs : List ByteArray} {S : Skt}, Good S → LiesS z srcs S → LiesS z (srcs ++ l.map (·.1)) (fedP S l)
  | [], srcs, S, _, h => by simpa [fedP] using h
  | p :: l, srcs, S, hg, h => by
    have := LiesS.fed hz l (addP_good p hg) (h.addP hz hg p)
    rw [List.append_assoc] at this
    exact this
theorem TouchS.addP {S : Skt} (hg : Good S) {who : ByteArray} (p : Par) (h : TouchS who S) : TouchS who (addP S p) := by
  unfold Go.Proofs.YtonkhpeahbjmmaaDoorF.addP
  split
  · exact h
  · exact TouchS.add hg _ _ h
theorem TouchS.fed : ∀ (l : List Par) {S : Skt} {who : ByteArray}, Good S → TouchS who S → TouchS who (fedP S l)
  | [], _S, _who, _, h => h
  | p :: l, _S, _who, hg, h => TouchS.fed l (addP_good p hg) (h.addP hg p)
theorem fed_src {S : Skt} (hg : Good S) {z : Bkt} {l : List Par} (hz : z.lev = -1) (hs : z.src = ByteArray.empty) (hl : LiesS z [] S) {r : List Bkt} (hr : r ∈ (fedP S l).rows) {b : Bkt} (hb : b ∈ r) : b.src = ByteArray.empty ∨ ∃ p ∈ l, p.1 = b.src := by
  have h := LiesS.fed hz l hg hl r hr b hb
  rcases h with rfl | ⟨_, g, _⟩
  · exact .inl hs
  · rw [List.nil_append] at g
    obtain ⟨p, hp, e⟩ := List.mem_map.1 g
    exact .inr ⟨p, hp, e⟩
/-- What is listed of a fed sketch. -/
theorem lst_mem {S : Skt} {most : Int} (hok : sOk S = true) {x : Itm} (hx : x ∈ lstB S most) : ∃ r ∈ S.rows, ∃ b ∈ r, b.src ≠ ByteArray.empty ∧ x = (b.src, estB S b.src) ∧ most ≤ estB S b.src := by
  unfold lstB at hx
  rw [if_pos hok] at hx
  have := (isort_perm _).mem_iff.1 hx
  obtain ⟨b, g1, g2⟩ := (lall_inv S most).mem x this
  obtain ⟨r, hr, hb⟩ := List.mem_flatten.1 g1
  exact ⟨r, hr, b, hb, g2⟩
theorem lst_nodup {S : Skt} {most : Int} (hok : sOk S = true) : ((lstB S most).map (·.1)).Nodup := by
  unfold lstB
  rw [if_pos hok]
  exact ((isort_perm _).map _).nodup_iff.2 (lall_inv S most).nd
def fedT (S : Skt) (src : ByteArray) (l : List ByteArray) : Skt := fedP S (l.map fun t => (src, t))
theorem fedT_good {S : Skt} (hg : Good S) (src : ByteArray) (l : List ByteArray) : Good (fedT S src l) := fedP_good hg
theorem fedT_take {S : Skt} {src : ByteArray} {l : List ByteArray} {i : Nat} (h : i < l.length) : fedT S src (l.take (i + 1)) = addP (fedT S src (l.take i)) (src, l[i]) := by
  unfold fedT fedP
  rw [List.take_add_one, List.getElem?_eq_getElem h, Option.toList_some, List.map_append, List.foldl_append]
  rfl
theorem fedT_alone {seed : Int} {rows cols levels bits : Nat} (hg : Good (newSk seed rows cols levels bits)) {src : ByteArray} (hs : src ≠ ByteArray.empty) {l : List ByteArray} (hl : l ≠ []) : lstB (fedT (newSk seed rows cols levels bits) src l) 0 = [(src, estB (fedT (newSk seed rows cols levels bits) src l) src)] ∧ 65536 ≤ estB (fedT (newSk seed rows cols levels bits) src l) src := by
  have hf := fedT_good hg src l
  have hT : TouchS src (fedT (newSk seed rows cols levels bits) src l) := by
    cases l with
    | nil => exact absurd rfl hl
    | cons t l =>
      show TouchS src (fedP (addP _ (src, t)) (l.map fun t => (src, t)))
      refine TouchS.fed _ (addP_good _ hg) ?_
      unfold Go.Proofs.YtonkhpeahbjmmaaDoorF.addP
      rw [if_neg hs]
      exact TouchS.self hg _ _
  have hL := LiesS.fed (z := nBk seed levels bits) rfl (l.map fun t => (src, t)) hg (new_lies seed rows cols levels bits [])
  refine ⟨lst_alone hf hL (nBk_none ..) (fun x hx => ?_) hT (by omega), est_big hf hT⟩
  rw [List.nil_append, List.map_map] at hx
  obtain ⟨t, _, e⟩ := List.mem_map.1 hx
  exact e.symm
end Go.Proofs.YtonkhpeahbjmmaaDoorF
end

section
/- The law SpreadOrder. -/
set_option maxRecDepth 8192
set_option maxHeartbeats 2000000
namespace Go.Proofs.YtonkhpeahbjmmaaDoorF
open Go Go.Proofs.Vm

def cSz (seed rows cols levels bits : Int) : List CV := [.v (.int .u64 seed), .v (.int .i64 rows), .v (.int .i64 cols), .v (.int .i64 levels), .v (.int .i64 bits)]
theorem lawSpreadOrder {seed rows cols levels bits : Int} {l : List Par} {src : ByteArray} (s0 : 0 ≤ seed) (s1 : seed < 18446744073709551616) (hl : l.length < 4611686018427387904) (hz : ∀ p ∈ l, p.1.size < 4611686018427387904 ∧ p.2.size < 4611686018427387904) (hsz : src.size < 4611686018427387904) : TV.pu 8 [.agg (cSz seed rows cols levels bits), .one (.arr (l.map cPar)), cS src] = some (cB true) := by
  refine run8 (by simp) ?_
  have hA := law_awake
  have hF := law_few hl hz
  by_cases hb : 1 ≤ levels ∧ levels ≤ 16 ∧ 1 ≤ bits ∧ bits ≤ 256 ∧ 1 ≤ rows ∧ rows ≤ 7 ∧ 1 ≤ cols ∧ cols ≤ 256
  rotate_left
  · have hN := sp_New_arg s0 s1 hb
    simp only [cSk, cBkr, zSk, List.map_nil] at hN
    simp -implicitDefEqProofs [Tryd.f8, cSz, hN, hA, vmove, isNil, vstore, cellsOf?, Ent.wrO, wr]
  obtain ⟨rows, rfl⟩ := Int.eq_ofNat_of_zero_le (show 0 ≤ rows by omega)
  obtain ⟨cols, rfl⟩ := Int.eq_ofNat_of_zero_le (show 0 ≤ cols by omega)
  obtain ⟨levels, rfl⟩ := Int.eq_ofNat_of_zero_le (show 0 ≤ levels by omega)
  obtain ⟨bits, rfl⟩ := Int.eq_ofNat_of_zero_le (show 0 ≤ bits by omega)
  have hb' : 1 ≤ levels ∧ levels ≤ 16 ∧ 1 ≤ bits ∧ bits ≤ 256 ∧ 1 ≤ rows ∧ rows ≤ 7 ∧ 1 ≤ cols ∧ cols ≤ 256 := by omega
  have hN := sp_New s0 s1 hb'
  have hg := new_good s0 s1 hb'
  obtain ⟨S, hS⟩ : ∃ S, newSk seed rows cols levels bits = S := ⟨_, rfl⟩
  rw [hS] at hN hg
  simp only [cSk, cBkr, cBks] at hN
  cases hfw : fewP l with
  | false =>
    rw [hfw] at hF
    simp -implicitDefEqProofs [Tryd.f8, cSz, hN, hA, hF, vmove, isNil, vstore, cellsOf?, Ent.wrO, wr]
  | true =>
  rw [hfw] at hF
  by_cases c1 : 30 < cols
  · have c1' : 30 < (cols : Int) := by omega
    simp -implicitDefEqProofs [Tryd.f8, cSz, hN, hA, hF, c1', vmove, isNil, vstore, cellsOf?, Ent.wrO, wr]
  have c1n : cols ≤ 30 := by omega
  have c1' : ¬ 30 < (cols : Int) := by omega
  by_cases c2 : 100 < bits
  · have c2' : 100 < (bits : Int) := by omega
    simp -implicitDefEqProofs [Tryd.f8, cSz, hN, hA, hF, c1', c2', vmove, isNil, vstore, cellsOf?, Ent.wrO, wr]
  have c2n : bits ≤ 100 := by omega
  have c2' : ¬ 100 < (bits : Int) := by omega
  by_cases c3 : 100 < src.size
  · have c3' : 100 < (src.size : Int) := by omega
    simp -implicitDefEqProofs [Tryd.f8, cSz, hN, hA, hF, c1', c2', c3', vmove, isNil, vstore, cellsOf?, Ent.wrO, wr]
  have c3n : src.size ≤ 100 := by omega
  have c3' : ¬ 100 < (src.size : Int) := by omega
  simp -implicitDefEqProofs [Tryd.f8, cSz, hN, hF, c1', c2', c3', vmove, isNil, vstore, cellsOf?, Ent.wrO, wr]
  obtain ⟨m, hm⟩ : ∃ m, l.reverse = m := ⟨_, rfl⟩
  have hml : m.length = l.length := by rw [← hm, List.length_reverse]
  have hmg : ∀ i (h : i < l.length), m[i]'(by omega) = l[l.length - 1 - i]'(by omega) := fun i h => by subst hm; rw [List.getElem_reverse]
  have h60 : l.length ≤ 60 := by
    unfold fewP at hfw
    simp only [Bool.and_eq_true, decide_eq_true_eq] at hfw
    exact hfw.2
  have hsm : ∀ p ∈ l, p.1.size ≤ 100 ∧ p.2.size ≤ 100 := fun p hp => by
    unfold fewP at hfw
    simp only [Bool.and_eq_true, decide_eq_true_eq, List.all_eq_true] at hfw
    exact hfw.1 p hp
  obtain ⟨I, hI⟩ : ∃ I : Nat → St → Prop, ∀ n s', I n s' ↔ (∃ e i L, s' = ⟨e, .opn [(cSz seed rows cols levels bits).map .c] false :: .opn [(cSk S).map .c] false :: .clo [] false :: .clo ((m.take i).map cPar) false :: L⟩ ∧ e 1 = .one (.c (.arr (l.map cPar))) ∧ e 2 = vS src ∧ e 3 = .one (.ptr ⟨0, 0, 0, 1⟩) ∧ e 7 = .one (.ptr ⟨1, 0, 0, 1⟩) ∧ e 9 = .one (.sl 3 0 i i) ∧ e 53 = vI .i64 l.length ∧ e 54 = vI .i64 (i : Nat) ∧ (i + n = l.length)) := ⟨_, fun _ _ => Iff.rfl⟩
  refine wpL_ind I ?_ l.length _ ((hI _ _).2 ⟨_, 0, _, (by first | rfl | (simp [cSz, cSk, cBkr, cBks]; done) | (simp [cSz, cSk, cBkr, cBks]; rfl) | (simp [cSz, cSk, cBkr, cBks]; and_intros <;> rfl)), by simp, by simp, by simp, by simp, by simp, by simp, by simp, by omega⟩)
  intro n stI hstI
  obtain ⟨e, i, L, rfl, e1, e2, e3, e7, e9, e53, e54, hn⟩ := (hI _ _).1 hstI
  by_cases ci : i < l.length
  · have w_i : IntKind.i64.wrap ((i : Int) + 1) = ((i + 1 : Nat) : Int) := by rw [w64_id (by omega) (by omega)]; omega
    have wm : IntKind.i64.wrap ((l.length : Int) - 1) = ((l.length - 1 : Nat) : Int) := by rw [w64_id (by omega) (by omega)]; omega
    have wm2 : IntKind.i64.wrap (((l.length - 1 : Nat) : Int) - (i : Int)) = ((l.length - 1 - i : Nat) : Int) := by rw [w64_id (by omega) (by omega)]; omega
    have hq : l.length - 1 - i < l.length := by omega
    obtain ⟨y, hy⟩ : ∃ y, l[l.length - 1 - i] = y := ⟨_, rfl⟩
    have hcl : cPar l[l.length - 1 - i] = [.v (.string y.1), .v (.string y.2)] := by rw [hy]; rfl
    have him : i < m.length := by omega
    have hmi := hmg i ci
    rw [hy] at hmi
    have k1 : 32 * (i + 1) ≤ 140737488355328 := by omega
    have k2 : i + 1 ≤ 4611686018427387904 := by omega
    have hil : min i m.length = i := by omega
    have hal : AllLen ((m.take i).map cPar) 2 := by intro x hx; obtain ⟨y, _, rfl⟩ := List.mem_map.1 hx; rfl
    have htk : (m.take i).map cPar ++ [cPar m[i]] = (m.take (i + 1)).map cPar := by rw [List.take_add_one, List.getElem?_eq_getElem him, Option.toList_some, List.map_append]; rfl
    rw [hmi] at htk
    simp only [cPar] at htk
    simp -implicitDefEqProofs [-List.map_take, e1, e9, e53, e54, ci, w_i, wm, wm2, hq, hcl, cSz, cSk, cBkr, cBks, vmove, isNil, cellsOf?, vappend_sp es57 es57 el63, vbuildSlice_eq es57 el63, fzParts, setAll, rchParts, rch, elemsOf, k1, k2, hil, hal, htk]
    exact ⟨n - 1, by omega, (hI _ _).2 ⟨_, i + 1, _, (by first | rfl | (simp [cSz, cPar, cSk, cBkr, cBks]; done) | (simp [cSz, cPar, cSk, cBkr, cBks]; rfl) | (simp [cSz, cPar, cSk, cBkr, cBks]; and_intros <;> rfl)), by simp [e1], by simp [e2], by simp [e3], by simp [e7], by simp, by simp [e53], by simp, by omega⟩⟩
  obtain rfl : i = m.length := by omega
  have hci : ¬ (m.length : Int) < l.length := by omega
  have hmtk : (m.map cPar).take m.length = m.map cPar := List.take_of_length_le (by simp)
  have hmtk2 : m.take m.length = m := List.take_length ..
  have hmem : ∀ p ∈ m, p ∈ l := fun p hp => by rw [← hm] at hp; exact List.mem_reverse.1 hp
  have hF := law_fed (l := l) hg hl fun p hp => by have := hsm p hp; omega
  have hG := law_fed (l := m) hg (by omega) fun p hp => by have := hsm p (hmem p hp); omega
  have hga := fedP_good (l := l) hg
  have hgb := fedP_good (l := m) hg
  have hperm : l.Perm m := by rw [← hm]; exact (List.reverse_perm l).symm
  have hest := est_perm hg hperm
  obtain ⟨A, hAe⟩ : ∃ A, fedP S l = A := ⟨_, rfl⟩
  obtain ⟨B, hBe⟩ : ∃ B, fedP S m = B := ⟨_, rfl⟩
  rw [hAe] at hF hga hest
  rw [hBe] at hG hgb hest
  simp only [cSk, cBkr, cBks] at hF hG
  rw [hmtk2]
  simp -implicitDefEqProofs [e1, e7, e9, e53, e54, hci, hmtk, hF, hG, cSz, cSk, cBkr, cBks, rcha, rch, frzAll, Ent.frz, vmove, isNil, vstore, cellsOf?, Ent.wrO, wr]
  have hEa := fun (x : ByteArray) (h : x.size ≤ 100) => sp_Estimate (src := x) hga.1 (lens_of hga.2) (by omega)
  have hEb := fun (x : ByteArray) (h : x.size ≤ 100) => sp_Estimate (src := x) hgb.1 (lens_of hgb.2) (by omega)
  simp only [cSk, cBkr, cBks] at hEa hEb
  obtain ⟨J, hJ⟩ : ∃ J : Nat → St → Prop, ∀ k' s', J k' s' ↔ (∃ e p M, s' = ⟨e, .opn [(cSz seed rows cols levels bits).map .c] false :: .opn [(cSk S).map .c] false :: .clo [] false :: .clo (m.map cPar) true :: (L ++ .opn [(cSk A).map .c] false :: .clo [] false :: .opn [(cSk B).map .c] false :: .clo [] false :: M)⟩ ∧ e 2 = vS src ∧ e 11 = .one (.ptr ⟨L.length + 1 + 1 + 1 + 1, 0, 0, 1⟩) ∧ e 12 = .one (.ptr ⟨L.length + 2 + 1 + 1 + 1 + 1, 0, 0, 1⟩) ∧ e 75 = .one (.c (.arr (l.map cPar))) ∧ e 76 = vI .i64 l.length ∧ e 77 = vI .i64 (p : Nat) ∧ (p + k' = l.length)) := ⟨_, fun _ _ => Iff.rfl⟩
  refine wpL_ind J ?_ l.length _ ((hJ _ _).2 ⟨_, 0, [], (by first | rfl | (simp [e2, cSz, cSk, cBkr, cBks]; done) | (simp [e2, cSz, cSk, cBkr, cBks]; rfl) | (simp [e2, cSz, cSk, cBkr, cBks]; and_intros <;> rfl)), by simp [e2], by simp, by simp, by simp, by simp, by simp, by omega⟩)
  clear e1 e2 e3 e7 e9 e53 e54
  intro k' stJ hstJ
  obtain ⟨e, p, M, rfl, e2, e11, e12, e75, e76, e77, hk'⟩ := (hJ _ _).1 hstJ
  by_cases d : p < l.length
  · have w_p : IntKind.i64.wrap ((p : Int) + 1) = ((p + 1 : Nat) : Int) := by rw [w64_id (by omega) (by omega)]; omega
    have hsp := hsm _ (List.getElem_mem d)
    obtain ⟨y, hy⟩ : ∃ y, l[p] = y := ⟨_, rfl⟩
    have hcl : cPar l[p] = [.v (.string y.1), .v (.string y.2)] := by rw [hy]; rfl
    rw [hy] at hsp
    have h1 := hEa y.1 hsp.1
    have h2 := hEb y.1 hsp.1
    rw [← hest] at h2
    simp -implicitDefEqProofs [e11, e12, e75, e76, e77, d, hcl, h1, h2, w_p, cSz, cSk, cBkr, cBks, vmove, isNil, vstore, cellsOf?, Ent.wrO, wr]
    exact ⟨k' - 1, by omega, (hJ _ _).2 ⟨_, p + 1, _, (by first | rfl | (simp [cSz, cSk, cBkr, cBks]; done) | (simp [cSz, cSk, cBkr, cBks]; rfl) | (simp [cSz, cSk, cBkr, cBks]; and_intros <;> rfl)), by simp [e2], by simp [e11], by simp [e12], by simp [e75], by simp [e76], by simp, by omega⟩⟩
  · have h1 := hEa src c3n
    have h2 := hEb src c3n
    rw [← hest] at h2
    simp -implicitDefEqProofs [e2, e11, e12, e76, e77, d, h1, h2, hA, cSz, cSk, cBkr, cBks, vmove, isNil]
end Go.Proofs.YtonkhpeahbjmmaaDoorF
end

section
/- The law SpreadSeen. -/
set_option maxRecDepth 8192
set_option maxHeartbeats 2000000
namespace Go.Proofs.YtonkhpeahbjmmaaDoorF
open Go Go.Proofs.Vm

def anyP (k : ByteArray) (l : List Par) : Bool := l.any fun p => decide (p.1 = k)
theorem anyP_take {k : ByteArray} {l : List Par} {i : Nat} (h : i < l.length) : anyP k (l.take (i + 1)) = (anyP k (l.take i) || decide (l[i].1 = k)) := by
  unfold anyP
  rw [List.take_add_one, List.getElem?_eq_getElem h, Option.toList_some, List.any_append]
  simp
theorem lawSpreadSeen {seed rows cols levels bits most : Int} {l : List Par} (s0 : 0 ≤ seed) (s1 : seed < 18446744073709551616) (hl : l.length < 4611686018427387904) (hz : ∀ p ∈ l, p.1.size < 4611686018427387904 ∧ p.2.size < 4611686018427387904) : TV.pu 5 [.agg (cSz seed rows cols levels bits), .one (.arr (l.map cPar)), cI .i64 most] = some (cB true) := by
  refine run5 (by simp) ?_
  have hA := law_awake
  have hF := law_few hl hz
  by_cases hb : 1 ≤ levels ∧ levels ≤ 16 ∧ 1 ≤ bits ∧ bits ≤ 256 ∧ 1 ≤ rows ∧ rows ≤ 7 ∧ 1 ≤ cols ∧ cols ≤ 256
  rotate_left
  · have hN := sp_New_arg s0 s1 hb
    simp only [cSk, cBkr, zSk, List.map_nil] at hN
    simp -implicitDefEqProofs [Tryd.f5, cSz, hN, hA, vmove, isNil, vstore, cellsOf?, Ent.wrO, wr]
  obtain ⟨rows, rfl⟩ := Int.eq_ofNat_of_zero_le (show 0 ≤ rows by omega)
  obtain ⟨cols, rfl⟩ := Int.eq_ofNat_of_zero_le (show 0 ≤ cols by omega)
  obtain ⟨levels, rfl⟩ := Int.eq_ofNat_of_zero_le (show 0 ≤ levels by omega)
  obtain ⟨bits, rfl⟩ := Int.eq_ofNat_of_zero_le (show 0 ≤ bits by omega)
  have hb' : 1 ≤ levels ∧ levels ≤ 16 ∧ 1 ≤ bits ∧ bits ≤ 256 ∧ 1 ≤ rows ∧ rows ≤ 7 ∧ 1 ≤ cols ∧ cols ≤ 256 := by omega
  have hN := sp_New s0 s1 hb'
  have hg := new_good s0 s1 hb'
  have hsrc : ∀ r ∈ (fedP (newSk seed rows cols levels bits) l).rows, ∀ b ∈ r, b.src = ByteArray.empty ∨ ∃ p ∈ l, p.1 = b.src := fun r hr b hb =>
    fed_src hg (z := nBk seed levels bits) rfl rfl (new_lies seed rows cols levels bits []) hr hb
  obtain ⟨S, hS⟩ : ∃ S, newSk seed rows cols levels bits = S := ⟨_, rfl⟩
  rw [hS] at hN hg
  simp only [hS] at hsrc
  simp only [cSk, cBkr, cBks] at hN
  cases hfw : fewP l with
  | false =>
    rw [hfw] at hF
    simp -implicitDefEqProofs [Tryd.f5, cSz, hN, hA, hF, vmove, isNil, vstore, cellsOf?, Ent.wrO, wr]
  | true =>
  rw [hfw] at hF
  by_cases c1 : 30 < cols
  · have c1' : 30 < (cols : Int) := by omega
    simp -implicitDefEqProofs [Tryd.f5, cSz, hN, hA, hF, c1', vmove, isNil, vstore, cellsOf?, Ent.wrO, wr]
  have c1n : cols ≤ 30 := by omega
  have c1' : ¬ 30 < (cols : Int) := by omega
  by_cases c2 : 100 < bits
  · have c2' : 100 < (bits : Int) := by omega
    simp -implicitDefEqProofs [Tryd.f5, cSz, hN, hA, hF, c1', c2', vmove, isNil, vstore, cellsOf?, Ent.wrO, wr]
  have c2n : bits ≤ 100 := by omega
  have c2' : ¬ 100 < (bits : Int) := by omega
  have h60 : l.length ≤ 60 := by
    unfold fewP at hfw
    simp only [Bool.and_eq_true, decide_eq_true_eq] at hfw
    exact hfw.2
  have hsm : ∀ p ∈ l, p.1.size ≤ 100 ∧ p.2.size ≤ 100 := fun p hp => by
    unfold fewP at hfw
    simp only [Bool.and_eq_true, decide_eq_true_eq, List.all_eq_true] at hfw
    exact hfw.1 p hp
  have hFed := law_fed (l := l) hg hl fun p hp => by have := hsm p hp; omega
  have hga := fedP_good (l := l) hg
  obtain ⟨A, hAe⟩ : ∃ A, fedP S l = A := ⟨_, rfl⟩
  rw [hAe] at hFed hga
  rw [hAe] at hsrc
  have hsz : ∀ r ∈ A.rows, ∀ b ∈ r, b.src.size ≤ 100 := fun r hr b hb => by
    rcases hsrc r hr b hb with h | ⟨p, hp, e⟩
    · rw [h]; decide
    · rw [← e]; exact (hsm p hp).1
  have hL := sp_List (most := most) hga.1 (lens_of hga.2) fun r hr b hb => by have := hsz r hr b hb; omega
  have hE := fun (x : ByteArray) (h : x.size ≤ 100) => sp_Estimate (src := x) hga.1 (lens_of hga.2) (by omega)
  have hM : ∀ x ∈ lstB A most, x.1.size ≤ 100 ∧ anyP x.1 l = true ∧ x.2 = estB A x.1 ∧ most ≤ x.2 := fun x hx => by
    obtain ⟨r, hr, b, hb, g1, g2, g3⟩ := lst_mem hga.2 hx
    rw [g2]
    refine ⟨hsz r hr b hb, ?_, rfl, g3⟩
    rcases hsrc r hr b hb with h | ⟨p, hp, e⟩
    · exact absurd h g1
    · unfold anyP
      exact List.any_eq_true.2 ⟨p, hp, decide_eq_true e⟩
  have hnd := lst_nodup (S := A) (most := most) hga.2
  have hne : ∀ i j (hi : i < (lstB A most).length) (hj : j < (lstB A most).length), i < j → (lstB A most)[i].1 ≠ (lstB A most)[j].1 := fun i j hi hj hij e => by
    rw [List.nodup_iff_pairwise_ne, List.pairwise_iff_getElem] at hnd
    exact hnd i j (by simpa using hi) (by simpa using hj) hij (by simpa using e)
  have hll : (lstB A most).length ≤ 2000 := by
    unfold lstB
    rw [if_pos hga.2, rto_eq]
    obtain ⟨q1, q2, q3, q4, q5⟩ := sOk_facts hga.2
    have := rto_len A most A.rows [] fun r hr => by rw [(q5 r hr).1]; omega
    rw [List.length_nil] at this
    unfold rto
    omega
  obtain ⟨it, hit⟩ : ∃ it, lstB A most = it := ⟨_, rfl⟩
  rw [hit] at hL hM hll
  simp only [hit] at hne
  clear hnd
  simp only [cSk, cBkr, cBks] at hFed hL hE
  simp -implicitDefEqProofs [Tryd.f5, cSz, hN, hF, hFed, hL, c1', c2', vmove, isNil, vstore, cellsOf?, Ent.wrO, wr]
  obtain ⟨I, hI⟩ : ∃ I : Nat → St → Prop, ∀ n s', I n s' ↔ (∃ e i M, s' = ⟨e, .opn [(cSz seed rows cols levels bits).map .c] false :: .opn [(cSk A).map .c] false :: M⟩ ∧ e 1 = .one (.c (.arr (l.map cPar))) ∧ e 2 = vI .i64 most ∧ e 7 = .one (.ptr ⟨1, 0, 0, 1⟩) ∧ e 9 = .one (.c (.arr (it.map cItm))) ∧ e 55 = .one (.c (.arr (it.map cItm))) ∧ e 56 = vI .i64 it.length ∧ e 57 = vI .i64 (i : Nat) ∧ (i + n = it.length)) := ⟨_, fun _ _ => Iff.rfl⟩
  refine wpL_ind I ?_ it.length _ ((hI _ _).2 ⟨_, 0, _, (by first | rfl | (simp [cSz, cSk, cBkr, cBks]; done) | (simp [cSz, cSk, cBkr, cBks]; rfl) | (simp [cSz, cSk, cBkr, cBks]; and_intros <;> rfl)), by simp, by simp, by simp, by simp, by simp, by simp, by simp, by omega⟩)
  intro n stI hstI
  obtain ⟨e, i, M, rfl, e1, e2, e7, e9, e55, e56, e57, hn⟩ := (hI _ _).1 hstI
  by_cases ci : i < it.length
  rotate_left
  · simp -implicitDefEqProofs [e56, e57, ci, hA]
  have w_i : IntKind.i64.wrap ((i : Int) + 1) = ((i + 1 : Nat) : Int) := by rw [w64_id (by omega) (by omega)]; omega
  obtain ⟨m1, m2, m3, m4⟩ := hM _ (List.getElem_mem ci)
  have hEx := hE _ m1
  rw [← m3] at hEx
  have hnx : ∀ j (hj : j < it.length), j < i → it[j].1 ≠ it[i].1 := fun j hj h => hne j i hj ci (by omega)
  obtain ⟨x, hx⟩ : ∃ x, it[i] = x := ⟨_, rfl⟩
  have hclx : cItm it[i] = [.v (.string x.1), .v (.int .i64 x.2)] := by rw [hx]; rfl
  rw [hx] at m1 m2 m3 m4 hEx
  simp only [hx] at hnx
  simp -implicitDefEqProofs [e1, e55, e56, e57, ci, hclx, cSz, cSk, cBkr, cBks, vmove, isNil, vstore, cellsOf?, Ent.wrO, wr]
  obtain ⟨J, hJ⟩ : ∃ J : Nat → St → Prop, ∀ q s', J q s' ↔ (∃ e p N, s' = ⟨e, .opn [(cSz seed rows cols levels bits).map .c] false :: .opn [(cSk A).map .c] false :: (M ++ .opn [(cItm x).map .c] false :: N)⟩ ∧ e 1 = .one (.c (.arr (l.map cPar))) ∧ e 2 = vI .i64 most ∧ e 7 = .one (.ptr ⟨1, 0, 0, 1⟩) ∧ e 9 = .one (.c (.arr (it.map cItm))) ∧ e 55 = .one (.c (.arr (it.map cItm))) ∧ e 56 = vI .i64 it.length ∧ e 57 = vI .i64 (i : Nat) ∧ e 10 = vI .i64 (i : Nat) ∧ e 11 = .one (.ptr ⟨M.length + 1 + 1, 0, 0, 1⟩) ∧ e 12 = vB (anyP x.1 (l.take p)) ∧ e 62 = .one (.c (.arr (l.map cPar))) ∧ e 63 = vI .i64 l.length ∧ e 64 = vI .i64 (p : Nat) ∧ (p + q = l.length)) := ⟨_, fun _ _ => Iff.rfl⟩
  refine wpL_ind J ?_ l.length _ ((hJ _ _).2 ⟨_, 0, [], (by first | rfl | (simp [e1, e2, e7, e9, e55, e56, e57, cItm, cSz, cSk, cBkr, cBks, anyP]; done) | (simp [e1, e2, e7, e9, e55, e56, e57, cItm, cSz, cSk, cBkr, cBks, anyP]; rfl) | (simp [e1, e2, e7, e9, e55, e56, e57, cItm, cSz, cSk, cBkr, cBks, anyP]; and_intros <;> rfl)), by simp [e1], by simp [e2], by simp [e7], by simp [e9], by simp [e55], by simp [e56], by simp [e57], by simp, by simp, by simp [anyP], by simp, by simp, by simp, by omega⟩)
  clear e1 e2 e7 e9 e55 e56 e57
  intro q stJ hstJ
  obtain ⟨e, p, N, rfl, e1, e2, e7, e9, e55, e56, e57, e10, e11, e12, e62, e63, e64, hq⟩ := (hJ _ _).1 hstJ
  by_cases cp : p < l.length
  · have w_p : IntKind.i64.wrap ((p : Int) + 1) = ((p + 1 : Nat) : Int) := by rw [w64_id (by omega) (by omega)]; omega
    have hat := anyP_take (k := x.1) cp
    obtain ⟨y, hy⟩ : ∃ y, l[p] = y := ⟨_, rfl⟩
    have hcl : cPar l[p] = [.v (.string y.1), .v (.string y.2)] := by rw [hy]; rfl
    rw [hy] at hat
    by_cases d : y.1 = x.1
    · have hb : (y.1 == x.1) = true := (Go.MapKept.bytes_beq _ _).2 d
      rw [decide_eq_true d, Bool.or_true] at hat
      cases hv : anyP x.1 (l.take p) <;> rw [hv] at e12 <;> simp -implicitDefEqProofs [-List.map_take, e11, e12, e62, e63, e64, cp, hcl, d, sbin_eql, w_p, cItm, cSz, cSk, cBkr, cBks, vmove, isNil, vstore, cellsOf?, Ent.wrO, wr]
      · exact ⟨q - 1, by omega, (hJ _ _).2 ⟨_, p + 1, _, (by first | rfl | (simp [hat, cItm, cSz, cSk, cBkr, cBks]; done) | (simp [hat, cItm, cSz, cSk, cBkr, cBks]; rfl) | (simp [hat, cItm, cSz, cSk, cBkr, cBks]; and_intros <;> rfl)), by simp [e1], by simp [e2], by simp [e7], by simp [e9], by simp [e55], by simp [e56], by simp [e57], by simp [e10], by simp [e11], by simp [hat], by simp [e62], by simp [e63], by simp, by omega⟩⟩
      · exact ⟨q - 1, by omega, (hJ _ _).2 ⟨_, p + 1, _, (by first | rfl | (simp [hat, cItm, cSz, cSk, cBkr, cBks]; done) | (simp [hat, cItm, cSz, cSk, cBkr, cBks]; rfl) | (simp [hat, cItm, cSz, cSk, cBkr, cBks]; and_intros <;> rfl)), by simp [e1], by simp [e2], by simp [e7], by simp [e9], by simp [e55], by simp [e56], by simp [e57], by simp [e10], by simp [e11], by simp [hat], by simp [e62], by simp [e63], by simp, by omega⟩⟩
    · have htl : ¬ y.1.toList = x.1.toList := fun h => d (toList_inj.1 h)
      rw [decide_eq_false d, Bool.or_false] at hat
      cases hv : anyP x.1 (l.take p) <;> rw [hv] at e12 hat <;> simp -implicitDefEqProofs [-List.map_take, e11, e12, e62, e63, e64, cp, hcl, sbin_eql, w_p, cItm, cSz, cSk, cBkr, cBks, vmove, isNil, vstore, cellsOf?, Ent.wrO, wr]
      · exact ⟨q - 1, by omega, (hJ _ _).2 ⟨_, p + 1, _, (by first | rfl | (simp [hat, htl, cItm, cSz, cSk, cBkr, cBks]; done) | (simp [hat, htl, cItm, cSz, cSk, cBkr, cBks]; rfl) | (simp [hat, htl, cItm, cSz, cSk, cBkr, cBks]; and_intros <;> rfl)), by simp [e1], by simp [e2], by simp [e7], by simp [e9], by simp [e55], by simp [e56], by simp [e57], by simp [e10], by simp [e11], by simp [hat, htl], by simp [e62], by simp [e63], by simp, by omega⟩⟩
      · exact ⟨q - 1, by omega, (hJ _ _).2 ⟨_, p + 1, _, (by first | rfl | (simp [hat, htl, cItm, cSz, cSk, cBkr, cBks]; done) | (simp [hat, htl, cItm, cSz, cSk, cBkr, cBks]; rfl) | (simp [hat, htl, cItm, cSz, cSk, cBkr, cBks]; and_intros <;> rfl)), by simp [e1], by simp [e2], by simp [e7], by simp [e9], by simp [e55], by simp [e56], by simp [e57], by simp [e10], by simp [e11], by simp [hat], by simp [e62], by simp [e63], by simp, by omega⟩⟩
  have hil : l.take p = l := List.take_of_length_le (by omega)
  rw [hil, m2] at e12
  have g1 : ¬ x.2 < most := by omega
  have k1 : i ≤ (it.map cItm).length := by rw [List.length_map]; omega
  have k2 := cItm_all it
  have hmin : min i it.length = i := by omega
  simp -implicitDefEqProofs [e2, e7, e9, e10, e11, e12, e63, e64, cp, g1, hEx, slc_to es34 sz61 k1 k2, hmin, cItm, cSz, cSk, cBkr, cBks, vmove, isNil]
  obtain ⟨K, hK⟩ : ∃ K : Nat → St → Prop, ∀ q s', K q s' ↔ (∃ e j N, s' = ⟨e, .opn [(cSz seed rows cols levels bits).map .c] false :: .opn [(cSk A).map .c] false :: (M ++ .opn [(cItm x).map .c] false :: N)⟩ ∧ e 1 = .one (.c (.arr (l.map cPar))) ∧ e 2 = vI .i64 most ∧ e 7 = .one (.ptr ⟨1, 0, 0, 1⟩) ∧ e 9 = .one (.c (.arr (it.map cItm))) ∧ e 55 = .one (.c (.arr (it.map cItm))) ∧ e 56 = vI .i64 it.length ∧ e 57 = vI .i64 (i : Nat) ∧ e 11 = .one (.ptr ⟨M.length + 1 + 1, 0, 0, 1⟩) ∧ e 96 = .one (.c (.arr ((it.map cItm).take i))) ∧ e 97 = vI .i64 (i : Nat) ∧ e 98 = vI .i64 (j : Nat) ∧ (j + q = i)) := ⟨_, fun _ _ => Iff.rfl⟩
  refine wpL_ind K ?_ i _ ((hK _ _).2 ⟨_, 0, N, (by first | rfl | (simp [e1, e2, e7, e9, e55, e56, e57, e11, cItm, cSz, cSk, cBkr, cBks, hmin, -List.map_take]; done) | (simp [e1, e2, e7, e9, e55, e56, e57, e11, cItm, cSz, cSk, cBkr, cBks, hmin, -List.map_take]; rfl) | (simp [e1, e2, e7, e9, e55, e56, e57, e11, cItm, cSz, cSk, cBkr, cBks, hmin, -List.map_take]; and_intros <;> rfl)), by simp [e1, -List.map_take], by simp [e2, -List.map_take], by simp [e7, -List.map_take], by simp [e9, -List.map_take], by simp [e55, -List.map_take], by simp [e56, -List.map_take], by simp [e57, -List.map_take], by simp [e11, -List.map_take], by simp [-List.map_take], by simp [-List.map_take], by simp [-List.map_take], by omega⟩)
  clear e1 e2 e7 e9 e55 e56 e57 e10 e11 e12 e62 e63 e64
  intro q stK hstK
  obtain ⟨e, j, N, rfl, e1, e2, e7, e9, e55, e56, e57, e11, e96, e97, e98, hq⟩ := (hK _ _).1 hstK
  by_cases cj : j < i
  · have w_j : IntKind.i64.wrap ((j : Int) + 1) = ((j + 1 : Nat) : Int) := by rw [w64_id (by omega) (by omega)]; omega
    have cji : j < it.length := by omega
    have htl : ¬ it[j].1.toList = x.1.toList := fun h => hnx j cji cj (toList_inj.1 h)
    simp -implicitDefEqProofs [-List.map_take, e11, e96, e97, e98, cj, htl, hmin, sbin_eql, w_j, cItm, cSz, cSk, cBkr, cBks, vmove, isNil, vstore, cellsOf?, Ent.wrO, wr]
    exact ⟨q - 1, by omega, (hK _ _).2 ⟨_, j + 1, _, (by first | rfl | (simp [cItm, cSz, cSk, cBkr, cBks]; done) | (simp [cItm, cSz, cSk, cBkr, cBks]; rfl) | (simp [cItm, cSz, cSk, cBkr, cBks]; and_intros <;> rfl)), by simp [e1], by simp [e2], by simp [e7], by simp [e9], by simp [e55], by simp [e56], by simp [e57], by simp [e11], by simp [e96], by simp [e97], by simp, by omega⟩⟩
  · simp -implicitDefEqProofs [-List.map_take, e57, e97, e98, cj, w_i]
    exact ⟨n - 1, by omega, (hI _ _).2 ⟨_, i + 1, _, (by first | rfl | (simp [cItm, cSz, cSk, cBkr, cBks]; done) | (simp [cItm, cSz, cSk, cBkr, cBks]; rfl) | (simp [cItm, cSz, cSk, cBkr, cBks]; and_intros <;> rfl)), by simp [e1], by simp [e2], by simp [e7], by simp [e9], by simp [e55], by simp [e56], by simp, by omega⟩⟩
end Go.Proofs.YtonkhpeahbjmmaaDoorF
end

section
/- The law SpreadLeast. -/
set_option maxRecDepth 8192
set_option maxHeartbeats 2000000
namespace Go.Proofs.YtonkhpeahbjmmaaDoorF
open Go Go.Proofs.Vm

def ownP (src : ByteArray) (l : List Par) : List Par := l.filter fun p => decide (p.1 = src)
theorem ownP_take {src : ByteArray} {l : List Par} {i : Nat} (h : i < l.length) : ownP src (l.take (i + 1)) = if l[i].1 = src then ownP src (l.take i) ++ [l[i]] else ownP src (l.take i) := by
  unfold ownP
  rw [List.take_add_one, List.getElem?_eq_getElem h, Option.toList_some, List.filter_append]
  by_cases c : l[i].1 = src <;> simp [c]
theorem ownP_len (src : ByteArray) (l : List Par) : (ownP src l).length ≤ l.length := List.length_filter_le _ _
theorem ownP_mem {src : ByteArray} {l : List Par} {p : Par} (h : p ∈ ownP src l) : p ∈ l := (List.mem_filter.1 h).1
theorem lawSpreadLeast {seed rows cols levels bits again : Int} {l : List Par} {src : ByteArray} (s0 : 0 ≤ seed) (s1 : seed < 18446744073709551616) (a0 : 0 ≤ again) (a1 : again < 256) (hl : l.length < 4611686018427387904) (hz : ∀ p ∈ l, p.1.size < 4611686018427387904 ∧ p.2.size < 4611686018427387904) (hsz : src.size < 4611686018427387904) : TV.pu 6 [.agg (cSz seed rows cols levels bits), .one (.arr (l.map cPar)), cS src, cI .u8 again] = some (cB true) := by
  refine run6 (by simp) ?_
  have hA := law_awake
  have hF := law_few hl hz
  by_cases hb : 1 ≤ levels ∧ levels ≤ 16 ∧ 1 ≤ bits ∧ bits ≤ 256 ∧ 1 ≤ rows ∧ rows ≤ 7 ∧ 1 ≤ cols ∧ cols ≤ 256
  rotate_left
  · have hN := sp_New_arg s0 s1 hb
    simp only [cSk, cBkr, zSk, List.map_nil] at hN
    simp -implicitDefEqProofs [Tryd.f6, cSz, hN, hA, vmove, isNil, vstore, cellsOf?, Ent.wrO, wr]
  obtain ⟨rows, rfl⟩ := Int.eq_ofNat_of_zero_le (show 0 ≤ rows by omega)
  obtain ⟨cols, rfl⟩ := Int.eq_ofNat_of_zero_le (show 0 ≤ cols by omega)
  obtain ⟨levels, rfl⟩ := Int.eq_ofNat_of_zero_le (show 0 ≤ levels by omega)
  obtain ⟨bits, rfl⟩ := Int.eq_ofNat_of_zero_le (show 0 ≤ bits by omega)
  have hb' : 1 ≤ levels ∧ levels ≤ 16 ∧ 1 ≤ bits ∧ bits ≤ 256 ∧ 1 ≤ rows ∧ rows ≤ 7 ∧ 1 ≤ cols ∧ cols ≤ 256 := by omega
  have hN := sp_New s0 s1 hb'
  have hg := new_good s0 s1 hb'
  have he0 := est_new hg src
  obtain ⟨S, hS⟩ : ∃ S, newSk seed rows cols levels bits = S := ⟨_, rfl⟩
  rw [hS] at hN hg he0
  simp only [cSk, cBkr, cBks] at hN
  cases hfw : fewP l with
  | false =>
    rw [hfw] at hF
    simp -implicitDefEqProofs [Tryd.f6, cSz, hN, hA, hF, vmove, isNil, vstore, cellsOf?, Ent.wrO, wr]
  | true =>
  rw [hfw] at hF
  by_cases c1 : 30 < cols
  · have c1' : 30 < (cols : Int) := by omega
    simp -implicitDefEqProofs [Tryd.f6, cSz, hN, hA, hF, c1', vmove, isNil, vstore, cellsOf?, Ent.wrO, wr]
  have c1n : cols ≤ 30 := by omega
  have c1' : ¬ 30 < (cols : Int) := by omega
  by_cases c2 : 100 < bits
  · have c2' : 100 < (bits : Int) := by omega
    simp -implicitDefEqProofs [Tryd.f6, cSz, hN, hA, hF, c1', c2', vmove, isNil, vstore, cellsOf?, Ent.wrO, wr]
  have c2n : bits ≤ 100 := by omega
  have c2' : ¬ 100 < (bits : Int) := by omega
  by_cases c3 : 100 < src.size
  · have c3' : 100 < (src.size : Int) := by omega
    simp -implicitDefEqProofs [Tryd.f6, cSz, hN, hA, hF, c1', c2', c3', vmove, isNil, vstore, cellsOf?, Ent.wrO, wr]
  have c3n : src.size ≤ 100 := by omega
  have c3' : ¬ 100 < (src.size : Int) := by omega
  simp -implicitDefEqProofs [Tryd.f6, cSz, hN, hF, c1', c2', c3', vmove, isNil, vstore, cellsOf?, Ent.wrO, wr]
  have h60 : l.length ≤ 60 := by
    unfold fewP at hfw
    simp only [Bool.and_eq_true, decide_eq_true_eq] at hfw
    exact hfw.2
  have hsm : ∀ p ∈ l, p.1.size ≤ 100 ∧ p.2.size ≤ 100 := fun p hp => by
    unfold fewP at hfw
    simp only [Bool.and_eq_true, decide_eq_true_eq, List.all_eq_true] at hfw
    exact hfw.1 p hp
  have hE := fun (T : Skt) (hT : Good T) => sp_Estimate (src := src) hT.1 (lens_of hT.2) (by omega)
  obtain ⟨I, hI⟩ : ∃ I : Nat → St → Prop, ∀ n s', I n s' ↔ (∃ e i v own A L, s' = ⟨e, .opn [(cSz seed rows cols levels bits).map .c] false :: .opn [(cSk S).map .c] false :: .clo [] false :: .clo (own.map cPar) false :: .opn [(cSk A).map .c] false :: L⟩ ∧ e 1 = .one (.c (.arr (l.map cPar))) ∧ e 2 = vS src ∧ e 3 = vI .u8 again ∧ e 9 = .one (.ptr ⟨1, 0, 0, 1⟩) ∧ e 11 = .one (.sl 3 0 own.length own.length) ∧ e 12 = .one (.ptr ⟨4, 0, 0, 1⟩) ∧ e 13 = vI .i64 v ∧ e 56 = .one (.c (.arr (l.map cPar))) ∧ e 57 = vI .i64 l.length ∧ e 58 = vI .i64 (i : Nat) ∧ (i + n = l.length) ∧ (ownP src (l.take i) = own) ∧ (fedP S (l.take i) = A) ∧ (estB A src = v)) := ⟨_, fun _ _ => Iff.rfl⟩
  refine wpL_ind I ?_ l.length _ ((hI _ _).2 ⟨_, 0, 0, [], S, _, (by first | rfl | (simp [cSz, cSk, cBkr, cBks]; done) | (simp [cSz, cSk, cBkr, cBks]; rfl) | (simp [cSz, cSk, cBkr, cBks]; and_intros <;> rfl)), by simp, by simp, by simp, by simp, by simp, by simp, by simp, by simp, by simp, by simp, by omega, by simp [ownP], by simp [fedP], he0⟩)
  intro n stI hstI
  obtain ⟨e, i, v, own, A, L, rfl, e1, e2, e3, e9, e11, e12, e13, e56, e57, e58, hn, ho, hAe, hv⟩ := (hI _ _).1 hstI
  have hga : Good A := by rw [← hAe]; exact fedP_good hg
  have hol : own.length ≤ 60 := by rw [← ho]; have := ownP_len src (l.take i); rw [List.length_take] at this; omega
  by_cases ci : i < l.length
  · have w_i : IntKind.i64.wrap ((i : Int) + 1) = ((i + 1 : Nat) : Int) := by rw [w64_id (by omega) (by omega)]; omega
    have hsp := hsm _ (List.getElem_mem ci)
    have hAdd := sp_AddP hga l[i] (by omega)
    have hot := ownP_take (src := src) ci
    have hft := fedP_take (S := S) ci
    rw [hAe] at hft
    rw [ho] at hot
    have hgb := addP_good l[i] hga
    have hEb := hE _ hgb
    have hle := est_addP hga l[i] src
    rw [← hft] at hAdd hEb hle
    obtain ⟨y, hy⟩ : ∃ y, l[i] = y := ⟨_, rfl⟩
    have hcl : cPar l[i] = [.v (.string y.1), .v (.string y.2)] := by rw [hy]; rfl
    rw [hy] at hsp hAdd hot
    obtain ⟨B, hB⟩ : ∃ B, fedP S (l.take (i + 1)) = B := ⟨_, rfl⟩
    rw [hB] at hAdd hEb hle
    rw [hv] at hle
    obtain ⟨u, hu⟩ : ∃ u, estB B src = u := ⟨_, rfl⟩
    rw [hu] at hEb hle
    have hle' : ¬ u < v := by omega
    simp only [cSk, cBkr, cBks] at hAdd hEb
    have k1 : 32 * (own.length + 1) ≤ 140737488355328 := by omega
    have k2 : own.length + 1 ≤ 4611686018427387904 := by omega
    have hal : AllLen (own.map cPar) 2 := by intro x hx; obtain ⟨y, _, rfl⟩ := List.mem_map.1 hx; rfl
    by_cases d : y.1 = src
    · rw [if_pos d] at hot
      rw [d] at hAdd
      simp -implicitDefEqProofs [e2, e11, e12, e13, e56, e57, e58, ci, w_i, hcl, hAdd, hEb, hle', d, sbin_eql, cSz, cSk, cBkr, cBks, vmove, isNil, vstore, cellsOf?, Ent.wrO, wr, vappend_sp es57 es57 el63, vbuildSlice_eq es57 el63, fzParts, setAll, rchParts, rch, elemsOf, k1, k2, hal]
      exact ⟨n - 1, by omega, (hI _ _).2 ⟨_, i + 1, u, own ++ [y], B, _, (by first | rfl | (simp [d, cSz, cPar, cSk, cBkr, cBks]; done) | (simp [d, cSz, cPar, cSk, cBkr, cBks]; rfl) | (simp [d, cSz, cPar, cSk, cBkr, cBks]; and_intros <;> rfl)), by simp [e1], by simp [e2], by simp [e3], by simp [e9], by simp, by simp [e12], by simp, by simp [e56], by simp [e57], by simp, by omega, hot, hB, hu⟩⟩
    · rw [if_neg d] at hot
      simp -implicitDefEqProofs [e2, e12, e13, e56, e57, e58, ci, w_i, hcl, hAdd, hEb, hle', d, toList_inj, sbin_eql, cSz, cSk, cBkr, cBks, vmove, isNil, vstore, cellsOf?, Ent.wrO, wr]
      exact ⟨n - 1, by omega, (hI _ _).2 ⟨_, i + 1, u, own, B, _, (by first | rfl | (simp [cSz, cPar, cSk, cBkr, cBks]; done) | (simp [cSz, cPar, cSk, cBkr, cBks]; rfl) | (simp [cSz, cPar, cSk, cBkr, cBks]; and_intros <;> rfl)), by simp [e1], by simp [e2], by simp [e3], by simp [e9], by simp [e11], by simp [e12], by simp, by simp [e56], by simp [e57], by simp, by omega, hot, hB, hu⟩⟩
  have hil : l.take i = l := List.take_of_length_le (by omega)
  rw [hil] at ho hAe
  have hgo : Good (fedP S own) := fedP_good hg
  have hFed := law_fed (l := own) hg (by omega) fun p hp => by have := hsm p (ownP_mem (by rw [ho]; exact hp)); omega
  have hEo := hE _ hgo
  have hEa := hE _ hga
  rw [hv] at hEa
  have hle : estB (fedP S own) src ≤ v := by rw [← hv, ← hAe, ← ho]; exact est_own hg _ l src
  obtain ⟨O, hO⟩ : ∃ O, fedP S own = O := ⟨_, rfl⟩
  rw [hO] at hFed hEo hle
  obtain ⟨u, hu⟩ : ∃ u, estB O src = u := ⟨_, rfl⟩
  rw [hu] at hEo hle
  have hle' : ¬ v < u := by omega
  have hotk : (own.map cPar).take own.length = own.map cPar := List.take_of_length_le (by simp)
  simp only [cSk, cBkr, cBks] at hFed hEo hEa
  by_cases cl : l.length = 0
  · have cli : ¬ 0 < (l.length : Int) := by omega
    simp -implicitDefEqProofs [e1, e2, e9, e11, e12, e13, e56, e57, e58, cl, hFed, hEo, hEa, hA, hle', hotk, cSz, cSk, cBkr, cBks, rcha, rch, frzAll, Ent.frz, vmove, isNil]
  · have cln : 0 < l.length := by omega
    have cli : 0 < (l.length : Int) := by omega
    obtain ⟨a, rfl⟩ := Int.eq_ofNat_of_zero_le a0
    have hlt : a % l.length < l.length := Nat.mod_lt _ cln
    obtain ⟨j, hj⟩ : ∃ j, a % l.length = j := ⟨_, rfl⟩
    rw [hj] at hlt
    have hji : (a : Int) % (l.length : Int) = (j : Nat) := by rw [← hj]; omega
    have hjt : (a : Int).tmod (l.length : Int) = (j : Nat) := by rw [Int.tmod_eq_emod_of_nonneg (by omega)]; exact hji
    have wa : IntKind.i64.wrap (a : Int) = a := w64_id (by omega) (by omega)
    have wj : IntKind.i64.wrap (j : Int) = j := w64_id (by omega) (by omega)
    have hAdd := sp_AddP hga l[j] (by have := hsm _ (List.getElem_mem hlt); omega)
    have hEb := hE _ (addP_good l[j] hga)
    rw [show estB (addP A l[j]) src = v by rw [← hAe, est_again hg (List.getElem_mem hlt), hAe, hv]] at hEb
    obtain ⟨B, hB⟩ : ∃ B, addP A l[j] = B := ⟨_, rfl⟩
    rw [hB] at hAdd hEb
    obtain ⟨y, hy⟩ : ∃ y, l[j] = y := ⟨_, rfl⟩
    have hcl : cPar l[j] = [.v (.string y.1), .v (.string y.2)] := by rw [hy]; rfl
    rw [hy] at hAdd
    simp only [cSk, cBkr, cBks] at hAdd hEb
    simp -implicitDefEqProofs [e1, e2, e3, e9, e11, e12, e13, e57, e58, ci, cln, bin_rem (show (l.length : Int) ≠ 0 by omega), hjt, wa, hlt, hcl, hAdd, hEb, hFed, hEo, hA, hle', hotk, cSz, cSk, cBkr, cBks, rcha, rch, frzAll, Ent.frz, vmove, isNil, vstore, cellsOf?, Ent.wrO, wr]
end Go.Proofs.YtonkhpeahbjmmaaDoorF
end

section
/- The law SpreadAlone. -/
set_option maxRecDepth 8192
set_option maxHeartbeats 2000000
namespace Go.Proofs.YtonkhpeahbjmmaaDoorF
open Go Go.Proofs.Vm

def cSt (s : ByteArray) : List CV := [.v (.string s)]
theorem itm_eql {H : Hp} {a b : ByteArray} {x y : Int} {p q : Operand} : vbin Tryd.prog H .eql 61 p q (.agg [.c (.v (.string a)), .c (.v (.int .i64 x))]) (.agg [.c (.v (.string b)), .c (.v (.int .i64 y))]) = qa (vB (a == b && x == y)) :=
  (bin_st2 (P := Tryd.prog) (t := 61) (pv_of Tryd.underlying61) (by kernel_rfl) (by kernel_rfl) (by kernel_rfl) (by kernel_rfl) (by kernel_rfl) (by kernel_rfl) (by kernel_rfl) (by kernel_rfl) us9 (by kernel_rfl)).1
theorem lawSpreadAlone {seed rows cols levels bits : Int} {l : List ByteArray} {src : ByteArray} (s0 : 0 ≤ seed) (s1 : seed < 18446744073709551616) (hl : l.length < 4611686018427387904) (hz : ∀ t ∈ l, t.size < 4611686018427387904) (hsz : src.size < 4611686018427387904) : TV.pu 7 [.agg (cSz seed rows cols levels bits), cS src, .one (.arr (l.map cSt))] = some (cB true) := by
  refine run7 (by simp) ?_
  have hA := law_awake
  by_cases hb : 1 ≤ levels ∧ levels ≤ 16 ∧ 1 ≤ bits ∧ bits ≤ 256 ∧ 1 ≤ rows ∧ rows ≤ 7 ∧ 1 ≤ cols ∧ cols ≤ 256
  rotate_left
  · have hN := sp_New_arg s0 s1 hb
    simp only [cSk, cBkr, zSk, List.map_nil] at hN
    simp -implicitDefEqProofs [Tryd.f7, cSz, hN, hA, vmove, isNil, vstore, cellsOf?, Ent.wrO, wr]
  obtain ⟨rows, rfl⟩ := Int.eq_ofNat_of_zero_le (show 0 ≤ rows by omega)
  obtain ⟨cols, rfl⟩ := Int.eq_ofNat_of_zero_le (show 0 ≤ cols by omega)
  obtain ⟨levels, rfl⟩ := Int.eq_ofNat_of_zero_le (show 0 ≤ levels by omega)
  obtain ⟨bits, rfl⟩ := Int.eq_ofNat_of_zero_le (show 0 ≤ bits by omega)
  have hb' : 1 ≤ levels ∧ levels ≤ 16 ∧ 1 ≤ bits ∧ bits ≤ 256 ∧ 1 ≤ rows ∧ rows ≤ 7 ∧ 1 ≤ cols ∧ cols ≤ 256 := by omega
  have hN := sp_New s0 s1 hb'
  have hg := new_good s0 s1 hb'
  have hlen : (newSk seed rows cols levels bits).rows.length = rows := by simp [newSk]
  have hone := fun (h : src ≠ ByteArray.empty) (h' : l ≠ []) => fedT_alone hg h h'
  have hnil := lst_new (most := 0) hg (new_lies seed rows cols levels bits []) rfl
  have he0 := est_new hg src
  have hsrc : ∀ r ∈ (fedT (newSk seed rows cols levels bits) src l).rows, ∀ b ∈ r, b.src = ByteArray.empty ∨ b.src = src := fun r hr b hb => by
    rcases fed_src hg (z := nBk seed levels bits) rfl rfl (new_lies seed rows cols levels bits []) hr hb with h | ⟨p, hp, e⟩
    · exact .inl h
    · obtain ⟨t, _, rfl⟩ := List.mem_map.1 hp
      exact .inr e.symm
  obtain ⟨S, hS⟩ : ∃ S, newSk seed rows cols levels bits = S := ⟨_, rfl⟩
  rw [hS] at hN hg hlen hnil he0
  simp only [hS] at hone hsrc
  simp only [cSk, cBkr, cBks] at hN
  by_cases c0 : 60 < l.length
  · have c0' : 60 < (l.length : Int) := by omega
    simp -implicitDefEqProofs [Tryd.f7, cSz, hN, hA, c0', hlen, vmove, isNil, vstore, cellsOf?, Ent.wrO, wr]
  have c0n : l.length ≤ 60 := by omega
  have c0' : ¬ 60 < (l.length : Int) := by omega
  by_cases c1 : 30 < cols
  · have c1' : 30 < (cols : Int) := by omega
    simp -implicitDefEqProofs [Tryd.f7, cSz, hN, hA, c0', c1', hlen, vmove, isNil, vstore, cellsOf?, Ent.wrO, wr]
  have c1n : cols ≤ 30 := by omega
  have c1' : ¬ 30 < (cols : Int) := by omega
  by_cases c2 : 100 < bits
  · have c2' : 100 < (bits : Int) := by omega
    simp -implicitDefEqProofs [Tryd.f7, cSz, hN, hA, c0', c1', c2', hlen, vmove, isNil, vstore, cellsOf?, Ent.wrO, wr]
  have c2n : bits ≤ 100 := by omega
  have c2' : ¬ 100 < (bits : Int) := by omega
  by_cases ce : src = ByteArray.empty
  · subst ce
    simp -implicitDefEqProofs [Tryd.f7, cSz, hN, hA, c0', c1', c2', hlen, sbin_eql, vmove, isNil, vstore, cellsOf?, Ent.wrO, wr]
  have htl : ¬ src.toList = [] := fun h => ce (toList_inj.1 (h.trans (show [] = ByteArray.empty.toList by simp)))
  by_cases c3 : 100 < src.size
  · have c3' : 100 < (src.size : Int) := by omega
    simp -implicitDefEqProofs [Tryd.f7, cSz, hN, hA, c0', c1', c2', c3', hlen, htl, sbin_eql, vmove, isNil, vstore, cellsOf?, Ent.wrO, wr]
  have c3n : src.size ≤ 100 := by omega
  have c3' : ¬ 100 < (src.size : Int) := by omega
  simp -implicitDefEqProofs [Tryd.f7, cSz, hN, c0', c1', c2', c3', hlen, htl, sbin_eql, vmove, isNil, vstore, cellsOf?, Ent.wrO, wr]
  obtain ⟨I, hI⟩ : ∃ I : Nat → St → Prop, ∀ n s', I n s' ↔ (∃ e i L, s' = ⟨e, .opn [(cSz seed rows cols levels bits).map .c] false :: .opn [(cSk (fedT S src (l.take i))).map .c] false :: L⟩ ∧ e 1 = vS src ∧ e 2 = .one (.c (.arr (l.map cSt))) ∧ e 7 = .one (.ptr ⟨1, 0, 0, 1⟩) ∧ e 74 = .one (.c (.arr (l.map cSt))) ∧ e 75 = vI .i64 l.length ∧ e 76 = vI .i64 (i : Nat) ∧ (i + n = l.length)) := ⟨_, fun _ _ => Iff.rfl⟩
  refine wpL_ind I ?_ l.length _ ((hI _ _).2 ⟨_, 0, _, (by first | rfl | (simp [cSz, cSk, cBkr, cBks, fedT, fedP]; done) | (simp [cSz, cSk, cBkr, cBks, fedT, fedP]; rfl) | (simp [cSz, cSk, cBkr, cBks, fedT, fedP]; and_intros <;> rfl)), by simp, by simp, by simp, by simp, by simp, by simp, by omega⟩)
  intro n stI hstI
  obtain ⟨e, i, L, rfl, e1, e2, e7, e74, e75, e76, hn⟩ := (hI _ _).1 hstI
  by_cases ci : i < l.length
  · have w_i : IntKind.i64.wrap ((i : Int) + 1) = ((i + 1 : Nat) : Int) := by rw [w64_id (by omega) (by omega)]; omega
    have hgi := fedT_good hg src (l.take i)
    obtain ⟨t, ht⟩ : ∃ t, l[i] = t := ⟨_, rfl⟩
    have hti := hz _ (List.getElem_mem ci)
    have hcl : cSt l[i] = [.v (.string t)] := by rw [ht]; rfl
    rw [ht] at hti
    by_cases d : 100 < t.size
    · have d' : 100 < (t.size : Int) := by omega
      simp -implicitDefEqProofs [-List.map_take, e74, e75, e76, ci, hcl, d', hA, cSk, cBkr, cBks, vmove, isNil]
    have dn : t.size ≤ 100 := by omega
    have d' : ¬ 100 < (t.size : Int) := by omega
    have hAdd := sp_AddP hgi (src, t) (by dsimp only; omega)
    have htk := fedT_take (S := S) (src := src) ci
    rw [ht] at htk
    rw [← htk] at hAdd
    simp only [cSk, cBkr, cBks] at hAdd
    simp -implicitDefEqProofs [-List.map_take, e1, e7, e74, e75, e76, ci, hcl, d', hAdd, w_i, cSk, cBkr, cBks, vmove, isNil, vstore, cellsOf?, Ent.wrO, wr]
    exact ⟨n - 1, by omega, (hI _ _).2 ⟨_, i + 1, _, (by first | rfl | (simp [cSk, cBkr, cBks]; done) | (simp [cSk, cBkr, cBks]; rfl) | (simp [cSk, cBkr, cBks]; and_intros <;> rfl)), by simp [e1], by simp [e2], by simp [e7], by simp [e74], by simp [e75], by simp, by omega⟩⟩
  have hil : l.take i = l := List.take_of_length_le (by omega)
  rw [hil]
  have hgl := fedT_good hg src l
  have hE := sp_Estimate (src := src) hgl.1 (lens_of hgl.2) (by omega)
  have hL := sp_List (most := 0) hgl.1 (lens_of hgl.2) fun r hr b hb => by
    rcases hsrc r hr b hb with h | h
    · rw [h]; decide
    · rw [h]; omega
  by_cases cl : l = []
  · subst cl
    have hT : fedT S src [] = S := rfl
    rw [hT] at hE hL
    rw [hnil] at hL
    rw [he0] at hE
    simp only [cSk, cBkr, cBks, List.map_nil] at hE hL
    rw [hT]
    simp -implicitDefEqProofs [e1, e2, e7, e74, e75, e76, hE, hL, hA, cSk, cBkr, cBks, vmove, isNil]
  · obtain ⟨h1, h2⟩ := hone ce cl
    rw [h1] at hL
    obtain ⟨v, hv⟩ : ∃ v, estB (fedT S src l) src = v := ⟨_, rfl⟩
    rw [hv] at hE hL h2
    have cl0 : ¬ l.length = 0 := fun h => cl (List.eq_nil_of_length_eq_zero h)
    simp only [cSk, cBkr, cBks, List.map_cons, List.map_nil, cItm] at hE hL
    simp -implicitDefEqProofs [e1, e2, e7, e75, e76, ci, hE, hL, hA, h2, cl0, itm_eql, bs_self, cSk, cBkr, cBks, vmove, isNil, cellsOf?, wr]
end Go.Proofs.YtonkhpeahbjmmaaDoorF
end

section
/- The laws of all data. -/
namespace Go.Proofs.YtonkhpeahbjmmaaDoorF
open Go Go.Proofs.Vm

theorem isI_one {k : IntKind} {l : List CV} (h : isI k l) : ∃ n, l = [.v (.int k n)] ∧ k.min ≤ n ∧ n ≤ k.max := by
  obtain ⟨n, hx, hw⟩ := h
  simp only [Lit.wf, Bool.and_eq_true, decide_eq_true_eq] at hw
  exact ⟨n, hx, hw⟩
theorem u64_good {l : List CV} (h : isI .u64 l) : ∃ n, l = [.v (.int .u64 n)] ∧ 0 ≤ n ∧ n < 18446744073709551616 := by
  obtain ⟨n, rfl, h1, h2⟩ := isI_one h
  have e1 : IntKind.u64.min = 0 := rfl
  have e2 : IntKind.u64.max = 18446744073709551615 := rfl
  exact ⟨n, rfl, by omega, by omega⟩
theorem u8_good {l : List CV} (h : isI .u8 l) : ∃ n, l = [.v (.int .u8 n)] ∧ 0 ≤ n ∧ n < 256 := by
  obtain ⟨n, rfl, h1, h2⟩ := isI_one h
  have e1 : IntKind.u8.min = 0 := rfl
  have e2 : IntKind.u8.max = 255 := rfl
  exact ⟨n, rfl, by omega, by omega⟩
theorem i64_good {l : List CV} (h : isI .i64 l) : ∃ n, l = [.v (.int .i64 n)] ∧ -9223372036854775808 ≤ n ∧ n < 9223372036854775808 := by
  obtain ⟨n, rfl, h1, h2⟩ := isI_one h
  have e1 : IntKind.i64.min = -9223372036854775808 := rfl
  have e2 : IntKind.i64.max = 9223372036854775807 := rfl
  exact ⟨n, rfl, by omega, by omega⟩
theorem bits_good {l : List CV} (h : good53 l) : ∃ r : List Bool, l = [cBr r] ∧ r.length ≤ 140737488351232 := by
  obtain ⟨L, rfl, hg, hw⟩ := h
  obtain ⟨b, rfl, _⟩ := map_of (f := cB1) (g := fun _ => True) fun e he => by obtain ⟨x, hx⟩ := (hg e he).2; exact ⟨x, hx, trivial⟩
  rw [List.length_map] at hw
  exact ⟨b, rfl, by omega⟩
theorem brows_good {l : List CV} (h : good48 l) : ∃ rows : List (List Bool), l = [cBrs rows] ∧ rows.length < 4611686018427387904 ∧ ∀ x ∈ rows, x.length < 4611686018427387904 := by
  obtain ⟨L, rfl, hg, hw⟩ := h
  obtain ⟨b, rfl, hb⟩ := map_of (f := fun r : List Bool => [cBr r]) (g := fun r => r.length ≤ 140737488351232) fun e he => by
    obtain ⟨x, hx, h⟩ := bits_good (hg e he).2
    exact ⟨x, hx, h⟩
  rw [List.length_map] at hw
  exact ⟨b, rfl, by omega, fun x hx => by have := hb x hx; omega⟩
theorem bkt_good {l : List CV} (h : good52 l) : ∃ b : Bkt, l = cBk b ∧ LensM b.m ∧ 0 ≤ b.m.s ∧ b.m.s < 18446744073709551616 ∧ b.src.size ≤ 140737488351232 := by
  obtain ⟨_, _, rfl, ⟨_, _, rfl, h1, h2⟩, _, _, rfl, ⟨src, rfl, h3⟩, h4⟩ := h
  obtain ⟨s, rfl, s0, s1⟩ := u64_good h1
  obtain ⟨rows, rfl, hr⟩ := brows_good h2
  obtain ⟨lev, rfl, _⟩ := i64_good h4
  exact ⟨⟨⟨s, rows⟩, src, lev⟩, rfl, hr, s0, s1, h3⟩
theorem bks_good {l : List CV} (h : good47 l) : ∃ r : List Bkt, l = [cBks r] ∧ r.length * 56 ≤ 140737488351232 ∧ ∀ b ∈ r, LensM b.m ∧ 0 ≤ b.m.s ∧ b.m.s < 18446744073709551616 ∧ b.src.size ≤ 140737488351232 := by
  obtain ⟨L, rfl, hg, hw⟩ := h
  obtain ⟨b, rfl, hb⟩ := map_of (f := cBk) (g := fun b => LensM b.m ∧ 0 ≤ b.m.s ∧ b.m.s < 18446744073709551616 ∧ b.src.size ≤ 140737488351232) fun e he => by
    obtain ⟨x, hx, h⟩ := bkt_good (hg e he).2
    exact ⟨x, hx, h⟩
  rw [List.length_map] at hw
  exact ⟨b, rfl, hw, hb⟩
theorem skt_good {l : List CV} (h : good25 l) : ∃ S : Skt, l = cSk S ∧ SeedS S ∧ LensS S ∧ LensS7 S ∧ ∀ r ∈ S.rows, ∀ b ∈ r, b.src.size ≤ 140737488351232 := by
  obtain ⟨_, _, rfl, h1, L, rfl, hg, hw⟩ := h
  obtain ⟨s, rfl, s0, s1⟩ := u64_good h1
  obtain ⟨rows, rfl, hr⟩ := map_of (f := fun r : List Bkt => [cBks r]) (g := fun r => r.length * 56 ≤ 140737488351232 ∧ ∀ b ∈ r, LensM b.m ∧ 0 ≤ b.m.s ∧ b.m.s < 18446744073709551616 ∧ b.src.size ≤ 140737488351232) fun e he => by
    obtain ⟨x, hx, h⟩ := bks_good (hg e he).2
    exact ⟨x, hx, h⟩
  rw [List.length_map] at hw
  refine ⟨⟨s, rows⟩, rfl, ⟨s0, s1, fun r hr' b hb => ?_⟩, ⟨?_, fun r hr' => ⟨?_, fun b hb => ?_⟩⟩, ⟨?_, fun r hr' => ?_⟩, fun r hr' b hb => ?_⟩
  · have := (hr r hr').2 b hb; exact ⟨this.2.1, this.2.2.1⟩
  · show rows.length < _; omega
  · have := (hr r hr').1; omega
  · exact ((hr r hr').2 b hb).1
  · show 24 * rows.length ≤ _; omega
  · have := (hr r hr').1; omega
  · exact ((hr r hr').2 b hb).2.2.2
theorem pairs_good {l : List CV} (h : good57 l) : ∃ p : List Par, l = [.arr (p.map cPar)] ∧ p.length < 4611686018427387904 ∧ ∀ x ∈ p, x.1.size < 4611686018427387904 ∧ x.2.size < 4611686018427387904 := by
  obtain ⟨L, rfl, hg, hw⟩ := h
  obtain ⟨b, rfl, hb⟩ := map_of (f := cPar) (g := fun x => x.1.size < 4611686018427387904 ∧ x.2.size < 4611686018427387904) fun e he => by
    obtain ⟨_, _, _, rfl, ⟨s, rfl, h1⟩, ⟨u, rfl, h2⟩⟩ := hg e he
    exact ⟨(s, u), rfl, by dsimp only; omega, by dsimp only; omega⟩
  rw [List.length_map] at hw
  exact ⟨b, rfl, by omega, hb⟩
theorem strs_good {l : List CV} (h : good66 l) : ∃ b : List ByteArray, l = [.arr (b.map cSt)] ∧ b.length < 4611686018427387904 ∧ ∀ x ∈ b, x.size < 4611686018427387904 := by
  obtain ⟨L, rfl, hg, hw⟩ := h
  obtain ⟨b, rfl, hb⟩ := map_of (f := cSt) (g := fun x => x.size < 4611686018427387904) fun e he => by obtain ⟨x, hx, h⟩ := (hg e he).2; exact ⟨x, hx, by omega⟩
  rw [List.length_map] at hw
  exact ⟨b, rfl, by omega, hb⟩
theorem size_good {l : List CV} (h : good56 l) : ∃ s a b c d, l = cSz s a b c d ∧ 0 ≤ s ∧ s < 18446744073709551616 := by
  obtain ⟨_, _, rfl, h1, _, _, rfl, h2, _, _, rfl, h3, _, _, rfl, h4, h5⟩ := h
  obtain ⟨s, rfl, s0, s1⟩ := u64_good h1
  obtain ⟨a, rfl, _⟩ := i64_good h2
  obtain ⟨b, rfl, _⟩ := i64_good h3
  obtain ⟨c, rfl, _⟩ := i64_good h4
  obtain ⟨d, rfl, _⟩ := i64_good h5
  exact ⟨s, a, b, c, d, rfl, s0, s1⟩
theorem cv_one {x y : CV} (h : [x] = [y]) : x = y := by cases h; rfl
theorem lawSpreadTurns_all : ∀ l, goodsSpreadTurns l → TV.pu 3 l = some (cB true) := by
  rintro l ⟨a, r, rfl, ⟨x, rfl, _, h1⟩, b, r2, rfl, ⟨y, rfl, h2⟩, c, r3, rfl, ⟨z, rfl, h3⟩, d, r4, rfl, ⟨u, rfl, h4⟩, rfl⟩
  obtain ⟨S, rfl, hs, hl, h7, hz⟩ := skt_good h1
  obtain ⟨k, hy, hk⟩ := h2
  obtain ⟨t, hz', ht⟩ := h3
  obtain ⟨n, hu, _⟩ := i64_good h4
  rw [cv_one hy, cv_one hz', cv_one hu]
  exact lawSpreadTurns hs hl h7 hz (by omega) (by omega)
theorem lawSpreadNews_all : ∀ l, goodsSpreadNews l → TV.pu 4 l = some (cB true) := by
  rintro l ⟨a, r, rfl, ⟨x, rfl, h1⟩, b, r2, rfl, ⟨y, rfl, h2⟩, c, r3, rfl, ⟨z, rfl, h3⟩, d, r4, rfl, ⟨u, rfl, h4⟩, e, r5, rfl, ⟨v, rfl, h5⟩, rfl⟩
  obtain ⟨s, hx, s0, s1⟩ := u64_good h1
  obtain ⟨n2, hy, _⟩ := i64_good h2
  obtain ⟨n3, hz, _⟩ := i64_good h3
  obtain ⟨n4, hu, _⟩ := i64_good h4
  obtain ⟨n5, hv, _⟩ := i64_good h5
  rw [cv_one hx, cv_one hy, cv_one hz, cv_one hu, cv_one hv]
  exact lawSpreadNews s0 s1
theorem lawSpreadSeen_all : ∀ l, goodsSpreadSeen l → TV.pu 5 l = some (cB true) := by
  rintro l ⟨a, r, rfl, ⟨x, rfl, _, h1⟩, b, r2, rfl, ⟨y, rfl, h2⟩, c, r3, rfl, ⟨z, rfl, h3⟩, rfl⟩
  obtain ⟨s, n1, n2, n3, n4, rfl, s0, s1⟩ := size_good h1
  obtain ⟨p, hy, hp, hq⟩ := pairs_good h2
  obtain ⟨n, hu, _⟩ := i64_good h3
  rw [cv_one hy, cv_one hu]
  exact lawSpreadSeen s0 s1 hp hq
theorem lawSpreadLeast_all : ∀ l, goodsSpreadLeast l → TV.pu 6 l = some (cB true) := by
  rintro l ⟨a, r, rfl, ⟨x, rfl, _, h1⟩, b, r2, rfl, ⟨y, rfl, h2⟩, c, r3, rfl, ⟨z, rfl, h3⟩, d, r4, rfl, ⟨u, rfl, h4⟩, rfl⟩
  obtain ⟨s, n1, n2, n3, n4, rfl, s0, s1⟩ := size_good h1
  obtain ⟨p, hy, hp, hq⟩ := pairs_good h2
  obtain ⟨k, hz, hk⟩ := h3
  obtain ⟨n, hu, i0, i1⟩ := u8_good h4
  rw [cv_one hy, cv_one hz, cv_one hu]
  exact lawSpreadLeast s0 s1 i0 i1 hp hq (by omega)
theorem lawSpreadAlone_all : ∀ l, goodsSpreadAlone l → TV.pu 7 l = some (cB true) := by
  rintro l ⟨a, r, rfl, ⟨x, rfl, _, h1⟩, b, r2, rfl, ⟨y, rfl, h2⟩, c, r3, rfl, ⟨z, rfl, h3⟩, rfl⟩
  obtain ⟨s, n1, n2, n3, n4, rfl, s0, s1⟩ := size_good h1
  obtain ⟨k, hy, hk⟩ := h2
  obtain ⟨p, hz, hp, hq⟩ := strs_good h3
  rw [cv_one hy, cv_one hz]
  exact lawSpreadAlone s0 s1 hp hq (by omega)
theorem lawSpreadOrder_all : ∀ l, goodsSpreadOrder l → TV.pu 8 l = some (cB true) := by
  rintro l ⟨a, r, rfl, ⟨x, rfl, _, h1⟩, b, r2, rfl, ⟨y, rfl, h2⟩, c, r3, rfl, ⟨z, rfl, h3⟩, rfl⟩
  obtain ⟨s, n1, n2, n3, n4, rfl, s0, s1⟩ := size_good h1
  obtain ⟨p, hy, hp, hq⟩ := pairs_good h2
  obtain ⟨k, hz, hk⟩ := h3
  rw [cv_one hy, cv_one hz]
  exact lawSpreadOrder s0 s1 hp hq (by omega)
end Go.Proofs.YtonkhpeahbjmmaaDoorF
end
