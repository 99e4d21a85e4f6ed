/- Steps towards: SignedAlone: a key that shares its cell with no other key, in more than half of the rows, is told as it was added; in any case the answer lies, in some row, within what was added for other keys of its cell there; for every input, without conditions. -/
import Derived.Test.YteaeigpeaneicaaCSignedAlone0
import Derived.Laws.Entries
import Derived.Test.YteaeigpeaneicaaProg
import Derived.KernelRfl
import Derived.Deep.Slices
import Derived.ChangeArms
import Derived.ChangeSame
import Derived.SizedLaws
import Derived.WideShapes
import Derived.WalkKit
import Derived.ProofKit
import Derived.OpenShut
import Derived.ShutString
import Derived.ChangeOld
import Derived.Below
import Derived.Shelf.Small.Strs
import Derived.Shelf.Small.Wraps
import Derived.Shelf.Sort.Plain
import Derived.Shelf.Slices.In.SortNone
import Derived.Ground.Names2Prog
import Derived.Sort.Grow
import Derived.Laws.BitsAllLaws
section
/- Regions whose order is open: the theorem. -/
namespace Go.Proofs.Vm
open Go

variable {P : Program}

theorem wr_not_pure {N : Fx} {o : Oper} (h : isWr N o = true) : pureOp P o = false := by
  unfold isWr at h
  unfold pureOp
  split at h
  · rename_i ho
    rw [ho]
  · rename_i c ho
    rw [ho]
    split at h
    · rename_i hc
      simp only [hc]
    · rename_i hc
      simp only [hc]
    · cases h
  · cases h

theorem vwr_len {T : Tab} {N : Fx} (hT : TOk P T) {H : Hp} {ρ : Operand → Option AV} {o : Oper} {a : AV} {L : Hp} (hv : vwr P T N H ρ o = some (a, L)) : H.length ≤ L.length := by
  unfold vwr at hv
  split at hv
  · split at hv
    case h_2 => cases hv
    obtain ⟨H', hst, he⟩ := Option.map_eq_some_iff.1 hv
    cases he
    exact Nat.le_of_eq (vstore_len hst).symm
  · split at hv
    · split at hv
      case h_2 => cases hv
      exact Nat.le_of_eq (vappend_len hv).symm
    · split at hv
      case isFalse => cases hv
      split at hv
      case h_2 => cases hv
      exact (hT.2 _ _ _ _ _ hv).1
    · cases hv
  · cases hv

theorem cellsAt_lt {H : Hp} {p : Pt} {cs : List Cell} (h : cellsAt H p = some cs) : p.id < H.length := by
  unfold cellsAt at h
  split at h
  · rename_i he
    exact (List.getElem?_eq_some_iff.1 he).1
  · rename_i he
    exact (List.getElem?_eq_some_iff.1 he).1
  · cases h

theorem rch_lt {H : Hp} : ∀ (n : Nat) {c : Cell} {x : CV}, fzc n H c = some x → ∀ id, id ∈ rch n H c → id < H.length := by
  intro n
  induction n with
  | zero => intro c x h; cases h
  | succ n ih =>
    have hptr : ∀ {p : Pt} {x : CV}, fzc (n + 1) H (.ptr p) = some x → ∀ id, id ∈ rch (n + 1) H (.ptr p) → id < H.length := by
      intro p x h id hid
      simp only [fzc, rch] at h hid
      split at h
      case h_2 => cases h
      rename_i cs hcs
      obtain ⟨xs, hxs, rfl⟩ := Option.map_eq_some_iff.1 h
      simp only [hcs] at hid
      rcases List.mem_cons.1 hid with rfl | hid
      · exact cellsAt_lt hcs
      · obtain ⟨l, hl, hid⟩ := List.mem_flatten.1 hid
        obtain ⟨c, hc, rfl⟩ := List.mem_map.1 hl
        obtain ⟨j, hj⟩ := List.getElem?_of_mem hc
        obtain ⟨y, _, hy⟩ := (mapO_spec hxs).2 j c hj
        exact ih hy id hid
    intro c x h id hid
    cases c with
    | c y => simp [rch] at hid
    | sl i o m tot =>
      simp only [fzc, rch] at h hid
      split at h
      · rename_i l f he
        have hlt := (List.getElem?_eq_some_iff.1 he).1
        rw [he] at hid
        rcases List.mem_cons.1 hid with rfl | hid
        · exact hlt
        · cases hid
      · rename_i l f he
        have hlt := (List.getElem?_eq_some_iff.1 he).1
        rw [he] at hid
        dsimp only at hid
        split at h
        case isFalse => cases h
        obtain ⟨xs, hxs, rfl⟩ := Option.map_eq_some_iff.1 h
        rcases List.mem_cons.1 hid with rfl | hid
        · exact hlt
        · obtain ⟨l1, hl1, hid⟩ := List.mem_flatten.1 hid
          obtain ⟨e, he, rfl⟩ := List.mem_map.1 hl1
          obtain ⟨l2, hl2, hid⟩ := List.mem_flatten.1 hid
          obtain ⟨c, hc, rfl⟩ := List.mem_map.1 hl2
          obtain ⟨j, hj⟩ := List.getElem?_of_mem he
          obtain ⟨y, _, hy⟩ := (mapO_spec hxs).2 j e hj
          obtain ⟨k, hk⟩ := List.getElem?_of_mem hc
          obtain ⟨z, _, hz⟩ := (mapO_spec hy).2 k c hk
          exact ih hz id hid
      · cases h
    | ptr p => exact hptr h id hid
    | fn f caps =>
      simp only [fzc, rch] at h hid
      obtain ⟨xs, hxs, rfl⟩ := Option.map_eq_some_iff.1 h
      obtain ⟨l, hl, hid⟩ := List.mem_flatten.1 hid
      obtain ⟨c, hc, rfl⟩ := List.mem_map.1 hl
      obtain ⟨j, hj⟩ := List.getElem?_of_mem hc
      obtain ⟨y, _, hy⟩ := (mapO_spec hxs).2 j c hj
      cases c with
      | inl z => cases hid
      | inr p => exact ih hy id hid
    | mp i => cases h

theorem rchl_lt {H : Hp} {l : List Cell} {xs : List CV} (h : mapO (fzc 5 H) l = some xs) {id : Nat} (hid : id ∈ (l.map (rch 5 H)).flatten) : id < H.length := by
  obtain ⟨m, hm, hid⟩ := List.mem_flatten.1 hid
  obtain ⟨c, hc, rfl⟩ := List.mem_map.1 hm
  obtain ⟨j, hj⟩ := List.getElem?_of_mem hc
  obtain ⟨y, _, hy⟩ := (mapO_spec h).2 j c hj
  exact rch_lt 5 hy id hid

theorem rcha_lt {H : Hp} {a : AV} {k : CA} (h : fza H a = some k) {id : Nat} (hid : id ∈ rcha H a) : id < H.length := by
  cases a with
  | one c =>
    obtain ⟨x, hx, rfl⟩ := Option.map_eq_some_iff.1 h
    exact rch_lt 5 hx id hid
  | agg l =>
    obtain ⟨x, hx, rfl⟩ := Option.map_eq_some_iff.1 h
    exact rchl_lt hx hid
  | tup l =>
    obtain ⟨x, hx, rfl⟩ := Option.map_eq_some_iff.1 h
    obtain ⟨m, hm, hid⟩ := List.mem_flatten.1 hid
    obtain ⟨p, hp, rfl⟩ := List.mem_map.1 hm
    obtain ⟨j, hj⟩ := List.getElem?_of_mem hp
    obtain ⟨y, _, hy⟩ := (mapO_spec hx).2 j p hj
    obtain ⟨z, hz, rfl⟩ := Option.map_eq_some_iff.1 hy
    exact rchl_lt hz hid

theorem parts_lt {H : Hp} : ∀ {ps : List (Nat × List Cell)} {qs : List (Nat × List CV)}, fzParts H ps = some qs → ∀ id, id ∈ rchParts H ps → id < H.length := by
  intro ps
  induction ps with
  | nil => intro qs _ id hid; simp [rchParts] at hid
  | cons p r ih =>
    intro qs h id hid
    obtain ⟨i, cs⟩ := p
    rw [fzParts_cons] at h
    rw [rchParts_cons] at hid
    split at h
    case h_2 => cases h
    rename_i x l hx hl
    rcases List.mem_append.1 hid with hid | hid
    · exact rchl_lt hx hid
    · exact ih hl id hid

/-- What is given up was there. -/
theorem given_mem {T : Tab} {nest : Bool} {H : Hp} {nid : Nat} {ρ : Operand → Option AV} {o : Oper} {a : AV} {news : List Ent} {ms : List Nat} (h : vrd P T nest H nid ρ o = some (a, news, ms)) {id : Nat} (hid : id ∈ ms) : id < H.length := by
  have nil : ∀ {r : RR}, r = some (a, news, ms) → (∀ q, r = some q → q.2.2 = []) → False := by
    intro r hr hq
    have := hq _ hr
    dsimp only at this
    rw [this] at hid
    cases hid
  unfold vrd at h
  split at h
  case h_7 =>
    unfold vbuildSlice at h
    split at h
    · split at h
      case h_2 => cases h
      split at h
      case h_2 => cases h
      cases h
      cases hid
    unfold vbuildSlice1 at h
    split at h
    case h_2 => cases h
    split at h
    case h_2 => cases h
    rename_i i z qs hi hz hqs
    split at h
    case isFalse => cases h
    cases h
    exact parts_lt hqs id hid
  case h_21 =>
    split at h
    · exact (nil h (by
        intro q hq
        split at hq
        case h_2 => cases hq
        split at hq
        case h_2 => cases hq
        unfold vlen at hq
        split at hq
        case h_2 => cases hq
        split at hq
        · split at hq
          · split at hq
            · exact congrArg Prod.snd (ofPv_inv (x := some _) hq)
            · cases hq
          · cases hq
        · split at hq
          · exact congrArg Prod.snd (ofPv_inv (x := some _) hq)
          · cases hq
        · split at hq
          · exact congrArg Prod.snd (ofPv_inv hq)
          · cases hq)).elim
    · exact (nil h (by
        intro q hq
        split at hq
        case h_2 => cases hq
        split at hq
        case h_2 => cases hq
        exact congrArg Prod.snd (ofPv_inv hq))).elim
    · exact (nil h (by
        intro q hq
        split at hq
        case h_2 => cases hq
        split at hq
        case h_2 => cases hq
        exact congrArg Prod.snd (ofPv_inv hq))).elim
    · split at h
      case h_2 => cases h
      rename_i fv args hf ha
      unfold vcall at h
      split at h
      case h_2 => cases h
      rename_i g cs ks hcal hks
      split at h
      case h_2 => cases h
      rename_i r hr
      cases h
      split at hid
      · cases hid
      · rcases List.mem_append.1 hid with hid | hid
        · unfold calleeOf at hcal
          split at hcal
          · split at hcal
            case h_2 => cases hcal
            rename_i hfz
            exact rch_lt 5 hfz id hid
          · simp [rcha, rch] at hid
          · cases hcal
        · obtain ⟨l, hl, hid⟩ := List.mem_flatten.1 hid
          obtain ⟨a, haa, rfl⟩ := List.mem_map.1 hl
          obtain ⟨j, hj⟩ := List.getElem?_of_mem haa
          obtain ⟨y, _, hy⟩ := (mapO_spec hks).2 j a hj
          exact rcha_lt hy hid
    · cases h
  all_goals (exact (nil h (by
    intro q hq
    revert hq
    try simp only [vmove, vpick, valloc, vbox, vbuild, vload, vnil, vbin, vbin0, vun, vconvert, vmakeFunc, vmakeSlice, vslice, vfieldAddr, shift, vfield, vindexAddr, vextract, qa, ofPv, one?]
    repeat' split
    all_goals (intro hq; first | (cases hq; rfl) | cases hq))).elim)

section
variable {T : Tab} (hT : TOk P T) {N : Fx} {ops : Array Oper} {B : Nat → Nat → Prop} (C : OpenC P N ops B) {s : Nat → St}
  (hs : ∀ i, i < ops.size → ∃ o, ops[i]? = some o ∧ stepV P T N ops o (s i) = some (s (i + 1)))

def Done (ops : Array Oper) (L : Nat → Prop) (t : Nat) : Prop := ∃ i o, L i ∧ ops[i]? = some o ∧ o.dst = some t

open Classical in
noncomputable def envL (ops : Array Oper) (s : Nat → St) (L : Nat → Prop) (t : Nat) : AV := if Done ops L t then (s ops.size).env t else (s 0).env t

structure Inv (N : Fx) (ops : Array Oper) (s : Nat → St) (L : Nat → Prop) (m : Nat) (X : Cx) (act : Act) : Prop where
  le : m ≤ ops.size
  pre : ∀ (i : Nat) o, i < m → ops[i]? = some o → isWr N o = true → L i
  at_ : m < ops.size → (∃ o, ops[m]? = some o ∧ isWr N o = true) ∧ ¬ L m
  down : Down ops L
  lt : ∀ i, L i → i < ops.size
  H : X.H = (s m).H
  D : ∀ id, X.D id ↔ id < (s 0).H.length ∨ ∃ i, L i ∧ (s i).H.length ≤ id ∧ id < (s (i + 1)).H.length
  size : act.tmps.size = N.N
  defers : act.defers = []
  env : ∀ t, RA X (envL ops s L t) (act.tmps.getD t undef)

include C hs

omit C in
theorem step_cases {i : Nat} {o : Oper} (hi : ops[i]? = some o) :
    (wantV (s i).env ops o = some false ∧ putV N (s i) o.dst und = some (s (i + 1))) ∨
    (wantV (s i).env ops o = some true ∧ isWr N o = true ∧ ∃ a L, vwr P T N (s i).H (evo (s i).env) o = some (a, L) ∧ putV N { s i with H := L } o.dst a = some (s (i + 1))) ∨
    (wantV (s i).env ops o = some true ∧ isWr N o = false ∧ ∃ a news ms, vrd P T N.nest (s i).H (s i).H.length (evo (s i).env) o = some (a, news, ms) ∧ putV N { s i with H := frzAll ((s i).H ++ news) ms } o.dst a = some (s (i + 1))) := by
  obtain ⟨o', ho', h⟩ := hs i (Array.getElem?_eq_some_iff.1 hi).1
  rw [hi] at ho'
  cases ho'
  unfold stepV at h
  split at h
  · rename_i hw
    exact .inl ⟨hw, h⟩
  · rename_i hw
    split at h
    · rename_i hwr
      split at h
      · rename_i a L hv
        exact .inr (.inl ⟨hw, hwr, a, L, hv, h⟩)
      · cases h
    · rename_i hwr
      split at h
      · rename_i a news ms hv
        exact .inr (.inr ⟨hw, by simpa using hwr, a, news, ms, hv, h⟩)
      · cases h
  · cases h

omit C hs in
theorem putV_facts {s0 s1 : St} {d : Option Tmp} {a : AV} (h : putV N s0 d a = some s1) : s1.H = s0.H ∧ ∀ t, d = some t → t < N.N ∧ s1.env t = a := by
  unfold putV at h
  split at h
  · cases h
    exact ⟨rfl, fun t h => by cases h⟩
  · split at h
    case isFalse => cases h
    rename_i d hd
    cases h
    refine ⟨rfl, fun t h => ?_⟩
    cases h
    exact ⟨hd, by simp [upd]⟩

omit C in
theorem len_step (hT : TOk P T) {i : Nat} {o : Oper} (hi : ops[i]? = some o) : (s i).H.length ≤ (s (i + 1)).H.length ∧ (pureOp P o = true → (s (i + 1)).H.length = (s i).H.length) := by
  rcases step_cases hs hi with ⟨_, h⟩ | ⟨_, hw, a, L, hv, h⟩ | ⟨_, hw, a, news, ms, hv, h⟩
  · rw [(putV_facts h).1]
    exact ⟨Nat.le_refl _, fun _ => rfl⟩
  · rw [(putV_facts h).1]
    exact ⟨vwr_len hT hv, fun hp => by rw [wr_not_pure hw] at hp; cases hp⟩
  · rw [(putV_facts h).1]
    simp only [frzAll_length, List.length_append]
    refine ⟨by omega, fun hp => ?_⟩
    have := (vrd_pure hp hv).1
    simp only [Prod.mk.injEq] at this
    rw [this.1]
    rfl

omit C hs in
theorem ids_of {n : Nat} {id : Nat} (h : id < (s n).H.length) : id < (s 0).H.length ∨ ∃ i, i < n ∧ (s i).H.length ≤ id ∧ id < (s (i + 1)).H.length := by
  induction n with
  | zero => exact .inl h
  | succ n ih =>
    by_cases hlt : id < (s n).H.length
    · rcases ih hlt with h | ⟨i, h1, h2⟩
      · exact .inl h
      · exact .inr ⟨i, by omega, h2⟩
    · exact .inr ⟨n, by omega, by omega, h⟩

omit C in
theorem len_mono (hT : TOk P T) {a b : Nat} (hab : a ≤ b) (hb : b ≤ ops.size) : (s a).H.length ≤ (s b).H.length := by
  induction b with
  | zero => have : a = 0 := by omega
            rw [this]; exact Nat.le_refl _
  | succ b ih =>
    by_cases h : a = b + 1
    · rw [h]; exact Nat.le_refl _
    · exact Nat.le_trans (ih (by omega) (by omega)) (len_step hs hT (Array.getElem?_eq_getElem (show b < ops.size by omega))).1

/-- What an operation reads is what the run in the text's order reads. -/
theorem reads_env {L : Nat → Prop} (hL : Down ops L) {i : Nat} {o : Oper} (hi : ops[i]? = some o) (hn : ¬ L i) (hr : ∀ e ∈ o.after, Region.binds .any e = true → L e.on) {t : Nat} (ht : t ∈ o.looksAt ops) :
    (s i).env t = envL ops s L t := by
  have hsz := (Array.getElem?_eq_some_iff.1 hi).1
  have hB := down_bef C hL (i + 1) i (Nat.lt_succ_self _) o hi hr
  unfold envL
  by_cases hw : ∃ (j : Nat) (q : Oper), ops[j]? = some q ∧ q.dst = some t
  · obtain ⟨j, q, hj, hq⟩ := hw
    have hjs := (Array.getElem?_eq_some_iff.1 hj).1
    rcases C.reads i j o q t hi hj ht hq with ⟨h1, h2⟩ | ⟨h1, h2⟩
    · rw [if_pos ⟨j, q, hB j h2, hj, hq⟩]
      have e1 := env_of (t := t) hs (a := j + 1) (b := i) (by omega) (by omega) (fun k o' k1 k2 hk hd => by
        have := C.dst k j o' q t hk hj hd hq
        omega)
      have e2 := env_of (t := t) hs (a := j + 1) (b := ops.size) (by omega) (by omega) (fun k o' k1 k2 hk hd => by
        have := C.dst k j o' q t hk hj hd hq
        omega)
      rw [e1, e2]
    · have hnj : ¬ Done ops L t := by
        rintro ⟨k, o', hk, hk', hd⟩
        have hkj := C.dst k j o' q t hk' hj hd hq
        subst hkj
        exact hn (down_bef C hL (k + 1) k (Nat.lt_succ_self _) q hj (fun e he hb => hL k q e hk hj he hb) i h2)
      rw [if_neg hnj]
      exact env_of (t := t) hs (a := 0) (b := i) (by omega) (by omega) (fun k o' k1 k2 hk hd => by
        have := C.dst k j o' q t hk hj hd hq
        omega)
  · have hnj : ¬ Done ops L t := fun ⟨k, o', hk, hk', hd⟩ => hw ⟨k, o', hk', hd⟩
    rw [if_neg hnj]
    exact env_of (t := t) hs (a := 0) (b := i) (by omega) (by omega) (fun k o' k1 k2 hk hd => hw ⟨k, o', hk, hd⟩)

/-- The slots behind one operation more. -/
theorem envL_step {L : Nat → Prop} {i : Nat} {o : Oper} (hi : ops[i]? = some o) {t : Nat} :
    envL ops s (fun j => L j ∨ j = i) t = if o.dst = some t then (s (i + 1)).env t else envL ops s L t := by
  have hsz := (Array.getElem?_eq_some_iff.1 hi).1
  unfold envL
  by_cases hd : o.dst = some t
  · rw [if_pos hd, if_pos ⟨i, o, .inr rfl, hi, hd⟩]
    exact env_of (t := t) hs (a := i + 1) (b := ops.size) (by omega) (by omega) (fun k o' k1 k2 hk hd' => by
      have := C.dst k i o' o t hk hi hd' hd
      omega)
  · rw [if_neg hd]
    have : Done ops (fun j => L j ∨ j = i) t ↔ Done ops L t := by
      constructor
      · rintro ⟨k, o', hk | rfl, hk', hd'⟩
        · exact ⟨k, o', hk, hk', hd'⟩
        · rw [hi] at hk'
          cases hk'
          exact absurd hd' hd
      · rintro ⟨k, o', hk, hk', hd'⟩
        exact ⟨k, o', .inl hk, hk', hd'⟩
    by_cases hx : Done ops L t
    · rw [if_pos hx, if_pos (this.2 hx)]
    · rw [if_neg hx, if_neg (fun h => hx (this.1 h))]

omit C hs in
theorem next_wr (N : Fx) (ops : Array Oper) (k : Nat) (hk : k ≤ ops.size) : ∃ m, k ≤ m ∧ m ≤ ops.size ∧ (m < ops.size → ∃ q, ops[m]? = some q ∧ isWr N q = true) ∧ ∀ (j : Nat) q, k ≤ j → j < m → ops[j]? = some q → isWr N q = false := by
  obtain ⟨d, hd⟩ : ∃ d, ops.size - k = d := ⟨_, rfl⟩
  induction d generalizing k with
  | zero => exact ⟨k, Nat.le_refl _, hk, fun h => by omega, fun j q h1 h2 => by omega⟩
  | succ d ih =>
    have hlt : k < ops.size := by omega
    have hq : ops[k]? = some ops[k] := Array.getElem?_eq_getElem hlt
    cases hw : isWr N ops[k] with
    | true => exact ⟨k, Nat.le_refl _, hk, fun _ => ⟨_, hq, hw⟩, fun j q h1 h2 => by omega⟩
    | false =>
      obtain ⟨m, h1, h2, h3, h4⟩ := ih (k + 1) (by omega) (by omega)
      refine ⟨m, by omega, h2, h3, fun j q k1 k2 hj => ?_⟩
      by_cases hjk : j = k
      · rw [hjk, hq] at hj
        cases hj
        exact hw
      · exact h4 j q (by omega) k2 hj

/-- One operation more is done. -/
theorem inv_step (hT : TOk P T) {X0 X : Cx} (S : SR X) (M : Dom X) {L : Nat → Prop} {m : Nat} {act : Act} (I : Inv N ops s L m X act) {i : Nat} {o : Oper} (hi : ops[i]? = some o) (hn : ¬ L i)
    (hr : ∀ e ∈ o.after, Region.binds .any e = true → L e.on) (hX : Nxt X0 X) {K : Act → World → Prop} {Q : Exit → Act → World → Prop}
    (hK : ∀ Y act' m', Nxt X0 Y → Inv N ops s (fun j => L j ∨ j = i) m' Y act' → K act' Y.w) : wpOp P ops Q i K act X.w := by
  have hsz := (Array.getElem?_eq_some_iff.1 hi).1
  have hB := down_bef C I.down (i + 1) i (Nat.lt_succ_self _) o hi hr
  have hBL : ∀ j q, L j → ops[j]? = some q → ∀ k, B j k → L k := fun j q hj hq => down_bef C I.down (j + 1) j (Nat.lt_succ_self _) q hq fun e he hb => I.down j q e hj hq he hb
  have henv : ∀ t, t ∈ o.looksAt ops → (s i).env t = envL ops s L t := fun t ht => reads_env C hs I.down hi hn hr ht
  have hdown : Down ops (fun j => L j ∨ j = i) := by
    rintro j q e (hj | rfl) hq he hb
    · exact .inl (I.down j q e hj hq he hb)
    · rw [hi] at hq
      cases hq
      exact .inl (hr e he hb)
  have hlt' : ∀ j, (L j ∨ j = i) → j < ops.size := fun j h => h.elim (I.lt j) (fun e => e ▸ hsz)
  -- the end of it
  have fin : ∀ (Y : Cx) (m' : Nat) (v : Value) (a : AV), Nxt X Y → m' ≤ ops.size → (∀ (k : Nat) q, k < m' → ops[k]? = some q → isWr N q = true → L k ∨ k = i) → (m' < ops.size → (∃ q, ops[m']? = some q ∧ isWr N q = true) ∧ ¬ (L m' ∨ m' = i)) →
      Y.H = (s m').H → (∀ id, Y.D id ↔ X.D id ∨ ((s i).H.length ≤ id ∧ id < (s (i + 1)).H.length)) → RA Y a v → (∀ d, o.dst = some d → d < N.N ∧ (s (i + 1)).env d = a) →
      Inv N ops s (fun j => L j ∨ j = i) m' Y (act.put o.dst v) := by
    intro Y m' v a hN h1 h2 h3 h4 h5 h6 h7
    refine ⟨h1, h2, h3, hdown, hlt', h4, fun id => ?_, by rw [put_size]; exact I.size, by rw [put_defers]; exact I.defers, fun t => ?_⟩
    · rw [h5, I.D]
      constructor
      · rintro ((h | ⟨j, hj, h⟩) | h)
        · exact .inl h
        · exact .inr ⟨j, .inl hj, h⟩
        · exact .inr ⟨i, .inr rfl, h⟩
      · rintro (h | ⟨j, hj | rfl, h⟩)
        · exact .inl (.inl h)
        · exact .inl (.inr ⟨j, hj, h⟩)
        · exact .inr h
    · rw [envL_step C hs hi, getD_put]
      by_cases hd : o.dst = some t
      · obtain ⟨k1, k2⟩ := h7 t hd
        rw [if_pos hd, if_pos ⟨hd, by rw [I.size]; exact k1⟩, k2]
        exact h6
      · rw [if_neg hd, if_neg (fun h => hd h.1)]
        exact hN.ra _ _ (I.env t)
  -- an operation that does not write leaves the phase as it is
  have hphase : isWr N o = false → (∀ (k : Nat) q, k < m → ops[k]? = some q → isWr N q = true → L k ∨ k = i) ∧ (m < ops.size → (∃ q, ops[m]? = some q ∧ isWr N q = true) ∧ ¬ (L m ∨ m = i)) := by
    intro hw
    refine ⟨fun k q h1 h2 h3 => .inl (I.pre k q h1 h2 h3), fun h => ⟨(I.at_ h).1, fun hc => ?_⟩⟩
    rcases hc with hc | hc
    · exact (I.at_ h).2 hc
    · obtain ⟨q, hq, hqw⟩ := (I.at_ h).1
      rw [hc, hi] at hq
      cases hq
      rw [hw] at hqw
      cases hqw
  -- one that hangs on memory stands ahead of the next one that writes, and none that writes is between
  have hahead : isWr N o = false → pureOp P o = false → i < m ∧ ∀ (k : Nat) q, i ≤ k → k < m → ops[k]? = some q → isWr N q = false := by
    intro hw hp
    have h1 : i < m := by
      rcases Nat.lt_or_ge i m with h | h
      · exact h
      · exfalso
        have hm : m < ops.size := by omega
        obtain ⟨⟨q, hq, hqw⟩, hnm⟩ := I.at_ hm
        have hne : m ≠ i := fun e => by
          rw [e, hi] at hq
          cases hq
          rw [hw] at hqw
          cases hqw
        exact hnm (hB m ((C.wr m i q o hq hi hqw hp).2 (by omega)))
    refine ⟨h1, fun k q h2 h3 hq => ?_⟩
    cases hqw : isWr N q with
    | false => rfl
    | true =>
      exfalso
      by_cases hki : k = i
      · rw [hki, hi] at hq
        cases hq
        rw [hw] at hqw
        cases hqw
      · exact hn (hBL k q (I.pre k q h3 hq hqw) hq i ((C.wr k i q o hq hi hqw hp).1 (by omega)))
  unfold wpOp
  rw [hi]
  dsimp only
  rcases step_cases hs hi with ⟨hw, h⟩ | ⟨hw, hwr, a, K', hv, h⟩ | ⟨hw, hwr, a, news, ms, hv, h⟩
  · -- it is passed over
    rw [wantV_eq henv] at hw
    rw [want_sound I.env hw, if_neg (by simp)]
    obtain ⟨p1, p2⟩ := putV_facts h
    have hD : ∀ id, X.D id ↔ X.D id ∨ ((s i).H.length ≤ id ∧ id < (s (i + 1)).H.length) := fun id => ⟨.inl, fun h => h.elim (fun x => x) fun h => by rw [p1] at h; omega⟩
    cases hwr : isWr N o with
    | false => exact hK X _ m hX (fin X m undef und (.refl S M) I.le (hphase hwr).1 (hphase hwr).2 I.H hD (und_ra X) p2)
    | true =>
      -- a writer that is passed over
      have him : i = m := by
        have h1 : m ≤ i := by
          rcases Nat.lt_or_ge i m with h | h
          · exact absurd (I.pre i o h hi hwr) hn
          · exact h
        rcases Nat.lt_or_ge m i with h2 | h2
        · exfalso
          have hm : m < ops.size := by omega
          obtain ⟨⟨q, hq, hqw⟩, hnm⟩ := I.at_ hm
          exact hnm (hB m ((C.wr i m o q hi hq hwr (wr_not_pure hqw)).1 h2))
        · omega
      subst him
      obtain ⟨m', g1, g2, g3, g4⟩ := next_wr N ops (i + 1) (by omega)
      have hU : Sub X.H (s m').H := by
        rw [I.H]
        have e1 : Sub (s i).H (s (i + 1)).H := by rw [p1]; exact fun id e he => ⟨e, he, .inl rfl⟩
        exact e1.trans (subs hs g1 g2 fun k q k1 k2 hk => g4 k q k1 k2 hk)
      have hdl : ∀ id, X.D id → id < X.H.length := fun id hd => by
        rw [I.H]
        rcases (I.D id).1 hd with h | ⟨j, hj, h1, h2⟩
        · exact Nat.lt_of_lt_of_le h (len_mono hs hT (Nat.zero_le _) (by omega))
        · have hjs := I.lt j hj
          by_cases hji : j < i
          · exact Nat.lt_of_lt_of_le h2 (len_mono hs hT (by omega) (by omega))
          · exfalso
            have hjq : ops[j]? = some ops[j] := Array.getElem?_eq_getElem hjs
            have hne : j ≠ i := fun e => hn (e ▸ hj)
            cases hpj : pureOp P ops[j] with
            | true =>
              have := (len_step hs hT hjq).2 hpj
              omega
            | false => exact hn (hBL j _ hj hjq i ((C.wr i j o _ hi hjq hwr hpj).2 (by omega)))
      obtain ⟨Y, hN, hYH, hYD, hYw⟩ := sub_nxt S M hdl hU
      have := fin Y m' undef und hN g2 (fun k q k1 k2 k3 => by
        rcases Nat.lt_or_ge k (i + 1) with hk | hk
        · rcases Nat.lt_or_ge k i with hk' | hk'
          · exact .inl (I.pre k q hk' k2 k3)
          · exact .inr (by omega)
        · rw [g4 k q hk k1 k2] at k3
          cases k3) (fun hm => ⟨g3 hm, fun hc => by
          obtain ⟨q, hq, hqw⟩ := g3 hm
          rcases hc with hc | hc
          · exact hn (hBL m' q hc hq i ((C.wr m' i q o hq hi hqw (wr_not_pure hwr)).1 (by omega)))
          · omega⟩) hYH (fun id => by rw [hYD]; exact hD id) (und_ra Y) p2
      rw [← hYw]
      exact hK Y _ m' (hX.trans hN) this
  · -- it writes
    rw [wantV_eq henv] at hw
    rw [want_sound I.env hw, if_pos rfl]
    left
    have him : i = m := by
      have h1 : m ≤ i := by
        rcases Nat.lt_or_ge i m with h | h
        · exact absurd (I.pre i o h hi hwr) hn
        · exact h
      rcases Nat.lt_or_ge m i with h2 | h2
      · exfalso
        have hm : m < ops.size := by omega
        obtain ⟨⟨q, hq, hqw⟩, hnm⟩ := I.at_ hm
        exact hnm (hB m ((C.wr i m o q hi hq hwr (wr_not_pure hqw)).1 h2))
      · omega
    subst him
    obtain ⟨p1, p2⟩ := putV_facts h
    rw [vwr_eq (evo_eq henv), ← I.H] at hv
    have hfull : ∀ id, X.D id ↔ id < X.H.length := fun id => by
      rw [I.H]
      constructor
      · intro hd
        rcases (I.D id).1 hd with h | ⟨j, hj, h1, h2⟩
        · exact Nat.lt_of_lt_of_le h (len_mono hs hT (Nat.zero_le _) (by omega))
        · have hjs := I.lt j hj
          by_cases hji : j < i
          · exact Nat.lt_of_lt_of_le h2 (len_mono hs hT (by omega) (by omega))
          · exfalso
            have hjq : ops[j]? = some ops[j] := Array.getElem?_eq_getElem hjs
            have hne : j ≠ i := fun e => hn (e ▸ hj)
            cases hpj : pureOp P ops[j] with
            | true =>
              have := (len_step hs hT hjq).2 hpj
              omega
            | false => exact hn (hBL j _ hj hjq i ((C.wr i j o _ hi hjq hwr hpj).2 (by omega)))
      · intro hlt
        rcases ids_of hlt with h | ⟨k, k1, k2, k3⟩
        · exact (I.D id).2 (.inl h)
        · have hkq : ops[k]? = some (ops[k]'(by omega)) := Array.getElem?_eq_getElem (by omega)
          refine (I.D id).2 (.inr ⟨k, ?_, k2, k3⟩)
          cases hpk : pureOp P (ops[k]'(by omega)) with
          | true =>
            have := (len_step hs hT hkq).2 hpk
            omega
          | false => exact hB k ((C.wr i k o _ hi hkq hwr hpk).1 k1)
    obtain ⟨hlen, hdo⟩ := vwr_does hT S M hfull (evo_sound I.env) hv
    refine hdo K Q fun v Y hN hYH hYD hr => ?_
    obtain ⟨m', g1, g2, g3, g4⟩ := next_wr N ops (i + 1) (by omega)
    have hU : Sub Y.H (s m').H := by
      have e1 : Y.H = (s (i + 1)).H := by rw [hYH, p1]
      rw [e1]
      exact subs hs g1 g2 fun k q k1 k2 hk => g4 k q k1 k2 hk
    have hdl : ∀ id, Y.D id → id < Y.H.length := fun id hd => by rw [hYH]; exact (hYD id).1 hd
    obtain ⟨Z, hN2, hZH, hZD, hZw⟩ := sub_nxt hN.sr hN.dom hdl hU
    have hD : ∀ id, Z.D id ↔ X.D id ∨ ((s i).H.length ≤ id ∧ id < (s (i + 1)).H.length) := fun id => by
      rw [hZD, hYD, hfull, p1]
      have e1 : X.H.length = (s i).H.length := by rw [I.H]
      show id < K'.length ↔ _
      constructor
      · intro h
        by_cases hx : id < X.H.length
        · exact .inl hx
        · exact .inr ⟨by omega, h⟩
      · rintro (h | h)
        · omega
        · exact h.2
    have := fin Z m' v a (hN.trans hN2) g2 (fun k q k1 k2 k3 => by
      rcases Nat.lt_or_ge k (i + 1) with hk | hk
      · rcases Nat.lt_or_ge k i with hk' | hk'
        · exact .inl (I.pre k q hk' k2 k3)
        · exact .inr (by omega)
      · rw [g4 k q hk k1 k2] at k3
        cases k3) (fun hm => ⟨g3 hm, fun hc => by
        obtain ⟨q, hq, hqw⟩ := g3 hm
        rcases hc with hc | hc
        · exact hn (hBL m' q hc hq i ((C.wr m' i q o hq hi hqw (wr_not_pure hwr)).1 (by omega)))
        · omega⟩) hZH hD (hN2.ra _ _ hr) p2
    rw [← hZw]
    exact hK Z _ m' (hX.trans (hN.trans hN2)) this
  · -- it reads, or makes
    rw [wantV_eq henv] at hw
    rw [want_sound I.env hw, if_pos rfl]
    left
    obtain ⟨p1, p2⟩ := putV_facts h
    rw [vrd_eq (evo_eq henv)] at hv
    obtain ⟨ph1, ph2⟩ := hphase hwr
    have hlen1 : (s (i + 1)).H.length = (s i).H.length + news.length := by
      rw [p1, frzAll_length, List.length_append]
    have hnD : ∀ id, (s i).H.length ≤ id → id < (s i).H.length + news.length → ¬ X.D id := fun id k1 k2 hd => by
      rcases (I.D id).1 hd with h | ⟨j, hj, h1, h2⟩
      · have := len_mono hs hT (Nat.zero_le i) (by omega)
        omega
      · have hjs := I.lt j hj
        have hne : j ≠ i := fun e => hn (e ▸ hj)
        rcases Nat.lt_or_ge j i with hji | hji
        · have := len_mono hs hT (a := j + 1) (b := i) (by omega) (by omega)
          omega
        · have := len_mono hs hT (a := i + 1) (b := j) (by omega) (by omega)
          omega
    have hdo : OpDoes P X (s i).H.length (a, news, ms) o act ∧ News X (s i).H.length news ∧ Given X ms := by
      cases hp : pureOp P o with
      | true =>
        obtain ⟨q1, q2⟩ := vrd_pure hp hv
        simp only [Prod.mk.injEq] at q1
        obtain ⟨rfl, rfl⟩ := q1
        exact ⟨vrd_does hT.1 S M (evo_sound I.env) (q2 _ _), (fun k e hk => by simp at hk), fun id hid => by cases hid⟩
      | false =>
        obtain ⟨h1, h2⟩ := hahead hwr hp
        have U1 : Sub (s (i + 1)).H X.H := by
          rw [I.H]
          exact subs hs (by omega) I.le fun k q k1 k2 hk => h2 k q (by omega) k2 hk
        have U0 : Sub (s i).H X.H := by
          rw [I.H]
          exact subs hs (by omega) I.le fun k q k1 k2 hk => h2 k q k1 k2 hk
        refine ⟨vrd_does hT.1 S M (evo_sound I.env) (U0.vrd hv), fun k e hk => ⟨?_, ?_⟩, fun id hid hd => ?_⟩
        · have := (List.getElem?_eq_some_iff.1 hk).1
          exact hnD _ (by omega) (by omega)
        · have hk' : ((s i).H ++ news)[(s i).H.length + k]? = some e := by
            rw [List.getElem?_append_right (by omega)]
            simpa using hk
          have U2 : Sub ((s i).H ++ news) X.H := by
            have : Sub ((s i).H ++ news) (s (i + 1)).H := by rw [p1]; exact sub_frz _ ms
            exact this.trans U1
          exact U2 _ _ hk'
        · obtain ⟨e, he⟩ := M id hd
          refine ⟨e, he, ?_⟩
          -- it was given up, and is so still
          have hX' : id < (s (i + 1)).H.length ∨ ¬ id < (s (i + 1)).H.length := Nat.lt_or_ge _ _ |>.imp (fun h => h) (fun h => by omega)
          rcases hX' with hlt | hge
          · have hg := List.getElem?_eq_getElem hlt
            obtain ⟨e', g1, g2⟩ := U1 _ _ hg
            rw [he] at g1
            cases g1
            have hfz : ∃ e0 : Ent, (s (i + 1)).H[id] = e0.frz := by
              have : (s (i + 1)).H[id]? = ((s i).H ++ news)[id]?.map Ent.frz := by
                rw [p1, frzAll_get, if_pos hid]
              rw [hg] at this
              cases h0 : ((s i).H ++ news)[id]? with
              | none => rw [h0] at this; cases this
              | some e0 =>
                rw [h0] at this
                simp only [Option.map_some, Option.some.injEq] at this
                exact ⟨e0, this⟩
            obtain ⟨e0, h0⟩ := hfz
            rcases g2 with g2 | g2
            · rw [g2, h0]; cases e0 <;> rfl
            · rw [g2]; cases (s (i + 1)).H[id] <;> rfl
          · -- an entry that was not there when it was given up: it was nothing
            exfalso
            have := given_mem hv hid
            omega
    obtain ⟨d1, d2, d3⟩ := hdo
    refine d1 d2 d3 K Q fun v Y hY hr => ?_
    have hN := hY.nxt S
    exact hK Y _ m (hX.trans hN) (fin Y m v a hN I.le ph1 ph2 (hY.ext.H.trans I.H) (fun id => by rw [hY.D, hlen1]) hr p2)

end

end Go.Proofs.Vm
end

section
/- Regions whose order is open: what is looked up of them, and functions. -/
namespace Go.Proofs.Vm
open Go

variable {P : Program}

def unl (L : Array Bool) : Nat → Nat
  | 0 => 0
  | k + 1 => unl L k + if L.getD k false = true then 0 else 1

theorem unl_zero {L : Array Bool} : ∀ {n : Nat}, unl L n = 0 → ∀ i, i < n → L.getD i false = true
  | 0, _, i, h => by omega
  | n + 1, h, i, hi => by
    simp only [unl] at h
    by_cases hl : L.getD n false = true
    · by_cases hin : i = n
      · rw [hin]; exact hl
      · exact unl_zero (n := n) (by omega) i (by omega)
    · rw [if_neg hl] at h
      omega

theorem unl_set {L : Array Bool} {i : Nat} (hs : i < L.size) (hl : ¬ L.getD i false = true) : ∀ {n : Nat}, (i < n → unl (L.setIfInBounds i true) n + 1 = unl L n) ∧ (n ≤ i → unl (L.setIfInBounds i true) n = unl L n)
  | 0 => ⟨fun h => by omega, fun _ => rfl⟩
  | n + 1 => by
    obtain ⟨h1, h2⟩ := unl_set hs hl (n := n)
    have hget : ∀ k, (L.setIfInBounds i true).getD k false = if k = i then true else L.getD k false := by
      intro k
      by_cases hk : k = i
      · subst hk
        simp [hs]
      · rw [if_neg hk]
        simp only [Array.getD_eq_getD_getElem?]
        rw [Array.getElem?_setIfInBounds_ne (fun e => hk e.symm)]
    refine ⟨fun h => ?_, fun h => ?_⟩
    · simp only [unl, hget]
      by_cases hn : n = i
      · subst hn
        rw [if_pos rfl, if_pos rfl, if_neg hl, h2 (Nat.le_refl _)]
      · rw [if_neg hn]
        have := h1 (by omega)
        omega
    · simp only [unl, hget]
      have hn : ¬ n = i := by omega
      rw [if_neg hn, h2 (by omega)]

theorem unl_le {L : Array Bool} : ∀ n, unl L n ≤ n
  | 0 => Nat.le_refl _
  | n + 1 => by
    have := unl_le (L := L) n
    simp only [unl]
    split <;> omega

theorem drew_nxt {X : Cx} (S : SR X) (M : Dom X) (d : Nat) : Nxt X { X with w := { X.w with drawn := d } } := by
  have E : Ext X { X with w := { X.w with drawn := d } } := ⟨rfl, rfl, fun _ h => h, rfl, fun _ _ => rfl, fun _ h => h, Nat.le_refl _, fun _ _ => rfl, ⟨rfl, rfl⟩⟩
  have SY := S.ext E (fun _ h => h) (fun _ h => .inl h) S.imm
  exact ⟨SY, M, rfl, rfl, fun _ h => h, fun _ h => h, fun _ h => .inl h, fun _ _ h => E.ra S h⟩

theorem open_ok (hm : P.follows .mixedOrders = true) {N : Fx} {ops : Array Oper} {B : Nat → Nat → Prop} (C : OpenC P N ops B) : OpenOk P N ops := by
  intro T X0 id s0 s' act0 Q hT S0 M0 R0 hrun hQ
  obtain ⟨f, f0, fn, hf⟩ := trail_of ops.toList 0 s0 s' hrun (fun j o hj => by simpa using hj)
  have hs : ∀ i, i < ops.size → ∃ o, ops[i]? = some o ∧ stepV P T N ops o (f i) = some (f (i + 1)) := fun i hi => hf i (Nat.zero_le _) (by simpa using hi)
  have fn' : f ops.size = s' := by rw [← fn]; simp
  -- all is done
  have done : ∀ (L : Array Bool) (m : Nat) (X : Cx) (act : Act), (∀ i, i < ops.size → L.getD i false = true) → Nxt X0 X → Inv N ops f (fun i => L.getD i false = true) m X act → Q .normal act X.w := by
    intro L m X act hall hX I
    have hmn : m = ops.size := by
      rcases Nat.lt_or_ge m ops.size with h | h
      · exact absurd (hall m h) (I.at_ h).2
      · have := I.le; omega
    refine hQ X act hX ⟨by rw [I.H, hmn, fn'], fun id => ?_, I.size, fun k => ?_, I.defers⟩
    · rw [I.D, ← fn']
      constructor
      · rintro (h | ⟨i, hi, h1, h2⟩)
        · exact Nat.lt_of_lt_of_le h (len_mono hs hT (Nat.zero_le _) (Nat.le_refl _))
        · exact Nat.lt_of_lt_of_le h2 (len_mono hs hT (by have := I.lt i hi; omega) (Nat.le_refl _))
      · intro h
        rcases ids_of h with h | ⟨i, h1, h2⟩
        · exact .inl h
        · exact .inr ⟨i, hall i h1, h2⟩
    · have := I.env k
      have he : envL ops f (fun i => L.getD i false = true) k = s'.env k := by
        unfold envL
        split
        · rw [fn']
        · rename_i hnd
          rw [← fn']
          exact (env_of (t := k) hs (Nat.zero_le _) (Nat.le_refl _) (fun i o _ hi ho hd => hnd ⟨i, o, hall i hi, ho, hd⟩)).symm
      rw [he] at this
      exact this
  -- where none is ready all is done
  have none_ready : ∀ (L : Array Bool), L.size = ops.size → Region.ready .any ops L = [] → ∀ n i, i < n → i < ops.size → L.getD i false = true := by
    intro L hL hr n
    induction n with
    | zero => intro i h; omega
    | succ n ih =>
      intro i hi his
      cases hl : L.getD i false with
      | true => rfl
      | false =>
        exfalso
        have hq : ops[i]? = some ops[i] := Array.getElem?_eq_getElem his
        have hd : L.getD i true = false := by
          simp only [Array.getD_eq_getD_getElem?] at hl ⊢
          rw [Array.getElem?_eq_getElem (by omega)] at hl ⊢
          exact hl
        have : i ∈ Region.ready .any ops L := mem_ready.2 ⟨hd, _, hq, fun e he hb => by
          have := C.edge i _ e hq he hb
          exact ih e.on (by omega) (by omega)⟩
        rw [hr] at this
        cases this
  -- every order
  have any : ∀ (fuel : Nat) (L : Array Bool) (m : Nat) (X : Cx) (act : Act), L.size = ops.size → unl L ops.size ≤ fuel → Nxt X0 X → Inv N ops f (fun i => L.getD i false = true) m X act → wpAny P .any ops Q fuel L act X.w := by
    intro fuel
    induction fuel with
    | zero =>
      intro L m X act hL hu hX I
      have hall := unl_zero (Nat.le_zero.1 hu)
      refine ⟨?_, done L m X act hall hX I⟩
      cases hr : Region.ready .any ops L with
      | nil => rfl
      | cons i r =>
        have : i ∈ Region.ready .any ops L := by rw [hr]; simp
        obtain ⟨h1, o, ho, _⟩ := mem_ready.1 this
        have his := (Array.getElem?_eq_some_iff.1 ho).1
        have := hall i his
        simp only [Array.getD_eq_getD_getElem?] at h1 this
        rw [Array.getElem?_eq_getElem (by omega)] at h1 this
        simp only [Option.getD_some] at h1 this
        rw [h1] at this
        cases this
    | succ fuel ih =>
      intro L m X act hL hu hX I
      refine ⟨fun hr => done L m X act (fun i hi => none_ready L hL hr (i + 1) i (Nat.lt_succ_self _) hi) hX I, fun i hi => ?_⟩
      obtain ⟨h1, o, ho, hedges⟩ := mem_ready.1 hi
      have his := (Array.getElem?_eq_some_iff.1 ho).1
      have hni : ¬ L.getD i false = true := by
        simp only [Array.getD_eq_getD_getElem?] at h1 ⊢
        rw [Array.getElem?_eq_getElem (by omega)] at h1 ⊢
        simp only [Option.getD_some] at h1 ⊢
        rw [h1]
        simp
      refine inv_step C hs hT hX.sr hX.dom I ho hni (fun e he hb => hedges e he hb) hX fun Y act' m' hY IY => ?_
      have hsz : i < L.size := by omega
      refine ih _ m' Y act' (by simp [hL]) (by have := (unl_set hsz hni (n := ops.size)).1 his; omega) hY ?_
      have hset : (fun j => (L.setIfInBounds i true).getD j false = true) = fun j => L.getD j false = true ∨ j = i := by
        funext j
        apply propext
        by_cases hj : j = i
        · subst hj
          simp [hsz]
        · simp only [hj, or_false]
          simp only [Array.getD_eq_getD_getElem?]
          rw [Array.getElem?_setIfInBounds_ne (fun e => hj e.symm)]
      rw [hset]
      exact IY
  refine wp_region_any hm ?_
  have N1 := drew_nxt S0 M0 (X0.w.drawn + 1)
  obtain ⟨m, g1, g2, g3, g4⟩ := next_wr N ops 0 (Nat.zero_le _)
  have hU : Sub X0.H (f m).H := by
    rw [R0.H, ← f0]
    exact subs hs g1 g2 fun k q k1 k2 hk => g4 k q k1 k2 hk
  obtain ⟨Y, hN, hYH, hYD, hYw⟩ := sub_nxt N1.sr N1.dom (fun id hd => by
    have := (R0.D id).1 hd
    show id < X0.H.length
    rw [R0.H]
    exact this) hU
  have hw : ({ X0.w with drawn := X0.w.drawn + 1 } : World) = Y.w := hYw.symm
  rw [hw]
  have hnl : ∀ i, ¬ (Array.replicate ops.size false).getD i false = true := fun i => by
    simp only [Array.getD_eq_getD_getElem?, Array.getElem?_replicate]
    split <;> simp
  refine any ops.size _ m Y act0 (by simp) (unl_le _) (N1.trans hN) ⟨g2, fun k q k1 k2 k3 => (by rw [g4 k q (Nat.zero_le _) k1 k2] at k3; cases k3), fun h => ⟨g3 h, hnl m⟩, fun i o e hi => absurd hi (hnl i), fun i hi => absurd hi (hnl i), hYH, fun id => ?_, R0.size, R0.defers, fun t => ?_⟩
  · rw [hYD, f0]
    constructor
    · exact fun h => .inl ((R0.D id).1 h)
    · rintro (h | ⟨i, hi, _⟩)
      · exact (R0.D id).2 h
      · exact absurd hi (hnl i)
  · have : envL ops f (fun i => (Array.replicate ops.size false).getD i false = true) t = s0.env t := by
      unfold envL
      rw [if_neg (fun ⟨i, o, hi, _⟩ => hnl i hi), f0]
    rw [this]
    exact hN.ra _ _ (N1.ra _ _ (R0.env t))

/-- What is looked up, by reckoning. -/
def openB (P : Program) (N : Fx) (ops : Array Oper) : Bool :=
  let b := Region.before ops
  let n := ops.size
  (List.range n).all fun i => match ops[i]? with
    | none => true
    | some o =>
      o.after.all (fun e => !Region.binds .any e || e.on < i) &&
      (List.range n).all (fun j => !(b.getD i 0).testBit j || o.after.any fun e => Region.binds .any e && (e.on == j || (b.getD e.on 0).testBit j)) &&
      (List.range n).all fun j => match ops[j]? with
        | none => true
        | some q =>
          (match q.dst with
            | none => true
            | some t => (i == j || o.dst != some t) && (!(o.looksAt ops).contains t || (j < i && (b.getD i 0).testBit j) || (i < j && (b.getD j 0).testBit i))) &&
          (!isWr N o || pureOp P q || (!(decide (j < i)) || (b.getD i 0).testBit j) && (!(decide (i < j)) || (b.getD j 0).testBit i))

theorem open_of {N : Fx} {ops : Array Oper} (h : openB P N ops = true) : OpenC P N ops (fun i j => j < ops.size ∧ ((Region.before ops).getD i 0).testBit j = true) := by
  unfold openB at h
  have get : ∀ (i : Nat) o, ops[i]? = some o → i < ops.size := fun i o ho => (Array.getElem?_eq_some_iff.1 ho).1
  have main := fun (i : Nat) (o : Oper) (ho : ops[i]? = some o) => List.all_eq_true.1 h i (List.mem_range.2 (get i o ho))
  have m1 : ∀ (i : Nat) o, ops[i]? = some o → _ := fun i o ho => by
    have := main i o ho
    rw [ho] at this
    dsimp only at this
    rw [Bool.and_eq_true, Bool.and_eq_true] at this
    exact this
  have m2 : ∀ (i j : Nat) o q, ops[i]? = some o → ops[j]? = some q → _ := fun i j o q ho hq => by
    have := List.all_eq_true.1 (m1 i o ho).2 j (List.mem_range.2 (get j q hq))
    rw [hq] at this
    dsimp only at this
    rw [Bool.and_eq_true] at this
    exact this
  refine ⟨fun i o e ho he hb => ?_, fun i o j ho hB => ?_, fun i j o q d ho hq hd hd' => ?_, fun i j o q t ho hq ht hd => ?_, fun i j o q ho hq hw hp => ?_, trivial⟩
  · have := Array.all_eq_true_iff_forall_mem.1 (m1 i o ho).1.1 e he
    rw [hb] at this
    simpa using this
  · have := List.all_eq_true.1 (m1 i o ho).1.2 j (List.mem_range.2 hB.1)
    rw [hB.2] at this
    simp only [Bool.not_true, Bool.false_or] at this
    rw [← Array.any_toList] at this
    obtain ⟨e, he, h2⟩ := List.any_eq_true.1 this
    have he : e ∈ o.after := by simpa using he
    rw [Bool.and_eq_true, Bool.or_eq_true] at h2
    refine ⟨e, he, h2.1, h2.2.imp (fun h => beq_iff_eq.1 h) fun h => ⟨hB.1, h⟩⟩
  · have := (m2 i j o q ho hq).1
    rw [hd', hd] at this
    simp only [Bool.and_eq_true] at this
    have := this.1
    simpa using this
  · have := (m2 i j o q ho hq).1
    rw [hd] at this
    simp only [Bool.and_eq_true, Bool.or_eq_true] at this
    rcases this.2 with (h | h) | h
    · have hc : (o.looksAt ops).contains t = true := by simpa using ht
      rw [hc] at h
      cases h
    · exact .inl ⟨by simpa using h.1, get j q hq, h.2⟩
    · exact .inr ⟨by simpa using h.1, get i o ho, h.2⟩
  · have := (m2 i j o q ho hq).2
    rw [hw, hp] at this
    simp only [Bool.not_true, Bool.false_or, Bool.and_eq_true, Bool.or_eq_true] at this
    refine ⟨fun hlt => ⟨get j q hq, ?_⟩, fun hlt => ⟨get i o ho, ?_⟩⟩
    · rcases this.1 with h | h
      · simp [hlt] at h
      · exact h
    · rcases this.2 with h | h
      · simp [hlt] at h
      · exact h

def codeB (P : Program) (N : Fx) : Code → Bool
  | .region _ ops true => openB P N ops
  | .seq a b => codeB P N a && codeB P N b
  | .cond _ x y => codeB P N x && codeB P N y
  | .block _ c => codeB P N c
  | .loop c => codeB P N c
  | _ => true

theorem code_ok (hm : P.follows .mixedOrders = true) {N : Fx} : ∀ (c : Code), codeB P N c = true → CodeOk P N c := by
  intro c
  induction c with
  | region id ops draw =>
    intro h
    cases draw with
    | true => exact open_ok hm (open_of h)
    | false => trivial
  | seq a b iha ihb =>
    intro h
    simp only [codeB, Bool.and_eq_true] at h
    exact ⟨iha h.1, ihb h.2⟩
  | cond c x y ihx ihy =>
    intro h
    simp only [codeB, Bool.and_eq_true] at h
    exact ⟨ihx h.1, ihy h.2⟩
  | block id c ih => exact ih
  | loop c ih => exact ih
  | _ => intro _; trivial

end Go.Proofs.Vm
end

section
/- The value machine's runs, told by what holds at their end. -/
namespace Go.Proofs.Vm
open Go

variable {P : Program} {T : Tab} {N : Fx}

/-- What holds where a code ends. -/
def wpV (P : Program) (T : Tab) (N : Fx) (c : Code) (K : Ex → St → Prop) (s : St) : Prop := ∃ ex s', (∃ m, ∀ n, m ≤ n → vcode P T N n c s = some (ex, s')) ∧ K ex s'

def thenK (A : St → Prop) (K : Ex → St → Prop) : Ex → St → Prop
  | .normal, s => A s
  | .exit id, s => K (.exit id) s
  | .ret, s => K .ret s

def blockK (id : Nat) (K : Ex → St → Prop) : Ex → St → Prop
  | .exit k, s => if k = id then K .normal s else K (.exit k) s
  | .normal, s => K .normal s
  | .ret, s => K .ret s

/-- What holds where some operations end. -/
def wpR (P : Program) (T : Tab) (N : Fx) (ops : Array Oper) (os : List Oper) (K : St → Prop) (s : St) : Prop := ∃ s', runV P T N ops os s = some s' ∧ K s'

def wpS (P : Program) (T : Tab) (N : Fx) (ops : Array Oper) (o : Oper) (K : St → Prop) (s : St) : Prop := ∃ s', stepV P T N ops o s = some s' ∧ K s'

theorem wpV_skip {K : Ex → St → Prop} {s : St} (h : K .normal s) : wpV P T N .skip K s := ⟨_, _, ⟨0, fun _ _ => rfl⟩, h⟩
theorem wpV_exit {K : Ex → St → Prop} {s : St} {id : Nat} (h : K (.exit id) s) : wpV P T N (.exit id) K s := ⟨_, _, ⟨0, fun _ _ => rfl⟩, h⟩
theorem wpV_ret {K : Ex → St → Prop} {s : St} (h : K .ret s) : wpV P T N .ret K s := ⟨_, _, ⟨0, fun _ _ => rfl⟩, h⟩

theorem wpV_region {K : Ex → St → Prop} {s : St} {id : Nat} {ops : Array Oper} {d : Bool} (h : wpR P T N ops ops.toList (K .normal) s) : wpV P T N (.region id ops d) K s := by
  obtain ⟨s', h1, h2⟩ := h
  exact ⟨.normal, s', ⟨0, fun n _ => by simp only [vcode, h1]⟩, h2⟩

theorem wpR_nil {ops : Array Oper} {K : St → Prop} {s : St} (h : K s) : wpR P T N ops [] K s := ⟨s, rfl, h⟩
theorem wpR_cons {ops : Array Oper} {o : Oper} {r : List Oper} {K : St → Prop} {s : St} (h : wpS P T N ops o (wpR P T N ops r K) s) : wpR P T N ops (o :: r) K s := by
  obtain ⟨s1, h1, s2, h2, h3⟩ := h
  exact ⟨s2, by simp only [runV, h1, h2], h3⟩

theorem wpV_seq {K : Ex → St → Prop} {s : St} {a b : Code} (h : wpV P T N a (thenK (wpV P T N b K) K) s) : wpV P T N (.seq a b) K s := by
  obtain ⟨ex, s1, ⟨m, h1⟩, h2⟩ := h
  cases ex with
  | normal =>
    obtain ⟨ex, s2, ⟨m2, h3⟩, h4⟩ := h2
    exact ⟨ex, s2, ⟨max m m2, fun n hn => by simp only [vcode, h1 n (by omega), h3 n (by omega)]⟩, h4⟩
  | exit id => exact ⟨_, s1, ⟨m, fun n hn => by simp only [vcode, h1 n hn]⟩, h2⟩
  | ret => exact ⟨_, s1, ⟨m, fun n hn => by simp only [vcode, h1 n hn]⟩, h2⟩

theorem wpV_cond {K : Ex → St → Prop} {s : St} {c : Operand} {x y : Code} {t : Bool} (hc : evo s.env c = some (.one (.c (.v (.bool t))))) (h : if t = true then wpV P T N x K s else wpV P T N y K s) : wpV P T N (.cond c x y) K s := by
  cases t with
  | true =>
    obtain ⟨ex, s1, ⟨m, h1⟩, h2⟩ := h
    exact ⟨ex, s1, ⟨m, fun n hn => by simp only [vcode, hc, if_true, h1 n hn]⟩, h2⟩
  | false =>
    obtain ⟨ex, s1, ⟨m, h1⟩, h2⟩ := h
    exact ⟨ex, s1, ⟨m, fun n hn => by simp only [vcode, hc, Bool.false_eq_true, if_false, h1 n hn]⟩, h2⟩

theorem wpV_block {K : Ex → St → Prop} {s : St} {id : Nat} {c : Code} (h : wpV P T N c (blockK id K) s) : wpV P T N (.block id c) K s := by
  obtain ⟨ex, s1, ⟨m, h1⟩, h2⟩ := h
  cases ex with
  | normal => exact ⟨_, s1, ⟨m, fun n hn => by simp only [vcode, h1 n hn]⟩, h2⟩
  | ret => exact ⟨_, s1, ⟨m, fun n hn => by simp only [vcode, h1 n hn]⟩, h2⟩
  | exit k =>
    simp only [blockK] at h2
    by_cases hk : k = id
    · rw [if_pos hk] at h2
      exact ⟨_, s1, ⟨m, fun n hn => by simp only [vcode, h1 n hn, if_pos hk]⟩, h2⟩
    · rw [if_neg hk] at h2
      exact ⟨_, s1, ⟨m, fun n hn => by simp only [vcode, h1 n hn, if_neg hk]⟩, h2⟩

/-- A loop, with a count of its own. -/
def wpL (P : Program) (T : Tab) (N : Fx) (c : Code) (K : Ex → St → Prop) (s : St) : Prop := ∃ ex s', (∃ m k0, ∀ n k, m ≤ n → k0 ≤ k → iter k (vcode P T N n c) s = some (ex, s')) ∧ K ex s'

theorem wpV_loop {K : Ex → St → Prop} {s : St} {c : Code} (h : wpL P T N c K s) : wpV P T N (.loop c) K s := by
  obtain ⟨ex, s1, ⟨m, k0, h1⟩, h2⟩ := h
  exact ⟨ex, s1, ⟨max m k0, fun n hn => by simp only [vcode, h1 n n (by omega) (by omega)]⟩, h2⟩

theorem wpL_step {K : Ex → St → Prop} {s : St} {c : Code} (h : wpV P T N c (thenK (wpL P T N c K) K) s) : wpL P T N c K s := by
  obtain ⟨ex, s1, ⟨m, h1⟩, h2⟩ := h
  have succ : ∀ k, 1 ≤ k → ∃ q, k = q + 1 := fun k hk => ⟨k - 1, by omega⟩
  cases ex with
  | normal =>
    obtain ⟨ex, s2, ⟨m2, k0, h3⟩, h4⟩ := h2
    refine ⟨ex, s2, ⟨max m m2, k0 + 1, fun n k hn hk => ?_⟩, h4⟩
    obtain ⟨q, rfl⟩ := succ k (by omega)
    simp only [iter, h1 n (by omega), h3 n q (by omega) (by omega)]
  | exit id =>
    refine ⟨_, s1, ⟨m, 1, fun n k hn hk => ?_⟩, h2⟩
    obtain ⟨q, rfl⟩ := succ k hk
    simp only [iter, h1 n hn]
  | ret =>
    refine ⟨_, s1, ⟨m, 1, fun n k hn hk => ?_⟩, h2⟩
    obtain ⟨q, rfl⟩ := succ k hk
    simp only [iter, h1 n hn]

/-- A loop by a measure: 'I k s' holds ahead of a round with k rounds to go at most. -/
theorem wpL_ind {K : Ex → St → Prop} {c : Code} (I : Nat → St → Prop) (h : ∀ k s, I k s → wpV P T N c (thenK (fun s' => ∃ j, j < k ∧ I j s') K) s) : ∀ k s, I k s → wpL P T N c K s := by
  intro k
  induction k using Nat.strongRecOn with
  | _ k ih =>
    intro s hI
    refine wpL_step ?_
    obtain ⟨ex, s1, h1, h2⟩ := h k s hI
    refine ⟨ex, s1, h1, ?_⟩
    cases ex with
    | normal =>
      obtain ⟨j, hj, hI'⟩ := h2
      exact ih j hj s1 hI'
    | exit id => exact h2
    | ret => exact h2

theorem wpV_mono {c : Code} {K K' : Ex → St → Prop} {s : St} (h : wpV P T N c K s) (g : ∀ ex s, K ex s → K' ex s) : wpV P T N c K' s := by
  obtain ⟨ex, s1, h1, h2⟩ := h
  exact ⟨ex, s1, h1, g _ _ h2⟩

theorem wpL_mono {c : Code} {K K' : Ex → St → Prop} {s : St} (h : wpL P T N c K s) (g : ∀ ex s, K ex s → K' ex s) : wpL P T N c K' s := by
  obtain ⟨ex, s1, h1, h2⟩ := h
  exact ⟨ex, s1, h1, g _ _ h2⟩

/-- One operation. -/
theorem wpS_rd {ops : Array Oper} {o : Oper} {K : St → Prop} {e : Nat → AV} {H : Hp} {a : AV} {news : List Ent} {ms : List Nat} (hg : o.guard = none) (hw : isWr N o = false)
    (hv : vrd P T N.nest H H.length (evo e) o = some (a, news, ms)) (h : ∃ s', putV N ⟨e, frzAll (H ++ news) ms⟩ o.dst a = some s' ∧ K s') : wpS P T N ops o K ⟨e, H⟩ := by
  obtain ⟨s', h1, h2⟩ := h
  exact ⟨s', by simp only [stepV, wantV, hg, hw, Bool.false_eq_true, if_false, hv, h1], h2⟩

/-- What a function's end must be. -/
def endK (P : Program) (rs : List ResultVar) (r : CA) : Ex → St → Prop
  | .exit _, _ => False
  | _, s => ∃ l a, mapO (vres P s) rs = some l ∧ join l = some a ∧ fza s.H a = some r

theorem vfun_of {fn : Func} {c : Code} (hb : fn.body = some c) {args : List CA} {r : CA} (hl : args.length ≤ fn.ntmps ∧ N.N = fn.ntmps) (h : wpV P T N c (endK P fn.results.toList r) ⟨env0 args, []⟩) : ∃ n, vfun P T N n fn args = some r := by
  obtain ⟨ex, s, ⟨m, h1⟩, h2⟩ := h
  refine ⟨m, ?_⟩
  have h1' := h1 m (Nat.le_refl _)
  cases ex with
  | exit id => exact h2.elim
  | normal =>
    obtain ⟨l, a, h3, h4, h5⟩ := h2
    simp only [vfun, hb, hl, and_self, if_true, h1', h3, h4, h5]
  | ret =>
    obtain ⟨l, a, h3, h4, h5⟩ := h2
    simp only [vfun, hb, hl, and_self, if_true, h1', h3, h4, h5]

/-- A function's contract out of a run of the value machine. -/
theorem ctr_of {f : FuncId} {fn : Func} {c : Code} (hm : P.follows .mixedOrders = true) (hf : P.funcs[f]? = some fn) (hb : fn.body = some c) (hc : codeB P N c = true) (hT : TOk P T) {args : List CA} {r : CA} (hl : args.length ≤ fn.ntmps ∧ N.N = fn.ntmps)
    {rs : List ResultVar} (hr : fn.results.toList = rs) (h : wpV P T N c (endK P rs r) ⟨env0 args, []⟩) : Ctr P f args r := by
  subst hr
  obtain ⟨n, hn⟩ := vfun_of hb hl h
  exact ctr_of_fun hT hf hb (code_ok hm c hc) hn

/-- What is known of a function at a family of arguments. -/
structure Sp (P : Program) where
  f : FuncId
  ι : Type
  enc : ι → List CA
  out : ι → CA
  ok : FnOk P f ∧ ∀ i, Ctr P f (enc i) (out i)

open Classical in
noncomputable def Sp.run (s : Sp P) (args : List CA) : Option CA := if h : ∃ i, s.enc i = args then some (s.out (Classical.choose h)) else none

noncomputable def ext (T : Tab) (s : Sp P) : Tab := { T with pu := fun f args => if f = s.f then s.run args else T.pu f args }

def T0 : Tab := ⟨fun _ _ => none, fun _ _ _ => none⟩

theorem TOk.zero : TOk P T0 := ⟨fun f args r h => (by cases h), fun f args H r H' h => (by cases h)⟩

theorem TOk.ext (h : TOk P T) (s : Sp P) : TOk P (ext T s) := ⟨fun f args r hr => by
  simp only [Vm.ext] at hr
  split at hr
  · rename_i hf
    subst hf
    unfold Sp.run at hr
    split at hr
    · rename_i hx
      cases hr
      have := s.ok.2 (Classical.choose hx)
      rw [Classical.choose_spec hx] at this
      exact ⟨s.ok.1, this⟩
    · cases hr
  · exact h.1 f args r hr, h.2⟩

theorem ext_self (s : Sp P) (i : s.ι) (inj : ∀ j, s.enc j = s.enc i → s.out j = s.out i) : (ext T s).pu s.f (s.enc i) = some (s.out i) := by
  simp only [ext, if_true]
  unfold Sp.run
  have hx : ∃ j, s.enc j = s.enc i := ⟨i, rfl⟩
  rw [dif_pos hx, inj _ (Classical.choose_spec hx)]

theorem ext_ne (s : Sp P) {f : FuncId} (h : f ≠ s.f) (args : List CA) : (ext T s).pu f args = T.pu f args := by
  simp only [ext]
  rw [if_neg h]

/-- What a function's end must be that shares its caller's memory. -/
def endS (P : Program) (rs : List ResultVar) (r : AV) (H' : Hp) : Ex → St → Prop
  | .exit _, _ => False
  | _, s => ∃ l, mapO (vres P s) rs = some l ∧ join l = some r ∧ s.H = H'

def envS (args : List AV) : Nat → AV := fun k => (args[k]?).getD und

theorem sctr_of {f : FuncId} {fn : Func} {c : Code} (hm : P.follows .mixedOrders = true) (hf : P.funcs[f]? = some fn) (hb : fn.body = some c) (hc : codeB P N c = true) (hT : TOk P T) {args : List AV} {H H' : Hp} {r : AV}
    (hl : args.length ≤ fn.ntmps ∧ N.N = fn.ntmps) (h : wpV P T N c (endS P fn.results.toList r H') ⟨envS args, H⟩) : SCtr P f args H r H' := by
  intro X S M hX hD vals hv
  obtain ⟨ex, s, ⟨m, h1⟩, h2⟩ := h
  have hcode := h1 m (Nat.le_refl _)
  obtain ⟨hlen, hNN⟩ := hl
  have hvl : vals.length = args.length := hv.1.symm
  have R : Rel X N ⟨envS args, H⟩ { tmps := vals.toArray ++ Array.replicate (fn.ntmps - vals.toArray.size) undef, defers := [] } := by
    refine ⟨hX, hD, by simp [hvl, hNN]; omega, fun k => ?_, rfl⟩
    show RA X (envS args k) _
    unfold envS
    by_cases hk : k < args.length
    · rw [List.getElem?_eq_getElem hk]
      have hk' : k < vals.length := by omega
      have e : (vals.toArray ++ Array.replicate (fn.ntmps - vals.toArray.size) undef).getD k undef = vals[k] := by
        rw [Array.getD_eq_getD_getElem?, Array.getElem?_append_left (by simpa using hk')]
        simp [hk']
      rw [e]
      exact hv.2 k _ _ (List.getElem?_eq_getElem hk) (List.getElem?_eq_getElem hk')
    · rw [List.getElem?_eq_none (by omega)]
      have e : (vals.toArray ++ Array.replicate (fn.ntmps - vals.toArray.size) undef).getD k undef = undef := by
        rw [Array.getD_eq_getD_getElem?, Array.getElem?_append_right (by simp; omega)]
        by_cases h2 : k - vals.toArray.size < fn.ntmps - vals.toArray.size
        · rw [Array.getElem?_replicate, if_pos h2]; rfl
        · rw [Array.getElem?_replicate, if_neg h2]; rfl
      rw [e]
      exact und_ra X
  refine calls_of_wp hf hb (code_sound hT c (code_ok hm c hc) S M R hcode fun Y act' hN hR => ?_)
  have fin : (∃ l, mapO (vres P s) fn.results.toList = some l ∧ join l = some r ∧ s.H = H') → act'.defers = [] ∧ ∃ v, (results fn act'.tmps).run P Y.w = .ok v Y.w ∧
      ∃ v' Z, Ending.returned v = .returned v' ∧ Z.w = Y.w ∧ Nxt X Z ∧ Z.H = H' ∧ (∀ id, Z.D id ↔ id < H'.length) ∧ RA Z r v' := by
    rintro ⟨l, h3, h4, rfl⟩
    obtain ⟨vs, hrun, hra⟩ := res_run (P := P) hN.sr hN.dom hR h3
    refine ⟨hR.defers, if h : vs.toArray.size = 1 then vs.toArray[0] else .tuple vs.toArray, ?_, _, Y, rfl, rfl, hN, hR.H, hR.D, join_sound h4 hra⟩
    rw [results_eq, Array.mapM_eq_mapM_toList]
    simp only [Sem.run_bind, Sem.run_map]
    rw [hrun]
    rfl
  cases ex with
  | normal => exact fin h2
  | exit id => exact h2.elim
  | ret => exact fin h2

theorem endS_det {rs : List ResultVar} {c : Code} {s : St} {r r' : AV} {H H' : Hp} (h : wpV P T N c (endS P rs r H) s) (g : wpV P T N c (endS P rs r' H') s) : r = r' ∧ H = H' := by
  obtain ⟨ex, s1, ⟨m, h1⟩, h2⟩ := h
  obtain ⟨ex', s2, ⟨m', g1⟩, g2⟩ := g
  have e1 := h1 (max m m') (by omega)
  rw [g1 (max m m') (by omega)] at e1
  cases e1
  cases ex with
  | exit id => exact h2.elim
  | normal =>
    obtain ⟨l, a1, a2, rfl⟩ := h2
    obtain ⟨l', b1, b2, rfl⟩ := g2
    rw [a1] at b1
    cases b1
    rw [a2] at b2
    cases b2
    exact ⟨rfl, rfl⟩
  | ret =>
    obtain ⟨l, a1, a2, rfl⟩ := h2
    obtain ⟨l', b1, b2, rfl⟩ := g2
    rw [a1] at b1
    cases b1
    rw [a2] at b2
    cases b2
    exact ⟨rfl, rfl⟩

/-- A function that shares its caller's memory, by its own run; or by what is known of it else. -/
structure Sh (P : Program) where
  f : FuncId
  run : List AV → Hp → AV → Hp → Prop
  ok : ∀ args H r H', run args H r H' → H.length ≤ H'.length ∧ FnOk P f ∧ SCtr P f args H r H'
  det : ∀ args H r H' q K, run args H r H' → run args H q K → r = q ∧ H' = K

open Classical in
noncomputable def extS (T : Tab) (s : Sh P) : Tab := { T with S := fun f args H => if f = s.f then (if h : ∃ p : AV × Hp, s.run args H p.1 p.2 then some (Classical.choose h) else none) else T.S f args H }

theorem TOk.extS (h : TOk P T) (s : Sh P) : TOk P (extS T s) := ⟨h.1, fun f args H r H' hr => by
  simp only [Vm.extS] at hr
  split at hr
  · rename_i hf
    subst hf
    split at hr
    · rename_i hx
      have := Classical.choose_spec hx
      simp only [Option.some.injEq] at hr
      rw [hr] at this
      exact s.ok _ _ _ _ this
    · cases hr
  · exact h.2 f args H r H' hr⟩

theorem extS_self (s : Sh P) {args : List AV} {H : Hp} {r : AV} {H' : Hp} (h : s.run args H r H') : (extS T s).S s.f args H = some (r, H') := by
  simp only [extS, if_true]
  have hx : ∃ p : AV × Hp, s.run args H p.1 p.2 := ⟨(r, H'), h⟩
  rw [dif_pos hx]
  obtain ⟨h1, h2⟩ := s.det _ _ _ _ _ _ h (Classical.choose_spec hx)
  rw [h1, h2]

theorem extS_ne (s : Sh P) {f : FuncId} (h : f ≠ s.f) (args : List AV) (H : Hp) : (extS T s).S f args H = T.S f args H := by
  simp only [extS]
  rw [if_neg h]

theorem extS_pu (s : Sh P) (f : FuncId) (args : List CA) : (extS T s).pu f args = T.pu f args := rfl
theorem ext_S (s : Sp P) (f : FuncId) (args : List AV) (H : Hp) : (ext T s).S f args H = T.S f args H := rfl

/-- One by its own run. -/
def Sh.of {f : FuncId} {fn : Func} {c : Code} (hm : P.follows .mixedOrders = true) (hf : P.funcs[f]? = some fn) (hb : fn.body = some c) (hok : FnOk P f) (hc : codeB P N c = true) (hT : TOk P T) (hN : N.N = fn.ntmps) (rs : List ResultVar) (hr : fn.results.toList = rs) : Sh P where
  f := f
  run args H r H' := args.length ≤ fn.ntmps ∧ H.length ≤ H'.length ∧ wpV P T N c (endS P rs r H') ⟨envS args, H⟩
  ok args H r H' h := ⟨h.2.1, hok, by subst hr; exact sctr_of hm hf hb hc hT ⟨h.1, hN⟩ h.2.2⟩
  det args H r H' q K h g := endS_det h.2.2 g.2.2

end Go.Proofs.Vm
end

section
/- The value machine's runs as rewriting rules. -/
namespace Go.Proofs.Vm
open Go

variable {P : Program} {T : Tab} {N : Fx}

theorem iter_mono {f g : St → Option (Ex × St)} (h : ∀ s r, f s = some r → g s = some r) : ∀ {k k' : Nat} {s : St} {r : Ex × St}, iter k f s = some r → k ≤ k' → iter k' g s = some r
  | 0, _, _, _, hr, _ => by cases hr
  | k + 1, k', s, r, hr, hk => by
    obtain ⟨q, rfl⟩ : ∃ q, k' = q + 1 := ⟨k' - 1, by omega⟩
    simp only [iter] at hr ⊢
    split at hr
    · rename_i s1 h1
      rw [h _ _ h1]
      exact iter_mono h hr (by omega)
    · rename_i h1
      rw [h _ _ hr]
      split
      · rename_i heq
        cases heq
        exact absurd hr (h1 _)
      · rfl

theorem vcode_mono {n n' : Nat} (hn : n ≤ n') : ∀ (c : Code) (s : St) (r : Ex × St), vcode P T N n c s = some r → vcode P T N n' c s = some r := by
  intro c
  induction c with
  | skip => intro s r h; exact h
  | region id ops d => intro s r h; exact h
  | exit id => intro s r h; exact h
  | ret => intro s r h; exact h
  | seq a b iha ihb =>
    intro s r h
    simp only [vcode] at h ⊢
    split at h
    · rename_i s1 h1
      rw [iha _ _ h1]
      exact ihb _ _ h
    · rename_i h1
      rw [iha _ _ h]
      split
      · rename_i heq
        cases heq
        exact absurd h (h1 _)
      · rfl
  | cond c x y ihx ihy =>
    intro s r h
    simp only [vcode] at h ⊢
    split at h
    case h_2 => cases h
    rename_i t ht
    split at h
    · rename_i hb
      rw [if_pos hb]
      exact ihx _ _ h
    · rename_i hb
      rw [if_neg hb]
      exact ihy _ _ h
  | block id c ih =>
    intro s r h
    simp only [vcode] at h ⊢
    split at h
    · rename_i k s1 h1
      rw [ih _ _ h1]
      exact h
    · rename_i h1
      rw [ih _ _ h]
      split
      · rename_i heq
        cases heq
        exact absurd h (h1 _ _)
      · rfl
  | loop c ih =>
    intro s r h
    simp only [vcode] at h ⊢
    exact iter_mono ih h hn
  | rangeFunc f params assign body _ _ => intro s r h; cases h
  | scope body _ => intro s r h; cases h
  | label l => intro s r h; cases h
  | goto l => intro s r h; cases h
  | refuse why => intro s r h; cases h

theorem wpV_iff {c : Code} {K : Ex → St → Prop} {s : St} : wpV P T N c K s ↔ ∃ n ex s', vcode P T N n c s = some (ex, s') ∧ K ex s' :=
  ⟨fun ⟨ex, s', ⟨m, h⟩, hk⟩ => ⟨m, ex, s', h m (Nat.le_refl _), hk⟩, fun ⟨n, ex, s', h, hk⟩ => ⟨ex, s', ⟨n, fun _ hn => vcode_mono hn _ _ _ h⟩, hk⟩⟩

section
variable {K : Ex → St → Prop} {s : St}

theorem e_skip : wpV P T N .skip K s ↔ K .normal s := ⟨fun ⟨_, _, ⟨m, h⟩, hk⟩ => by cases h m (Nat.le_refl _); exact hk, wpV_skip⟩
theorem e_exit {id : Nat} : wpV P T N (.exit id) K s ↔ K (.exit id) s := ⟨fun ⟨_, _, ⟨m, h⟩, hk⟩ => by cases h m (Nat.le_refl _); exact hk, wpV_exit⟩
theorem e_ret : wpV P T N .ret K s ↔ K .ret s := ⟨fun ⟨_, _, ⟨m, h⟩, hk⟩ => by cases h m (Nat.le_refl _); exact hk, wpV_ret⟩

theorem e_region {id : Nat} {ops : Array Oper} {d : Bool} : wpV P T N (.region id ops d) K s ↔ wpR P T N ops ops.toList (K .normal) s := by
  refine ⟨fun ⟨ex, s', ⟨m, h⟩, hk⟩ => ?_, wpV_region⟩
  have := h m (Nat.le_refl _)
  simp only [vcode] at this
  split at this
  · rename_i s1 h1
    cases this
    exact ⟨_, h1, hk⟩
  · cases this

theorem e_seq {a b : Code} : wpV P T N (.seq a b) K s ↔ wpV P T N a (thenK (wpV P T N b K) K) s := by
  refine ⟨fun ⟨ex, s', ⟨m, h⟩, hk⟩ => ?_, wpV_seq⟩
  have := h m (Nat.le_refl _)
  simp only [vcode] at this
  rw [wpV_iff]
  split at this
  · rename_i s1 h1
    exact ⟨m, .normal, s1, h1, wpV_iff.2 ⟨m, ex, s', this, hk⟩⟩
  · rename_i h1
    refine ⟨m, ex, s', this, ?_⟩
    cases ex with
    | normal => exact absurd this (h1 _)
    | exit id => exact hk
    | ret => exact hk

theorem e_block {id : Nat} {c : Code} : wpV P T N (.block id c) K s ↔ wpV P T N c (blockK id K) s := by
  refine ⟨fun ⟨ex, s', ⟨m, h⟩, hk⟩ => ?_, wpV_block⟩
  have := h m (Nat.le_refl _)
  simp only [vcode] at this
  rw [wpV_iff]
  split at this
  · rename_i k s1 h1
    refine ⟨m, _, s1, h1, ?_⟩
    simp only [blockK]
    split at this
    · rename_i hk'
      cases this
      rw [if_pos hk']
      exact hk
    · rename_i hk'
      cases this
      rw [if_neg hk']
      exact hk
  · rename_i h1
    refine ⟨m, ex, s', this, ?_⟩
    cases ex with
    | normal => exact hk
    | exit k => exact absurd this (h1 _ _)
    | ret => exact hk

theorem e_loop {c : Code} : wpV P T N (.loop c) K s ↔ wpL P T N c K s := by
  refine ⟨fun ⟨ex, s', ⟨m, h⟩, hk⟩ => ?_, wpV_loop⟩
  have := h m (Nat.le_refl _)
  simp only [vcode] at this
  exact ⟨ex, s', ⟨m, m, fun n k hn hk => iter_mono (vcode_mono hn c) this hk⟩, hk⟩

def boolK (a : Option AV) (x y : Prop) : Prop :=
  match a with
  | some (.one (.c (.v (.bool t)))) => if t = true then x else y
  | _ => False

theorem e_cond {c : Operand} {x y : Code} : wpV P T N (.cond c x y) K s ↔ boolK (evo s.env c) (wpV P T N x K s) (wpV P T N y K s) := by
  constructor
  · rintro ⟨ex, s', ⟨m, h⟩, hk⟩
    have := h m (Nat.le_refl _)
    simp only [vcode] at this
    unfold boolK
    split at this
    case h_2 => cases this
    rename_i t ht
    rw [ht]
    dsimp only
    split at this
    · rename_i hb
      rw [if_pos hb]
      exact wpV_iff.2 ⟨m, ex, s', this, hk⟩
    · rename_i hb
      rw [if_neg hb]
      exact wpV_iff.2 ⟨m, ex, s', this, hk⟩
  · intro h
    unfold boolK at h
    split at h
    case h_2 => exact h.elim
    rename_i t ht
    exact wpV_cond ht h

end

theorem b_bool {t : Bool} {x y : Prop} : boolK (some (.one (.c (.v (.bool t))))) x y ↔ if t = true then x else y := Iff.rfl

theorem e_nil {ops : Array Oper} {K : St → Prop} {s : St} : wpR P T N ops [] K s ↔ K s := ⟨fun ⟨_, h, hk⟩ => by cases h; exact hk, wpR_nil⟩
theorem e_cons {ops : Array Oper} {o : Oper} {r : List Oper} {K : St → Prop} {s : St} : wpR P T N ops (o :: r) K s ↔ wpS P T N ops o (wpR P T N ops r K) s := by
  refine ⟨fun ⟨s', h, hk⟩ => ?_, wpR_cons⟩
  simp only [runV] at h
  split at h
  case h_2 => cases h
  rename_i s1 h1
  exact ⟨s1, h1, s', h, hk⟩

/-- A value is put into a slot. -/
def putK (N : Fx) (d : Option Tmp) (e : Nat → AV) (H : Hp) (a : AV) (K : St → Prop) : Prop :=
  match d with
  | none => K ⟨e, H⟩
  | some d => d < N.N ∧ K ⟨upd e d a, H⟩

/-- What becomes of an operation's answer. -/
def rdK (N : Fx) (d : Option Tmp) (e : Nat → AV) (H : Hp) (r : RR) (K : St → Prop) : Prop :=
  match r with
  | some (a, news, ms) => putK N d e (frzAll (H ++ news) ms) a K
  | none => False

def wrK (N : Fx) (d : Option Tmp) (e : Nat → AV) (r : Option (AV × Hp)) (K : St → Prop) : Prop :=
  match r with
  | some (a, H) => putK N d e H a K
  | none => False

theorem putV_iff {e : Nat → AV} {H : Hp} {d : Option Tmp} {a : AV} {K : St → Prop} : (∃ s', putV N ⟨e, H⟩ d a = some s' ∧ K s') ↔ putK N d e H a K := by
  cases d with
  | none => simp [putV, putK]
  | some d =>
    simp only [putV, putK]
    constructor
    · rintro ⟨s', h, hk⟩
      split at h
      case isFalse => cases h
      rename_i hd
      cases h
      exact ⟨hd, hk⟩
    · rintro ⟨hd, hk⟩
      exact ⟨_, if_pos hd, hk⟩

/-- An operation that only reads or makes, without a guard. -/
theorem e_rd {ops : Array Oper} {K : St → Prop} {e : Nat → AV} {H : Hp} {d : Option Tmp} {op : Op} {ty : TypeId} {pos : String} {aft : Array Edge} (hw : isWr N ⟨d, op, ty, pos, aft, none⟩ = false) :
    wpS P T N ops ⟨d, op, ty, pos, aft, none⟩ K ⟨e, H⟩ ↔ rdK N d e H (vrd P T N.nest H H.length (evo e) ⟨d, op, ty, pos, aft, none⟩) K := by
  unfold wpS stepV
  simp only [wantV, hw, Bool.false_eq_true, if_false]
  cases hv : vrd P T N.nest H H.length (evo e) ⟨d, op, ty, pos, aft, none⟩ with
  | none => simp [rdK]
  | some r =>
    obtain ⟨a, news, ms⟩ := r
    simp only [rdK]
    rw [putV_iff]

theorem e_wr {ops : Array Oper} {K : St → Prop} {e : Nat → AV} {H : Hp} {d : Option Tmp} {op : Op} {ty : TypeId} {pos : String} {aft : Array Edge} (hw : isWr N ⟨d, op, ty, pos, aft, none⟩ = true) :
    wpS P T N ops ⟨d, op, ty, pos, aft, none⟩ K ⟨e, H⟩ ↔ wrK N d e (vwr P T N H (evo e) ⟨d, op, ty, pos, aft, none⟩) K := by
  unfold wpS stepV
  simp only [wantV, hw, if_true]
  cases hv : vwr P T N H (evo e) ⟨d, op, ty, pos, aft, none⟩ with
  | none => simp [wrK]
  | some r =>
    obtain ⟨a, L⟩ := r
    simp only [wrK]
    rw [putV_iff]

def guardK (v : Option AV) (want : Bool) (yes no : Prop) : Prop :=
  match v with
  | some (.one (.c (.v (.bool b)))) => if b = want then yes else no
  | some (.tup []) => no
  | _ => False

/-- An operation with a guard. -/
theorem e_grd {ops : Array Oper} {K : St → Prop} {e : Nat → AV} {H : Hp} {d : Option Tmp} {op : Op} {ty : TypeId} {pos : String} {aft : Array Edge} {j : Nat} {want : Bool} :
    wpS P T N ops ⟨d, op, ty, pos, aft, some (j, want)⟩ K ⟨e, H⟩ ↔ guardK (((ops[j]?).bind (·.dst)).map e) want
      (wpS P T N ops ⟨d, op, ty, pos, aft, none⟩ K ⟨e, H⟩)
      (putK N d e H und K) := by
  have hvr : ∀ g, vrd P T N.nest H H.length (evo e) ⟨d, op, ty, pos, aft, g⟩ = vrd P T N.nest H H.length (evo e) ⟨d, op, ty, pos, aft, none⟩ := fun g => rfl
  have hvw : ∀ g, vwr P T N H (evo e) ⟨d, op, ty, pos, aft, g⟩ = vwr P T N H (evo e) ⟨d, op, ty, pos, aft, none⟩ := fun g => rfl
  have hw : ∀ g, isWr N ⟨d, op, ty, pos, aft, g⟩ = isWr N ⟨d, op, ty, pos, aft, none⟩ := fun g => rfl
  have hno : (∃ s', putV N ⟨e, H⟩ d und = some s' ∧ K s') ↔ putK N d e H und K := putV_iff
  unfold wpS stepV
  simp only [wantV]
  cases hd : (ops[j]?).bind (·.dst) with
  | none => simp [guardK]
  | some k =>
    simp only [Option.map_some]
    generalize e k = v
    cases v with
    | one c =>
      cases c with
      | c x =>
        cases x with
        | v x =>
          cases x with
          | bool b =>
            simp only [guardK]
            by_cases hbw : b = want
            · subst hbw
              simp only [beq_self_eq_true, if_true]
              rw [hvr, hvw, hw]
            · have : (b == want) = false := by simp [hbw]
              rw [this, if_neg hbw]
              exact hno
          | _ => simp [guardK]
        | _ => simp [guardK]
      | _ => simp [guardK]
    | agg l => simp [guardK]
    | tup l =>
      cases l with
      | nil => exact hno
      | cons _ _ => simp [guardK]

theorem upd_get {e : Nat → AV} {k j : Nat} {a : AV} : upd e k a j = if j = k then a else e j := rfl

end Go.Proofs.Vm
end

section
/- The value machine's operations ags rewriting rules. -/
namespace Go.Proofs.Vm
open Go

variable {P : Program} {T : Tab} {N : Fx} {H : Hp}

@[simp] theorem pv_pure {α : Type} (a : α) : pv P (Pure.pure a : Sem α) = some a := rfl
@[simp] theorem pv_pure' {α : Type} (a : α) : pv P (Sem.pure a : Sem α) = some a := rfl
@[simp] theorem pv_program : pv P program = some P := rfl

theorem pv_sbind {α β : Type} (x : Sem α) (f : α → Sem β) : pv P (x.bind f) = (pv P x).bind fun a => pv P (f a) := by
  induction x with
  | pure a => rfl
  | program k ih => exact ih P
  | _ => rfl

@[simp] theorem pv_bind {α β : Type} (x : Sem α) (f : α → Sem β) : pv P (x >>= f) = (pv P x).bind fun a => pv P (f a) := pv_sbind x f
@[simp] theorem pv_map {α β : Type} (x : Sem α) (f : α → β) : pv P (f <$> x) = (pv P x).map f := by
  have := pv_sbind (P := P) x (fun a => Sem.pure (f a))
  cases hx : pv P x <;> simp [hx] at this ⊢ <;> exact this

abbrev vI (k : IntKind) (n : Int) : AV := .one (.c (.v (.int k n)))
abbrev vB (b : Bool) : AV := .one (.c (.v (.bool b)))
abbrev vS (s : ByteArray) : AV := .one (.c (.v (.string s)))
abbrev cI (k : IntKind) (n : Int) : CA := .one (.v (.int k n))
abbrev cB (b : Bool) : CA := .one (.v (.bool b))
abbrev cS (s : ByteArray) : CA := .one (.v (.string s))

section
variable {t : TypeId} {x y : Operand} {k : IntKind} {a b : Int}

theorem bin_add : vbin P H .add t x y (vI k a) (vI k b) = qa (vI k (k.wrap (a + b))) := by
  simp [vbin, vbin0, neSl, isNils, isPtr, isNilp, AV.sc, Cell.sc, eqGuard, binOp, Op.intArith, ofPv, one?, Value.oneCell']
theorem bin_sub : vbin P H .sub t x y (vI k a) (vI k b) = qa (vI k (k.wrap (a - b))) := by
  simp [vbin, vbin0, neSl, isNils, isPtr, isNilp, AV.sc, Cell.sc, eqGuard, binOp, Op.intArith, ofPv, one?, Value.oneCell']
theorem bin_mul : vbin P H .mul t x y (vI k a) (vI k b) = qa (vI k (k.wrap (a * b))) := by
  simp [vbin, vbin0, neSl, isNils, isPtr, isNilp, AV.sc, Cell.sc, eqGuard, binOp, Op.intArith, ofPv, one?, Value.oneCell']
theorem bin_quo (h : b ≠ 0) : vbin P H .quo t x y (vI k a) (vI k b) = qa (vI k (k.wrap (a.tdiv b))) := by
  simp [vbin, vbin0, neSl, isNils, isPtr, isNilp, AV.sc, Cell.sc, eqGuard, binOp, Op.intDiv, ofPv, one?, Value.oneCell', h]
theorem bin_rem (h : b ≠ 0) : vbin P H .rem t x y (vI k a) (vI k b) = qa (vI k (a.tmod b)) := by
  simp [vbin, vbin0, neSl, isNils, isPtr, isNilp, AV.sc, Cell.sc, eqGuard, binOp, Op.intDiv, ofPv, one?, Value.oneCell', h]
theorem bin_and : vbin P H .and t x y (vI k a) (vI k b) = qa (vI k (k.wrap (BitVec.ofInt k.bits a &&& BitVec.ofInt k.bits b).toNat)) := by
  simp [vbin, vbin0, neSl, isNils, isPtr, isNilp, AV.sc, Cell.sc, eqGuard, binOp, Op.intBits, ofPv, one?, Value.oneCell']
theorem bin_or : vbin P H .or t x y (vI k a) (vI k b) = qa (vI k (k.wrap (BitVec.ofInt k.bits a ||| BitVec.ofInt k.bits b).toNat)) := by
  simp [vbin, vbin0, neSl, isNils, isPtr, isNilp, AV.sc, Cell.sc, eqGuard, binOp, Op.intBits, ofPv, one?, Value.oneCell']
theorem bin_xor : vbin P H .xor t x y (vI k a) (vI k b) = qa (vI k (k.wrap (BitVec.ofInt k.bits a ^^^ BitVec.ofInt k.bits b).toNat)) := by
  simp [vbin, vbin0, neSl, isNils, isPtr, isNilp, AV.sc, Cell.sc, eqGuard, binOp, Op.intBits, ofPv, one?, Value.oneCell']
theorem bin_shl {k' : IntKind} (h : 0 ≤ b) : vbin P H .shl t x y (vI k a) (vI k' b) = qa (vI k (k.wrap (a * 2 ^ (min b.toNat k.bits)))) := by
  have : ¬ b < 0 := by omega
  simp [vbin, vbin0, neSl, isNils, isPtr, isNilp, AV.sc, Cell.sc, eqGuard, binOp, Op.shift, ofPv, one?, Value.oneCell', this]
theorem bin_shr {k' : IntKind} (h : 0 ≤ b) : vbin P H .shr t x y (vI k a) (vI k' b) = qa (vI k (a.fdiv (2 ^ (min b.toNat k.bits)))) := by
  have : ¬ b < 0 := by omega
  simp [vbin, vbin0, neSl, isNils, isPtr, isNilp, AV.sc, Cell.sc, eqGuard, binOp, Op.shift, ofPv, one?, Value.oneCell', this]
theorem bin_eql : vbin P H .eql t x y (vI k a) (vI k b) = qa (vB (a == b)) := by
  simp [vbin, vbin0, neSl, isNils, isPtr, isNilp, AV.sc, Cell.sc, eqGuard, binOp, Op.intCmp, ofPv, one?, Value.oneCell']
theorem bin_neq : vbin P H .neq t x y (vI k a) (vI k b) = qa (vB (a != b)) := by
  simp [vbin, vbin0, neSl, isNils, isPtr, isNilp, AV.sc, Cell.sc, eqGuard, binOp, Op.intCmp, ofPv, one?, Value.oneCell']
theorem bin_lss : vbin P H .lss t x y (vI k a) (vI k b) = qa (vB (decide (a < b))) := by
  simp [vbin, vbin0, neSl, isNils, isPtr, isNilp, AV.sc, Cell.sc, eqGuard, binOp, Op.intCmp, ofPv, one?, Value.oneCell']
theorem bin_leq : vbin P H .leq t x y (vI k a) (vI k b) = qa (vB (decide (a ≤ b))) := by
  simp [vbin, vbin0, neSl, isNils, isPtr, isNilp, AV.sc, Cell.sc, eqGuard, binOp, Op.intCmp, ofPv, one?, Value.oneCell']
theorem bin_gtr : vbin P H .gtr t x y (vI k a) (vI k b) = qa (vB (decide (a > b))) := by
  simp [vbin, vbin0, neSl, isNils, isPtr, isNilp, AV.sc, Cell.sc, eqGuard, binOp, Op.intCmp, ofPv, one?, Value.oneCell']
theorem bin_geq : vbin P H .geq t x y (vI k a) (vI k b) = qa (vB (decide (a ≥ b))) := by
  simp [vbin, vbin0, neSl, isNils, isPtr, isNilp, AV.sc, Cell.sc, eqGuard, binOp, Op.intCmp, ofPv, one?, Value.oneCell']

theorem sbin_eql {u v : ByteArray} : vbin P H .eql t x y (vS u) (vS v) = qa (vB (u.toList == v.toList)) := by
  simp [vbin, vbin0, neSl, isNils, isPtr, isNilp, AV.sc, Cell.sc, eqGuard, binOp, Op.stringOp, ofPv, one?, Value.oneCell']
theorem sbin_neq {u v : ByteArray} : vbin P H .neq t x y (vS u) (vS v) = qa (vB (!(u.toList == v.toList))) := by
  simp [vbin, vbin0, neSl, isNils, isPtr, isNilp, AV.sc, Cell.sc, eqGuard, binOp, Op.stringOp, ofPv, one?, Value.oneCell']
theorem sbin_lss {u v : ByteArray} : vbin P H .lss t x y (vS u) (vS v) = qa (vB (Op.bytesLess u.toList v.toList)) := by
  simp [vbin, vbin0, neSl, isNils, isPtr, isNilp, AV.sc, Cell.sc, eqGuard, binOp, Op.stringOp, ofPv, one?, Value.oneCell']

theorem un_not {b : Bool} : vun P .not (vB b) = qa (vB (!b)) := by simp [vun, AV.sc, Cell.sc, Op.unary, ofPv, one?, Value.oneCell']
theorem un_neg : vun P .neg (vI k a) = qa (vI k (k.wrap (0 - a))) := by simp [vun, AV.sc, Cell.sc, Op.unary, Op.intArith, ofPv, one?, Value.oneCell']
end

def on1 (a : Option AV) (f : AV → RR) : RR := match a with | some a => f a | none => none
def on2 (a b : Option AV) (f : AV → AV → RR) : RR := match a, b with | some a, some b => f a b | _, _ => none
def onL (l : Option (List AV)) (f : List AV → RR) : RR := match l with | some l => f l | none => none
def onW (l : Option (List AV)) (f : List AV → Option (AV × Hp)) : Option (AV × Hp) := match l with | some l => f l | none => none
def onC (a : Option AV) (l : Option (List AV)) (f : AV → List AV → RR) : RR := match a, l with | some a, some l => f a l | _, _ => none
def onS (a : Option AV) (x y z : Option (Option AV)) (f : AV → Option AV → Option AV → Option AV → RR) : RR := match a, x, y, z with | some a, some x, some y, some z => f a x y z | _, _, _, _ => none
def vindex (P : Program) (t : TypeId) (a b : AV) : RR := match a.sc, b.sc with | some u, some v => ofPv (pv P (Instr.index t u v)) | _, _ => none
def vmax (P : Program) (ts : Array TypeId) (ty : TypeId) (l : List AV) : RR := match scsAV l with | some vs => ofPv (pv P (Builtin.max_ ts ty vs.toArray)) | none => none
def vmin (P : Program) (ts : Array TypeId) (ty : TypeId) (l : List AV) : RR := match scsAV l with | some vs => ofPv (pv P (Builtin.min_ ts ty vs.toArray)) | none => none

@[simp] theorem on1_some (a : AV) (f : AV → RR) : on1 (some a) f = f a := rfl
@[simp] theorem on2_some (a b : AV) (f : AV → AV → RR) : on2 (some a) (some b) f = f a b := rfl
@[simp] theorem onL_some (a : List AV) (f : List AV → RR) : onL (some a) f = f a := rfl
@[simp] theorem onW_some (a : List AV) (f : List AV → Option (AV × Hp)) : onW (some a) f = f a := rfl
@[simp] theorem onC_some (a : AV) (l : List AV) (f : AV → List AV → RR) : onC (some a) (some l) f = f a l := rfl
@[simp] theorem onS_some (a : AV) (x y z : Option AV) (f : AV → Option AV → Option AV → Option AV → RR) : onS (some a) (some x) (some y) (some z) f = f a x y z := rfl
@[simp] theorem optOp_none (ρ : Operand → Option AV) : optOp ρ none = some none := rfl
@[simp] theorem optOp_some (ρ : Operand → Option AV) (x : Operand) : optOp ρ (some x) = (ρ x).map some := rfl

section
variable {ops : Array Oper} {K : St → Prop} {e : Nat → AV} {d : Option Tmp} {ty : TypeId} {pos : String} {aft : Array Edge}
theorem s_move {x : Operand} : wpS P T N ops ⟨d, .move x, ty, pos, aft, none⟩ K ⟨e, H⟩ ↔ rdK N d e H (vmove (evo e) H.length x) K := e_rd rfl
theorem s_assign {x : Operand} : wpS P T N ops ⟨d, .assign x, ty, pos, aft, none⟩ K ⟨e, H⟩ ↔ rdK N d e H (vmove (evo e) H.length x) K := e_rd rfl
theorem s_pick {a b c : Operand} : wpS P T N ops ⟨d, .pick a b c, ty, pos, aft, none⟩ K ⟨e, H⟩ ↔ rdK N d e H (vpick (evo e) a b c) K := e_rd rfl
theorem s_alloc {t : TypeId} : wpS P T N ops ⟨d, .alloc t, ty, pos, aft, none⟩ K ⟨e, H⟩ ↔ rdK N d e H (valloc P H.length t) K := e_rd rfl
theorem s_box {t : TypeId} {x : Operand} : wpS P T N ops ⟨d, .box t x, ty, pos, aft, none⟩ K ⟨e, H⟩ ↔ rdK N d e H (on1 (evo e x) (vbox H.length)) K := e_rd rfl
theorem s_build {t : TypeId} {ps : Array (Nat × Operand)} : wpS P T N ops ⟨d, .build t ps, ty, pos, aft, none⟩ K ⟨e, H⟩ ↔ rdK N d e H (vbuild P H.length (evo e) t ps.toList) K := e_rd rfl
theorem s_buildSlice {t : TypeId} {n : Nat} {ps : Array (Nat × Operand)} : wpS P T N ops ⟨d, .buildSlice t n ps, ty, pos, aft, none⟩ K ⟨e, H⟩ ↔ rdK N d e H (vbuildSlice P H H.length (evo e) t n ps.toList) K := e_rd rfl
theorem s_load {t : TypeId} {x : Operand} : wpS P T N ops ⟨d, .load t x, ty, pos, aft, none⟩ K ⟨e, H⟩ ↔ rdK N d e H (on1 (evo e x) (vload P H t)) K := e_rd rfl
theorem s_nilCheck {x : Operand} : wpS P T N ops ⟨d, .nilCheck x, ty, pos, aft, none⟩ K ⟨e, H⟩ ↔ rdK N d e H (on1 (evo e x) (vnil H)) K := e_rd rfl
theorem s_binOp {o : BinOp} {t t' : TypeId} {x y : Operand} : wpS P T N ops ⟨d, .binOp o t x y t', ty, pos, aft, none⟩ K ⟨e, H⟩ ↔ rdK N d e H (on2 (evo e x) (evo e y) (vbin P H o t x y)) K := e_rd rfl
theorem s_unOp {o : UnOp} {t : TypeId} {x : Operand} : wpS P T N ops ⟨d, .unOp o t x, ty, pos, aft, none⟩ K ⟨e, H⟩ ↔ rdK N d e H (on1 (evo e x) (vun P o)) K := e_rd rfl
theorem s_convert {t t' : TypeId} {x : Operand} : wpS P T N ops ⟨d, .convert t t' x, ty, pos, aft, none⟩ K ⟨e, H⟩ ↔ rdK N d e H (on1 (evo e x) (vconvert P t t')) K := e_rd rfl
theorem s_makeFunc {fn : Fn} {a b : Array Operand} : wpS P T N ops ⟨d, .makeFunc fn a b, ty, pos, aft, none⟩ K ⟨e, H⟩ ↔ rdK N d e H (onL (mapO (evo e) b.toList) (vmakeFunc fn a.toList)) K := e_rd rfl
theorem s_makeSlice {t : TypeId} {x y : Operand} : wpS P T N ops ⟨d, .makeSlice t x y, ty, pos, aft, none⟩ K ⟨e, H⟩ ↔ rdK N d e H (on2 (evo e x) (evo e y) (vmakeSlice P N.nest H.length t)) K := e_rd rfl
theorem s_slice {t : TypeId} {x : Operand} {lo hi mx : Option Operand} : wpS P T N ops ⟨d, .slice t x lo hi mx, ty, pos, aft, none⟩ K ⟨e, H⟩ ↔ rdK N d e H (onS (evo e x) (optOp (evo e) lo) (optOp (evo e) hi) (optOp (evo e) mx) (vslice P H H.length t)) K := e_rd rfl
theorem s_fieldAddr {t : TypeId} {x : Operand} {f : Nat} : wpS P T N ops ⟨d, .fieldAddr t x f, ty, pos, aft, none⟩ K ⟨e, H⟩ ↔ rdK N d e H (on1 (evo e x) (vfieldAddr P H t f)) K := e_rd rfl
theorem s_field {t : TypeId} {x : Operand} {f : Nat} : wpS P T N ops ⟨d, .field t x f, ty, pos, aft, none⟩ K ⟨e, H⟩ ↔ rdK N d e H (on1 (evo e x) (vfield P t f)) K := e_rd rfl
theorem s_indexAddr {t : TypeId} {x y : Operand} : wpS P T N ops ⟨d, .indexAddr t x y, ty, pos, aft, none⟩ K ⟨e, H⟩ ↔ rdK N d e H (on2 (evo e x) (evo e y) (vindexAddr P H t)) K := e_rd rfl
theorem s_index {t : TypeId} {x y : Operand} : wpS P T N ops ⟨d, .index t x y, ty, pos, aft, none⟩ K ⟨e, H⟩ ↔ rdK N d e H (on2 (evo e x) (evo e y) (vindex P t)) K := e_rd rfl
theorem s_extract {x : Operand} {i : Nat} : wpS P T N ops ⟨d, .extract x i, ty, pos, aft, none⟩ K ⟨e, H⟩ ↔ rdK N d e H (on1 (evo e x) fun a => vextract a i) K := e_rd rfl
theorem s_call {g : FuncId} {ags : Array Operand} {ts : Array TypeId} (h : N.sh g = false) : wpS P T N ops ⟨d, .call ⟨.value (.func g), ags, ts⟩, ty, pos, aft, none⟩ K ⟨e, H⟩ ↔ rdK N d e H (onC (evo e (.func g)) (mapO (evo e) ags.toList) (vcall T H)) K := e_rd h
theorem s_callv {t : Nat} {ags : Array Operand} {ts : Array TypeId} : wpS P T N ops ⟨d, .call ⟨.value (.tmp t), ags, ts⟩, ty, pos, aft, none⟩ K ⟨e, H⟩ ↔ rdK N d e H (onC (some (e t)) (mapO (evo e) ags.toList) (vcall T H)) K := e_rd rfl
theorem s_calls {g : FuncId} {ags : Array Operand} {ts : Array TypeId} (h : N.sh g = true) : wpS P T N ops ⟨d, .call ⟨.value (.func g), ags, ts⟩, ty, pos, aft, none⟩ K ⟨e, H⟩ ↔ wrK N d e (onW (mapO (evo e) ags.toList) fun l => T.S g l H) K := by
  have hw : isWr N ⟨d, .call ⟨.value (.func g), ags, ts⟩, ty, pos, aft, none⟩ = true := h
  rw [e_wr hw]
  simp only [vwr, h, if_true]
  cases mapO (evo e) ags.toList <;> rfl
theorem s_len {x : Operand} {ts : Array TypeId} : wpS P T N ops ⟨d, .call ⟨.builtin .len, #[x], ts⟩, ty, pos, aft, none⟩ K ⟨e, H⟩ ↔ rdK N d e H (on1 (evo e x) (vlen P H ts ty)) K := e_rd rfl
theorem s_max {ags : Array Operand} {ts : Array TypeId} : wpS P T N ops ⟨d, .call ⟨.builtin .max, ags, ts⟩, ty, pos, aft, none⟩ K ⟨e, H⟩ ↔ rdK N d e H (onL (mapO (evo e) ags.toList) (vmax P ts ty)) K := e_rd rfl
theorem s_min {ags : Array Operand} {ts : Array TypeId} : wpS P T N ops ⟨d, .call ⟨.builtin .min, ags, ts⟩, ty, pos, aft, none⟩ K ⟨e, H⟩ ↔ rdK N d e H (onL (mapO (evo e) ags.toList) (vmin P ts ty)) K := e_rd rfl
theorem s_store {t : TypeId} {x y : Operand} : wpS P T N ops ⟨d, .store t x y, ty, pos, aft, none⟩ K ⟨e, H⟩ ↔ wrK N d e (vwr P T N H (evo e) ⟨d, .store t x y, ty, pos, aft, none⟩) K := e_wr rfl
theorem s_append {ags : Array Operand} {ts : Array TypeId} : wpS P T N ops ⟨d, .call ⟨.builtin .append, ags, ts⟩, ty, pos, aft, none⟩ K ⟨e, H⟩ ↔ wrK N d e (vwr P T N H (evo e) ⟨d, .call ⟨.builtin .append, ags, ts⟩, ty, pos, aft, none⟩) K := e_wr rfl
end

theorem rd_some {d : Option Tmp} {e : Nat → AV} {a : AV} {news : List Ent} {ms : List Nat} {K : St → Prop} : rdK N d e H (some (a, news, ms)) K ↔ putK N d e (frzAll (H ++ news) ms) a K := Iff.rfl
theorem rd_qa {d : Option Tmp} {e : Nat → AV} {a : AV} {K : St → Prop} : rdK N d e H (qa a) K ↔ putK N d e H a K := by simp [qa, rdK, frzAll]
theorem put_some {d : Tmp} {e : Nat → AV} {a : AV} {K : St → Prop} : putK N (some d) e H a K ↔ d < N.N ∧ K ⟨upd e d a, H⟩ := Iff.rfl
theorem put_none {e : Nat → AV} {a : AV} {K : St → Prop} : putK N none e H a K ↔ K ⟨e, H⟩ := Iff.rfl
theorem wr_some {d : Option Tmp} {e : Nat → AV} {a : AV} {K : St → Prop} : wrK N d e (some (a, H)) K ↔ putK N d e H a K := Iff.rfl
theorem frz_nil : frzAll H [] = H := rfl

theorem ev_tmp {e : Nat → AV} {t : Nat} : evo e (.tmp t) = some (e t) := rfl
theorem ev_int {e : Nat → AV} {k : IntKind} {n : Int} : evo e (.const (.int k n)) = some (vI k n) := rfl
theorem ev_bool {e : Nat → AV} {b : Bool} : evo e (.const (.bool b)) = some (vB b) := rfl
theorem ev_str {e : Nat → AV} {s : ByteArray} : evo e (.const (.string s)) = some (vS s) := rfl
theorem ev_func {e : Nat → AV} {f : FuncId} : evo e (.func f) = some (.one (.fn f [])) := rfl
theorem ev_nil {e : Nat → AV} : evo e (.const (.slice none 0 0)) = some (.one (.c (.v (.slice none 0 0)))) := rfl
theorem ev_nilp {e : Nat → AV} : evo e (.const (.pointer none)) = some (.one (.c (.v (.pointer none)))) := rfl

theorem isNil_tmp {t : Nat} : isNil (.tmp t) = false := rfl
theorem isNil_int {k : IntKind} {n : Int} : isNil (.const (.int k n)) = false := rfl
theorem isNil_bool {b : Bool} : isNil (.const (.bool b)) = false := rfl
theorem isNil_str {s : ByteArray} : isNil (.const (.string s)) = false := rfl
theorem isNil_nil : isNil (.const (.slice none 0 0)) = true := rfl

theorem then_n {A : St → Prop} {K : Ex → St → Prop} {s : St} : thenK A K .normal s = A s := rfl
theorem then_e {A : St → Prop} {K : Ex → St → Prop} {s : St} {i : Nat} : thenK A K (.exit i) s = K (.exit i) s := rfl
theorem then_r {A : St → Prop} {K : Ex → St → Prop} {s : St} : thenK A K .ret s = K .ret s := rfl
theorem block_n {K : Ex → St → Prop} {s : St} {i : Nat} : blockK i K .normal s = K .normal s := rfl
theorem block_e {K : Ex → St → Prop} {s : St} {i j : Nat} : blockK i K (.exit j) s = if j = i then K .normal s else K (.exit j) s := rfl
theorem block_r {K : Ex → St → Prop} {s : St} {i : Nat} : blockK i K .ret s = K .ret s := rfl
theorem end_n {rs : List ResultVar} {r : CA} {s : St} : endK P rs r .normal s ↔ ∃ l a, mapO (vres P s) rs = some l ∧ join l = some a ∧ fza s.H a = some r := Iff.rfl
theorem ends_n {rs : List ResultVar} {r : AV} {H' : Hp} {s : St} : endS P rs r H' .normal s ↔ ∃ l, mapO (vres P s) rs = some l ∧ join l = some r ∧ s.H = H' := Iff.rfl
theorem ends_r {rs : List ResultVar} {r : AV} {H' : Hp} {s : St} : endS P rs r H' .ret s ↔ ∃ l, mapO (vres P s) rs = some l ∧ join l = some r ∧ s.H = H' := Iff.rfl
theorem end_r {rs : List ResultVar} {r : CA} {s : St} : endK P rs r .ret s ↔ ∃ l a, mapO (vres P s) rs = some l ∧ join l = some a ∧ fza s.H a = some r := Iff.rfl

theorem g_bool {b want : Bool} {yes no : Prop} : guardK (some (vB b)) want yes no ↔ if b = want then yes else no := Iff.rfl
theorem g_und {want : Bool} {yes no : Prop} : guardK (some und) want yes no ↔ no := Iff.rfl

end Go.Proofs.Vm
end

section
/- The value machine's operations over a table of types, as rewriting rules. -/
namespace Go.Proofs.Vm
open Go

variable {P : Program} {T : Tab} {N : Fx} {H : Hp}

def offOf (P : Program) (s : TypeId) (f : Nat) : Option Nat :=
  match fieldOf P s f with
  | some fd => match pv P (sizeOf fd.type) with
    | some (_ + 1) => some fd.offset
    | _ => none
  | none => none

def fldOf (P : Program) (s : TypeId) (f : Nat) : Option (Nat × Option Nat) :=
  match fieldOf P s f with
  | some fd => match pv P (isAgg fd.type) with
    | some true => match pv P (sizeOf fd.type) with
      | some n => some (fd.offset, some n)
      | none => none
    | some false => some (fd.offset, none)
    | none => none
  | none => none

def ldOf (P : Program) (t : TypeId) : Option (Option Nat) :=
  match pv P (isAgg t) with
  | some true => match pv P (sizeOf t) with
    | some n => some (some n)
    | none => none
  | some false => some none
  | none => none

def zOf (P : Program) (t : TypeId) : Option (List Value) :=
  match pv P (zeroValue t) with
  | some z => if z.cells.toList.all (·.oneCell') then some z.cells.toList else none
  | none => none

def bldOf (P : Program) (t : TypeId) : Option (List Value × List (Nat × Nat)) :=
  match zOf P t, pv P (underlying t) with
  | some z, some (.struct fields) => match placesOf P fields.toList with
    | some pl => some (z, pl)
    | none => none
  | _, _ => none

/-- Of an element's type: its cells, its bytes, its zero. -/
def elOf (P : Program) (e : TypeId) : Option (Nat × Nat × List CV) :=
  match pv P (typeInfo e), zOf P e with
  | some i, some z => if z.length = i.size then some (i.size, i.bytes, z.map nrm) else none
  | _, _ => none

theorem vfieldAddr_eq {s : TypeId} {f : Nat} {a : AV} : vfieldAddr P H s f a = match offOf P s f with | some n => shift H a n | none => none := by
  unfold vfieldAddr offOf
  cases fieldOf P s f with
  | none => rfl
  | some fd =>
    dsimp only
    cases pv P (sizeOf fd.type) with
    | none => rfl
    | some n => cases n <;> rfl

theorem vload_eq {t : TypeId} {a : AV} : vload P H t a = match behind H a, ldOf P t with
    | some cs, some (some n) => if n ≤ cs.length then qa (.agg (cs.take n)) else none
    | some (c :: _), some none => qa (.one c)
    | _, _ => none := by
  unfold vload ldOf
  cases behind H a with
  | none => rfl
  | some cs =>
    dsimp only
    cases pv P (isAgg t) with
    | none => cases cs <;> rfl
    | some b =>
      cases b with
      | true =>
        dsimp only
        cases pv P (sizeOf t) with
        | none => cases cs <;> rfl
        | some n => rfl
      | false => cases cs <;> rfl

theorem vfield_eq {s : TypeId} {f : Nat} {l : List Cell} : vfield P s f (.agg l) = match fldOf P s f with
    | some (o, some n) => if o + n ≤ l.length then qa (.agg ((l.drop o).take n)) else none
    | some (o, none) => match l[o]? with
      | some c => qa (.one c)
      | none => none
    | none => none := by
  unfold vfield fldOf
  cases fieldOf P s f with
  | none => rfl
  | some fd =>
    dsimp only
    cases pv P (isAgg fd.type) with
    | none => rfl
    | some b =>
      cases b with
      | true =>
        dsimp only
        cases pv P (sizeOf fd.type) <;> rfl
      | false => rfl

theorem valloc_eq {nid : Nat} {t : TypeId} : valloc P nid t = match zOf P t with
    | some z => some (.one (.ptr ⟨nid, 0, 0, 1⟩), .opn [(ownz (nid + 1) z).1] false :: (ownz (nid + 1) z).2, [])
    | none => none := by
  unfold valloc zOf
  cases pv P (zeroValue t) with
  | none => rfl
  | some z =>
    dsimp only
    split <;> rfl

theorem vbuild_eq {nid : Nat} {ρ : Operand → Option AV} {t : TypeId} {ps : List (Nat × Operand)} : vbuild P nid ρ t ps = match bldOf P t, partsOf ρ ps with
    | some (z, pl), some qs => match vfill (pl[·]?) (ownz nid z).1 qs with
      | some cells => some (.agg cells, (ownz nid z).2, [])
      | none => none
    | _, _ => none := by
  unfold vbuild bldOf zOf
  cases pv P (zeroValue t) with
  | none => rfl
  | some z =>
    dsimp only
    cases hu : pv P (underlying t) with
    | none =>
      by_cases hz : z.cells.toList.all (·.oneCell') = true
      · rw [if_pos hz]
      · rw [if_neg hz]
    | some d =>
      cases d <;> first
        | (by_cases hz : z.cells.toList.all (·.oneCell') = true
           · rw [if_pos hz]
           · rw [if_neg hz])
        | skip
      rename_i fields
      by_cases hz : z.cells.toList.all (·.oneCell') = true
      · rw [if_pos hz]
        dsimp only
        cases hp : partsOf ρ ps with
        | none => cases placesOf P fields.toList <;> rfl
        | some qs =>
          dsimp only
          cases placesOf P fields.toList with
          | none => rfl
          | some pl =>
            dsimp only
            rw [if_pos hz]
            rfl
      · rw [if_neg hz]
        dsimp only
        cases hp : partsOf ρ ps with
        | none => rfl
        | some qs =>
          dsimp only
          cases placesOf P fields.toList with
          | none => rfl
          | some pl =>
            dsimp only
            rw [if_neg hz]
            try rfl

theorem elOf_facts {e : TypeId} {sz b : Nat} {z : List CV} (h : elOf P e = some (sz, b, z)) :
    ∃ i v, pv P (typeInfo e) = some i ∧ pv P (zeroValue e) = some v ∧ i.size = sz ∧ i.bytes = b ∧ zcells v = z ∧ v.cells.size = sz ∧ v.cells.toList.all (·.oneCell') = true := by
  unfold elOf zOf at h
  cases hi : pv P (typeInfo e) with
  | none => rw [hi] at h; cases h
  | some i =>
    rw [hi] at h
    cases hz : pv P (zeroValue e) with
    | none => rw [hz] at h; cases h
    | some v =>
      rw [hz] at h
      dsimp only at h
      by_cases h1 : v.cells.toList.all (·.oneCell') = true
      · rw [if_pos h1] at h
        dsimp only at h
        split at h
        · rename_i h2
          cases h
          exact ⟨i, v, rfl, rfl, rfl, rfl, rfl, by simpa using h2, h1⟩
        · cases h
      · rw [if_neg h1] at h
        cases h

theorem vmakeSlice_eq {nest : Bool} {nid : Nat} {t e : TypeId} {k k' : IntKind} {l c : Int} {sz b : Nat} {z : List CV} (he : elemOfSlice P t = some e) (hel : elOf P e = some (sz, b, z)) :
    vmakeSlice P nest nid t (vI k l) (vI k' c) = if 0 ≤ l ∧ l = c ∧ small b c.toNat = true ∧ c ≤ 4611686018427387904 then
      some (.one (.sl nid 0 l.toNat l.toNat), [if nest && isSliceT P e && decide (l.toNat ≠ 0) then .opn (List.replicate l.toNat (z.map .c)) false else .clo (List.replicate l.toNat z) false], []) else none := by
  obtain ⟨i, v, h1, h2, h3, h4, h5, h6, h7⟩ := elOf_facts hel
  unfold vmakeSlice
  simp only [he, h1, h2, h3, h4, h5, h6, h7, and_true]

theorem vbuildSlice_eq {nid : Nat} {ρ : Operand → Option AV} {t e : TypeId} {len : Nat} {ps : List (Nat × Operand)} {sz b : Nat} {z : List CV} (he : elemOfSlice P t = some e) (hel : elOf P e = some (sz, b, z)) (hlen : len ≠ 0) :
    vbuildSlice P H nid ρ t len ps = match partsOf ρ ps with
      | some ps => match fzParts H ps with
        | some qs => if len * sz ≤ 16777216 ∧ len * sz ≠ 0 ∧ qs.all (fun p => p.1 < len && p.2.length == sz) = true then
            some (.one (.sl nid 0 len len), [.clo (setAll (List.replicate len z) qs) false], rchParts H ps) else none
        | none => none
      | none => none := by
  obtain ⟨i, v, h1, h2, h3, h4, h5, h6, h7⟩ := elOf_facts hel
  unfold vbuildSlice
  rw [if_neg (fun h => hlen h.1)]
  unfold vbuildSlice1
  simp only [he]
  cases partsOf ρ ps with
  | none => rfl
  | some ps =>
    simp only [h1, h2]
    cases fzParts H ps with
    | none => rfl
    | some qs =>
      simp only [h3, h5, h6, h7, true_and]

theorem vappend_eq {t tx e ex : TypeId} {id n : Nat} {l xs : List (List CV)} {x : AV} {sz b : Nat} {z : List CV} (he : elemOfSlice P t = some e) (hex : elemOfSlice P tx = some ex) (hel : elOf P e = some (sz, b, z))
    (hH : H[id]? = some (.clo l false)) (hx : elemsOf H x = some xs) (hn : l.length = n) (hl : ∀ e ∈ l, e.length = sz) (hxs : ∀ e ∈ xs, e.length = sz) (hs : b * (n + xs.length) ≤ 70368744177664) (h62 : n + xs.length ≤ 4611686018427387904) :
    vappend P H t tx (.one (.sl id 0 n n)) x = some (.one (.sl id 0 (n + xs.length) (n + xs.length)), H.set id (.clo (l ++ xs) false)) := by
  obtain ⟨i, v, h1, h2, h3, h4, h5, h6, h7⟩ := elOf_facts hel
  unfold vappend
  simp only [he, hex, hx, hH, h1, h2, h3, h4]
  rw [if_pos ⟨trivial, trivial, hn, hl, hxs, h6, by simp [small]; exact hs, h62⟩]

attribute [simp] e_skip e_exit e_ret e_region e_seq e_block e_loop e_cond b_bool e_nil e_cons e_grd rd_some rd_qa put_some put_none wr_some frz_nil ev_tmp ev_int ev_bool ev_str ev_func ev_nil ev_nilp isNil_tmp isNil_int isNil_bool isNil_str isNil_nil
  then_n then_e then_r block_n block_e block_r end_n end_r ends_n ends_r g_bool g_und upd_get vmove vpick bin_add bin_sub bin_mul bin_eql bin_neq bin_lss bin_leq bin_gtr bin_geq sbin_eql sbin_neq sbin_lss un_not un_neg mapO vres join fza fzc nrm CA.av env0 envS
  s_move s_assign s_pick s_alloc s_box s_build s_buildSlice s_load s_nilCheck s_binOp s_unOp s_convert s_makeFunc s_makeSlice s_slice s_fieldAddr s_field s_indexAddr s_index s_extract s_call s_calls s_callv s_len s_max s_min s_store s_append
  vfieldAddr_eq vload_eq vfield_eq valloc_eq vbuild_eq vextract behind cellsAt shift ownz vbox AV.cells

end Go.Proofs.Vm
end

section
/- One table for a whole program: what its functions answer, by their own runs. -/
namespace Go.Proofs.Vm
open Go

structure Cfg where
  sh : FuncId → Bool
  nest : FuncId → Bool
  base : Tab

variable {P : Program} {C : Cfg}

def fxOf (P : Program) (C : Cfg) (f : FuncId) : Fx := ⟨match P.funcs[f]? with | some fn => fn.ntmps | none => 0, C.sh, C.nest f⟩

def runP (P : Program) (C : Cfg) (T : Tab) (f : FuncId) (args : List CA) (r : CA) : Prop :=
  ∃ fn c, P.funcs[f]? = some fn ∧ fn.body = some c ∧ FnOk P f ∧ codeB P (fxOf P C f) c = true ∧ args.length ≤ fn.ntmps ∧ wpV P T (fxOf P C f) c (endK P fn.results.toList r) ⟨env0 args, []⟩

def runS (P : Program) (C : Cfg) (T : Tab) (f : FuncId) (args : List AV) (H : Hp) (r : AV × Hp) : Prop :=
  ∃ fn c, P.funcs[f]? = some fn ∧ fn.body = some c ∧ FnOk P f ∧ codeB P (fxOf P C f) c = true ∧ args.length ≤ fn.ntmps ∧ H.length ≤ r.2.length ∧ wpV P T (fxOf P C f) c (endS P fn.results.toList r.1 r.2) ⟨envS args, H⟩

theorem endK_det {T : Tab} {N : Fx} {rs : List ResultVar} {c : Code} {s : St} {r r' : CA} (h : wpV P T N c (endK P rs r) s) (g : wpV P T N c (endK P rs r') s) : r = r' := by
  obtain ⟨ex, s1, ⟨m, h1⟩, h2⟩ := h
  obtain ⟨ex', s2, ⟨m', g1⟩, g2⟩ := g
  have e1 := h1 (max m m') (by omega)
  rw [g1 (max m m') (by omega)] at e1
  cases e1
  have fin : (∃ l a, mapO (vres P s1) rs = some l ∧ join l = some a ∧ fza s1.H a = some r) → (∃ l a, mapO (vres P s1) rs = some l ∧ join l = some a ∧ fza s1.H a = some r') → r = r' := by
    rintro ⟨l, a, a1, a2, a3⟩ ⟨l', a', b1, b2, b3⟩
    rw [a1] at b1
    cases b1
    rw [a2] at b2
    cases b2
    rw [a3] at b3
    cases b3
    rfl
  cases ex with
  | exit id => exact h2.elim
  | normal => exact fin h2 g2
  | ret => exact fin h2 g2

theorem runP_det {T : Tab} {f : FuncId} {args : List CA} {r r' : CA} (h : runP P C T f args r) (g : runP P C T f args r') : r = r' := by
  obtain ⟨fn, c, h1, h2, _, _, _, h3⟩ := h
  obtain ⟨fn', c', g1, g2, _, _, _, g3⟩ := g
  rw [h1] at g1
  cases g1
  rw [h2] at g2
  cases g2
  exact endK_det h3 g3

theorem runS_det {T : Tab} {f : FuncId} {args : List AV} {H : Hp} {r r' : AV × Hp} (h : runS P C T f args H r) (g : runS P C T f args H r') : r = r' := by
  obtain ⟨fn, c, h1, h2, _, _, _, _, h3⟩ := h
  obtain ⟨fn', c', g1, g2, _, _, _, _, g3⟩ := g
  rw [h1] at g1
  cases g1
  rw [h2] at g2
  cases g2
  obtain ⟨e1, e2⟩ := endS_det h3 g3
  exact Prod.ext e1 e2

/-- One table knows all that another knows. -/
def TLe (T T' : Tab) : Prop := (∀ f a r, T.pu f a = some r → T'.pu f a = some r) ∧ ∀ f a H r, T.S f a H = some r → T'.S f a H = some r

theorem TLe.refl (T : Tab) : TLe T T := ⟨fun _ _ _ h => h, fun _ _ _ _ h => h⟩
theorem TLe.trans {A B D : Tab} (h : TLe A B) (g : TLe B D) : TLe A D := ⟨fun f a r x => g.1 f a r (h.1 f a r x), fun f a H r x => g.2 f a H r (h.2 f a H r x)⟩

section
variable {T T' : Tab}

theorem vcall_mono (L : TLe T T') {H : Hp} {fv : AV} {ags : List AV} {r : AV × List Ent × List Nat} (h : vcall T H fv ags = some r) : vcall T' H fv ags = some r := by
  unfold vcall at h ⊢
  split at h
  · rename_i g cs ks h1 h2
    split at h
    · rename_i x hx
      rw [L.1 _ _ _ hx]
      exact h
    · cases h
  · cases h

theorem vrd_mono (L : TLe T T') {nest : Bool} {H : Hp} {nid : Nat} {ρ : Operand → Option AV} {o : Oper} {r : AV × List Ent × List Nat} (h : vrd P T nest H nid ρ o = some r) : vrd P T' nest H nid ρ o = some r := by
  obtain ⟨d, op, ty, pos, aft, g⟩ := o
  cases op <;> first | exact h | skip
  rename_i c
  obtain ⟨ca, ags, ts⟩ := c
  cases ca with
  | builtin b => cases b <;> exact h
  | value v =>
    simp only [vrd] at h ⊢
    split at h
    · exact vcall_mono L h
    · cases h
  | _ => exact h

theorem vwr_mono (L : TLe T T') {N : Fx} {H : Hp} {ρ : Operand → Option AV} {o : Oper} {r : AV × Hp} (h : vwr P T N H ρ o = some r) : vwr P T' N H ρ o = some r := by
  obtain ⟨d, op, ty, pos, aft, g⟩ := o
  cases op <;> first | exact h | skip
  rename_i c
  obtain ⟨ca, ags, ts⟩ := c
  cases ca with
  | builtin b =>
    cases b <;> first | exact h | (simp only [vwr] at h ⊢; revert h; rcases ags.toList with _ | ⟨a1, _ | ⟨a2, _ | ⟨a3, a4⟩⟩⟩ <;> rcases ts.toList with _ | ⟨b1, _ | ⟨b2, _ | ⟨b3, b4⟩⟩⟩ <;> exact id)
  | value v =>
    cases v with
    | func g =>
      simp only [vwr] at h ⊢
      split at h
      · rename_i hs
        rw [if_pos hs]
        split at h
        · rename_i ags' ha
          exact L.2 _ _ _ _ h
        · cases h
      · cases h
    | _ => exact h
  | _ => exact h

theorem stepV_mono (L : TLe T T') {N : Fx} {ops : Array Oper} {o : Oper} {s r : St} (h : stepV P T N ops o s = some r) : stepV P T' N ops o s = some r := by
  unfold stepV at h ⊢
  split at h
  · exact h
  · split at h
    · rename_i hw
      rw [if_pos hw]
      split at h
      · rename_i a K hv
        rw [vwr_mono L hv]
        exact h
      · cases h
    · rename_i hw
      rw [if_neg hw]
      split at h
      · rename_i a K ms hv
        rw [vrd_mono L hv]
        exact h
      · cases h
  · cases h

theorem runV_mono (L : TLe T T') {N : Fx} {ops : Array Oper} : ∀ {os : List Oper} {s r : St}, runV P T N ops os s = some r → runV P T' N ops os s = some r
  | [], _, _, h => h
  | o :: os, s, r, h => by
    simp only [runV] at h ⊢
    split at h
    · rename_i s1 h1
      rw [stepV_mono L h1]
      exact runV_mono L h
    · cases h

theorem vcode_le (L : TLe T T') {N : Fx} {n : Nat} : ∀ (c : Code) (s : St) (r : Ex × St), vcode P T N n c s = some r → vcode P T' N n c s = some r := by
  intro c
  induction c with
  | skip => intro s r h; exact h
  | region id ops d =>
    intro s r h
    simp only [vcode] at h ⊢
    split at h
    · rename_i s1 h1
      rw [runV_mono L h1]
      exact h
    · cases h
  | exit id => intro s r h; exact h
  | ret => intro s r h; exact h
  | seq a b iha ihb =>
    intro s r h
    simp only [vcode] at h ⊢
    split at h
    · rename_i s1 h1
      rw [iha _ _ h1]
      exact ihb _ _ h
    · rename_i h1
      rw [iha _ _ h]
      split
      · rename_i heq
        cases heq
        exact absurd h (h1 _)
      · rfl
  | cond c x y ihx ihy =>
    intro s r h
    simp only [vcode] at h ⊢
    split at h
    case h_2 => cases h
    rename_i t ht
    split at h
    · rename_i hb
      rw [if_pos hb]
      exact ihx _ _ h
    · rename_i hb
      rw [if_neg hb]
      exact ihy _ _ h
  | block id c ih =>
    intro s r h
    simp only [vcode] at h ⊢
    split at h
    · rename_i k s1 h1
      rw [ih _ _ h1]
      exact h
    · rename_i h1
      rw [ih _ _ h]
      split
      · rename_i heq
        cases heq
        exact absurd h (h1 _ _)
      · rfl
  | loop c ih =>
    intro s r h
    simp only [vcode] at h ⊢
    exact iter_mono ih h (Nat.le_refl _)
  | rangeFunc f params assign body _ _ => intro s r h; cases h
  | scope body _ => intro s r h; cases h
  | label l => intro s r h; cases h
  | goto l => intro s r h; cases h
  | refuse why => intro s r h; cases h

theorem wpV_le (L : TLe T T') {N : Fx} {c : Code} {K : Ex → St → Prop} {s : St} (h : wpV P T N c K s) : wpV P T' N c K s := by
  rw [wpV_iff] at h ⊢
  obtain ⟨n, ex, s', h1, h2⟩ := h
  exact ⟨n, ex, s', vcode_le L _ _ _ h1, h2⟩

theorem runP_le (L : TLe T T') {f : FuncId} {args : List CA} {r : CA} (h : runP P C T f args r) : runP P C T' f args r := by
  obtain ⟨fn, c, h1, h2, h3, h4, h5, h6⟩ := h
  exact ⟨fn, c, h1, h2, h3, h4, h5, wpV_le L h6⟩

theorem runS_le (L : TLe T T') {f : FuncId} {args : List AV} {H : Hp} {r : AV × Hp} (h : runS P C T f args H r) : runS P C T' f args H r := by
  obtain ⟨fn, c, h1, h2, h3, h4, h5, h6, h7⟩ := h
  exact ⟨fn, c, h1, h2, h3, h4, h5, h6, wpV_le L h7⟩
end

open Classical in
noncomputable def stepT (P : Program) (C : Cfg) (T : Tab) : Tab where
  pu f args := match C.base.pu f args with
    | some r => some r
    | none => if h : ∃ r, runP P C T f args r then some (Classical.choose h) else none
  S f args H := match C.base.S f args H with
    | some r => some r
    | none => if h : ∃ r, runS P C T f args H r then some (Classical.choose h) else none

theorem stepT_pu {T : Tab} {f : FuncId} {args : List CA} {r : CA} : (stepT P C T).pu f args = some r ↔ C.base.pu f args = some r ∨ C.base.pu f args = none ∧ runP P C T f args r := by
  unfold stepT
  dsimp only
  cases hb : C.base.pu f args with
  | some x => simp
  | none =>
    simp only [reduceCtorEq, true_and, false_or]
    split
    · rename_i h
      constructor
      · intro g
        cases g
        exact Classical.choose_spec h
      · intro g
        rw [runP_det g (Classical.choose_spec h)]
    · rename_i h
      exact ⟨fun g => (by cases g), fun g => absurd ⟨r, g⟩ h⟩

theorem stepT_S {T : Tab} {f : FuncId} {args : List AV} {H : Hp} {r : AV × Hp} : (stepT P C T).S f args H = some r ↔ C.base.S f args H = some r ∨ C.base.S f args H = none ∧ runS P C T f args H r := by
  unfold stepT
  dsimp only
  cases hb : C.base.S f args H with
  | some x => simp
  | none =>
    simp only [reduceCtorEq, true_and, false_or]
    split
    · rename_i h
      constructor
      · intro g
        cases g
        exact Classical.choose_spec h
      · intro g
        rw [runS_det g (Classical.choose_spec h)]
    · rename_i h
      exact ⟨fun g => (by cases g), fun g => absurd ⟨r, g⟩ h⟩

theorem stepT_mono {T T' : Tab} (L : TLe T T') : TLe (stepT P C T) (stepT P C T') :=
  ⟨fun f a r h => stepT_pu.2 ((stepT_pu.1 h).imp id fun g => ⟨g.1, runP_le L g.2⟩), fun f a H r h => stepT_S.2 ((stepT_S.1 h).imp id fun g => ⟨g.1, runS_le L g.2⟩)⟩

theorem stepT_ok (hm : P.follows .mixedOrders = true) (hB : TOk P C.base) {T : Tab} (hT : TOk P T) : TOk P (stepT P C T) := by
  refine ⟨fun f args r h => ?_, fun f args H r H' h => ?_⟩
  · rcases stepT_pu.1 h with h | ⟨_, fn, c, h1, h2, h3, h4, h5, h6⟩
    · exact hB.1 f args r h
    · exact ⟨h3, ctr_of hm h1 h2 h4 hT ⟨h5, by simp [fxOf, h1]⟩ rfl h6⟩
  · rcases stepT_S.1 h with h | ⟨_, fn, c, h1, h2, h3, h4, h5, h6, h7⟩
    · exact hB.2 f args H r H' h
    · exact ⟨h6, h3, sctr_of hm h1 h2 h4 hT ⟨h5, by simp [fxOf, h1]⟩ h7⟩

noncomputable def tabN (P : Program) (C : Cfg) : Nat → Tab
  | 0 => C.base
  | d + 1 => stepT P C (tabN P C d)

theorem tabN_succ : ∀ d, TLe (tabN P C d) (tabN P C (d + 1))
  | 0 => ⟨fun f a r h => stepT_pu.2 (Or.inl h), fun f a H r h => stepT_S.2 (Or.inl h)⟩
  | d + 1 => stepT_mono (tabN_succ d)

theorem tabN_le {d d' : Nat} (h : d ≤ d') : TLe (tabN P C d) (tabN P C d') := by
  induction h with
  | refl => exact .refl _
  | step _ ih => exact ih.trans (tabN_succ _)

theorem tabN_ok (hm : P.follows .mixedOrders = true) (hB : TOk P C.base) : ∀ d, TOk P (tabN P C d)
  | 0 => hB
  | d + 1 => stepT_ok hm hB (tabN_ok hm hB d)

/-- The whole table. -/
noncomputable def TT (P : Program) (C : Cfg) : Tab := by
  classical
  exact { pu := fun f args => if h : ∃ r d, (tabN P C d).pu f args = some r then some (Classical.choose h) else none
          S := fun f args H => if h : ∃ r d, (tabN P C d).S f args H = some r then some (Classical.choose h) else none }

theorem TT_pu {f : FuncId} {args : List CA} {r : CA} : (TT P C).pu f args = some r ↔ ∃ d, (tabN P C d).pu f args = some r := by
  unfold TT
  dsimp only
  split
  · rename_i h
    obtain ⟨d, hd⟩ := Classical.choose_spec h
    constructor
    · intro g
      cases g
      exact ⟨d, hd⟩
    · rintro ⟨d', hd'⟩
      have e1 := (tabN_le (Nat.le_max_left d d')).1 _ _ _ hd
      have e2 := (tabN_le (Nat.le_max_right d d')).1 _ _ _ hd'
      rw [e1] at e2
      exact e2
  · rename_i h
    exact ⟨fun g => (by cases g), fun ⟨d, g⟩ => absurd ⟨r, d, g⟩ h⟩

theorem TT_S {f : FuncId} {args : List AV} {H : Hp} {r : AV × Hp} : (TT P C).S f args H = some r ↔ ∃ d, (tabN P C d).S f args H = some r := by
  unfold TT
  dsimp only
  split
  · rename_i h
    obtain ⟨d, hd⟩ := Classical.choose_spec h
    constructor
    · intro g
      cases g
      exact ⟨d, hd⟩
    · rintro ⟨d', hd'⟩
      have e1 := (tabN_le (Nat.le_max_left d d')).2 _ _ _ _ hd
      have e2 := (tabN_le (Nat.le_max_right d d')).2 _ _ _ _ hd'
      rw [e1] at e2
      exact e2
  · rename_i h
    exact ⟨fun g => (by cases g), fun ⟨d, g⟩ => absurd ⟨r, d, g⟩ h⟩

theorem TT_ok (hm : P.follows .mixedOrders = true) (hB : TOk P C.base) : TOk P (TT P C) :=
  ⟨fun f args r h => by obtain ⟨d, hd⟩ := TT_pu.1 h; exact (tabN_ok hm hB d).1 f args r hd, fun f args H r H' h => by obtain ⟨d, hd⟩ := TT_S.1 h; exact (tabN_ok hm hB d).2 f args H r H' hd⟩

theorem vwr_fin {N : Fx} {H : Hp} {ρ : Operand → Option AV} {o : Oper} {r : AV × Hp} (hv : vwr P (TT P C) N H ρ o = some r) : ∃ d, vwr P (tabN P C d) N H ρ o = some r := by
  obtain ⟨d, op, ty, pos, aft, g⟩ := o
  cases op <;> first | exact ⟨0, hv⟩ | skip
  rename_i c
  obtain ⟨ca, ags, ts⟩ := c
  cases ca with
  | builtin b =>
    cases b <;> first | exact ⟨0, hv⟩ | (simp only [vwr] at hv ⊢; revert hv; rcases ags.toList with _ | ⟨a1, _ | ⟨a2, _ | ⟨a3, a4⟩⟩⟩ <;> rcases ts.toList with _ | ⟨b1, _ | ⟨b2, _ | ⟨b3, b4⟩⟩⟩ <;> exact fun hv => ⟨0, hv⟩)
  | value v =>
    cases v with
    | func g =>
      simp only [vwr] at hv ⊢
      split at hv
      · rename_i hs
        simp only [if_pos hs]
        split at hv
        · rename_i ags' ha
          exact TT_S.1 hv
        · cases hv
      · cases hv
    | _ => exact ⟨0, hv⟩
  | _ => exact ⟨0, hv⟩

theorem vrd_fin {nest : Bool} {H : Hp} {nid : Nat} {ρ : Operand → Option AV} {o : Oper} {r : AV × List Ent × List Nat} (hv : vrd P (TT P C) nest H nid ρ o = some r) : ∃ d, vrd P (tabN P C d) nest H nid ρ o = some r := by
  obtain ⟨d, op, ty, pos, aft, g⟩ := o
  cases op <;> first | exact ⟨0, hv⟩ | skip
  rename_i c
  obtain ⟨ca, ags, ts⟩ := c
  cases ca with
  | builtin b => cases b <;> exact ⟨0, hv⟩
  | value v =>
    simp only [vrd] at hv ⊢
    split at hv
    · rename_i fv args h1 h2
      unfold vcall at hv ⊢
      split at hv
      · rename_i g cs ks h3 h4
        split at hv
        · rename_i x hx
          obtain ⟨d, hd⟩ := TT_pu.1 hx
          exact ⟨d, by rw [hd]; exact hv⟩
        · cases hv
      · cases hv
    · cases hv
  | _ => exact ⟨0, hv⟩

/-- What a run asks of the whole table some part of it knows. -/
theorem stepV_fin {N : Fx} {ops : Array Oper} {o : Oper} {s r : St} (h : stepV P (TT P C) N ops o s = some r) : ∃ d, stepV P (tabN P C d) N ops o s = some r := by
  unfold stepV at h ⊢
  split at h
  · exact ⟨0, h⟩
  · split at h
    · rename_i hw
      simp only [if_pos hw]
      split at h
      · rename_i a K hv
        obtain ⟨d, hd⟩ := vwr_fin hv
        exact ⟨d, by rw [hd]; exact h⟩
      · cases h
    · rename_i hw
      simp only [if_neg hw]
      split at h
      · rename_i a K ms hv
        obtain ⟨d, hd⟩ := vrd_fin hv
        exact ⟨d, by rw [hd]; exact h⟩
      · cases h
  · cases h

theorem runV_fin {N : Fx} {ops : Array Oper} : ∀ {os : List Oper} {s r : St}, runV P (TT P C) N ops os s = some r → ∃ d, runV P (tabN P C d) N ops os s = some r
  | [], _, _, h => ⟨0, h⟩
  | o :: os, s, r, h => by
    simp only [runV] at h ⊢
    split at h
    · rename_i s1 h1
      obtain ⟨d, hd⟩ := stepV_fin h1
      obtain ⟨d', hd'⟩ := runV_fin h
      refine ⟨max d d', ?_⟩
      rw [stepV_mono (tabN_le (Nat.le_max_left d d')) hd]
      exact runV_mono (tabN_le (Nat.le_max_right d d')) hd'
    · cases h

theorem iter_fin {N : Fx} {n : Nat} {c : Code} (ih : ∀ s r, vcode P (TT P C) N n c s = some r → ∃ d, vcode P (tabN P C d) N n c s = some r) : ∀ {k : Nat} {s : St} {r : Ex × St}, iter k (vcode P (TT P C) N n c) s = some r → ∃ d, iter k (vcode P (tabN P C d) N n c) s = some r
  | 0, _, _, h => by cases h
  | k + 1, s, r, h => by
    simp only [iter] at h
    split at h
    · rename_i s1 h1
      obtain ⟨d, hd⟩ := ih _ _ h1
      obtain ⟨d', hd'⟩ := iter_fin ih h
      refine ⟨max d d', ?_⟩
      simp only [iter]
      rw [vcode_le (tabN_le (Nat.le_max_left d d')) _ _ _ hd]
      exact iter_mono (vcode_le (tabN_le (Nat.le_max_right d d')) c) hd' (Nat.le_refl _)
    · rename_i h1
      obtain ⟨d, hd⟩ := ih _ _ h
      refine ⟨d, ?_⟩
      simp only [iter]
      rw [hd]
      split
      · rename_i heq
        cases heq
        exact absurd h (h1 _)
      · rfl

theorem vcode_fin {N : Fx} {n : Nat} : ∀ (c : Code) (s : St) (r : Ex × St), vcode P (TT P C) N n c s = some r → ∃ d, vcode P (tabN P C d) N n c s = some r := by
  intro c
  induction c with
  | skip => intro s r h; exact ⟨0, h⟩
  | region id ops d =>
    intro s r h
    simp only [vcode] at h ⊢
    split at h
    · rename_i s1 h1
      obtain ⟨d, hd⟩ := runV_fin h1
      exact ⟨d, by rw [hd]; exact h⟩
    · cases h
  | exit id => intro s r h; exact ⟨0, h⟩
  | ret => intro s r h; exact ⟨0, h⟩
  | seq a b iha ihb =>
    intro s r h
    simp only [vcode] at h
    split at h
    · rename_i s1 h1
      obtain ⟨d, hd⟩ := iha _ _ h1
      obtain ⟨d', hd'⟩ := ihb _ _ h
      refine ⟨max d d', ?_⟩
      simp only [vcode]
      rw [vcode_le (tabN_le (Nat.le_max_left d d')) _ _ _ hd]
      exact vcode_le (tabN_le (Nat.le_max_right d d')) _ _ _ hd'
    · rename_i h1
      obtain ⟨d, hd⟩ := iha _ _ h
      refine ⟨d, ?_⟩
      simp only [vcode]
      rw [hd]
      split
      · rename_i heq
        cases heq
        exact absurd h (h1 _)
      · rfl
  | cond c x y ihx ihy =>
    intro s r h
    simp only [vcode] at h ⊢
    split at h
    case h_2 => cases h
    rename_i t ht
    split at h
    · rename_i hb
      simp only [if_pos hb]
      exact ihx _ _ h
    · rename_i hb
      simp only [if_neg hb]
      exact ihy _ _ h
  | block id c ih =>
    intro s r h
    simp only [vcode] at h
    split at h
    · rename_i k s1 h1
      obtain ⟨d, hd⟩ := ih _ _ h1
      exact ⟨d, by simp only [vcode]; rw [hd]; exact h⟩
    · rename_i h1
      obtain ⟨d, hd⟩ := ih _ _ h
      refine ⟨d, ?_⟩
      simp only [vcode]
      rw [hd]
      split
      · rename_i heq
        cases heq
        exact absurd h (h1 _ _)
      · rfl
  | loop c ih =>
    intro s r h
    simp only [vcode] at h ⊢
    exact iter_fin ih h
  | rangeFunc f params assign body _ _ => intro s r h; cases h
  | scope body _ => intro s r h; cases h
  | label l => intro s r h; cases h
  | goto l => intro s r h; cases h
  | refuse why => intro s r h; cases h

theorem wpV_fin {N : Fx} {c : Code} {K : Ex → St → Prop} {s : St} (h : wpV P (TT P C) N c K s) : ∃ d, wpV P (tabN P C d) N c K s := by
  obtain ⟨n, ex, s', h1, h2⟩ := wpV_iff.1 h
  obtain ⟨d, hd⟩ := vcode_fin _ _ _ h1
  exact ⟨d, wpV_iff.2 ⟨n, ex, s', hd, h2⟩⟩

/-- A function's answer, by its run over the whole table. -/
theorem TT_run {f : FuncId} {fn : Func} {c : Code} (hf : P.funcs[f]? = some fn) (hb : fn.body = some c) (hok : FnOk P f) (hc : codeB P (fxOf P C f) c = true) (hbase : ∀ args, C.base.pu f args = none) {args : List CA} (hl : args.length ≤ fn.ntmps) {r : CA}
    (h : wpV P (TT P C) (fxOf P C f) c (endK P fn.results.toList r) ⟨env0 args, []⟩) : (TT P C).pu f args = some r := by
  obtain ⟨d, hd⟩ := wpV_fin h
  exact TT_pu.2 ⟨d + 1, stepT_pu.2 (.inr ⟨hbase args, fn, c, hf, hb, hok, hc, hl, hd⟩)⟩

theorem TT_runS {f : FuncId} {fn : Func} {c : Code} (hf : P.funcs[f]? = some fn) (hb : fn.body = some c) (hok : FnOk P f) (hc : codeB P (fxOf P C f) c = true) (hbase : ∀ args H, C.base.S f args H = none) {args : List AV} (hl : args.length ≤ fn.ntmps) {H H' : Hp} {r : AV} (hH : H.length ≤ H'.length)
    (h : wpV P (TT P C) (fxOf P C f) c (endS P fn.results.toList r H') ⟨envS args, H⟩) : (TT P C).S f args H = some (r, H') := by
  obtain ⟨d, hd⟩ := wpV_fin h
  exact TT_S.2 ⟨d + 1, stepT_S.2 (.inr ⟨hbase args H, fn, c, hf, hb, hok, hc, hl, hH, hd⟩)⟩

theorem TT_base {f : FuncId} {args : List CA} {r : CA} (h : C.base.pu f args = some r) : (TT P C).pu f args = some r := TT_pu.2 ⟨0, h⟩
theorem TT_baseS {f : FuncId} {args : List AV} {H : Hp} {r : AV × Hp} (h : C.base.S f args H = some r) : (TT P C).S f args H = some r := TT_S.2 ⟨0, h⟩

end Go.Proofs.Vm
end

section
/- The value machine: calls, places of slices, lengths, ags rewriting rules. -/
namespace Go.Proofs.Vm
open Go

variable {P : Program} {T : Tab} {N : Fx} {H : Hp}

theorem rd_none {d : Option Tmp} {e : Nat → AV} {K : St → Prop} : rdK N d e H none K ↔ False := Iff.rfl
theorem rd_ite {d : Option Tmp} {e : Nat → AV} {K : St → Prop} {c : Prop} [Decidable c] {r : RR} : rdK N d e H (if c then r else none) K ↔ c ∧ rdK N d e H r K := by
  by_cases h : c
  · simp [h]
  · simp [h, rdK]
theorem wr_none {d : Option Tmp} {e : Nat → AV} {K : St → Prop} : wrK N d e none K ↔ False := Iff.rfl
theorem wr_ite {d : Option Tmp} {e : Nat → AV} {K : St → Prop} {c : Prop} [Decidable c] {r : Option (AV × Hp)} : wrK N d e (if c then r else none) K ↔ c ∧ wrK N d e r K := by
  by_cases h : c
  · simp [h]
  · simp [h, wrK]
theorem wr_some' {d : Option Tmp} {e : Nat → AV} {a : AV} {L : Hp} {K : St → Prop} : wrK N d e (some (a, L)) K ↔ putK N d e L a K := Iff.rfl

theorem one_int {k : IntKind} {n : Int} : one? (.int k n) = qa (vI k n) := by simp [one?, Value.oneCell']

/-- What a call's answer becomes. -/
def callK (N : Fx) (d : Option Tmp) (e : Nat → AV) (H : Hp) (ms : List Nat) (r : Option CA) (K : St → Prop) : Prop :=
  match r with
  | some a => putK N d e (frzAll H (if a.plain then [] else ms)) a.av K
  | none => False

theorem call_fn {d : Option Tmp} {e : Nat → AV} {K : St → Prop} {g : FuncId} {ags : List AV} {ks : List CA} (h : mapO (fza H) ags = some ks) :
    rdK N d e H (vcall T H (.one (.fn g [])) ags) K ↔ callK N d e H (ags.map (rcha H)).flatten (T.pu g ks) K := by
  unfold vcall
  rw [show calleeOf H (.one (.fn g [])) = some (g, []) by simp [calleeOf, fzc, mapO], h]
  dsimp only
  rw [List.map_nil, List.append_nil, show rcha H (.one (.fn g [])) = [] by simp [rcha, rch], List.nil_append]
  cases T.pu g ks with
  | none => rfl
  | some r => simp only [rdK, callK, List.append_nil]

theorem call_cfn {d : Option Tmp} {e : Nat → AV} {K : St → Prop} {g : FuncId} {cs : List CV} {ags : List AV} {ks : List CA} (h : mapO (fza H) ags = some ks) :
    rdK N d e H (vcall T H (.one (.c (.fn g cs))) ags) K ↔ callK N d e H (ags.map (rcha H)).flatten (T.pu g (ks ++ cs.map .one)) K := by
  unfold vcall
  rw [show calleeOf H (.one (.c (.fn g cs))) = some (g, cs) by simp [calleeOf], h]
  dsimp only
  rw [show rcha H (.one (.c (.fn g cs))) = [] by simp [rcha, rch], List.nil_append]
  cases T.pu g (ks ++ cs.map .one) with
  | none => rfl
  | some r => simp only [rdK, callK, List.append_nil]

theorem callK_eq {d : Option Tmp} {e : Nat → AV} {K : St → Prop} {ms : List Nat} {a : CA} : callK N d e H ms (some a) K ↔ putK N d e (frzAll H (if a.plain = true then [] else ms)) a.av K := Iff.rfl
theorem callK_none {d : Option Tmp} {e : Nat → AV} {K : St → Prop} {ms : List Nat} : callK N d e H ms none K ↔ False := Iff.rfl
theorem rcha_c {x : CV} : rcha H (.one (.c x)) = [] := by simp [rcha, rch]
theorem rcha_cs {l : List CV} : rcha H (.agg (l.map .c)) = [] := by
  induction l with
  | nil => rfl
  | cons x l ih => simp [rcha, rch]
theorem rch_c {n : Nat} {x : CV} : rch n H (.c x) = [] := by cases n <;> simp [rch]
theorem rcha_agg {l : List Cell} : rcha H (.agg l) = (l.map (rch 5 H)).flatten := rfl
theorem rcha_fn {g : FuncId} : rcha H (.one (.fn g [])) = [] := by simp [rcha, rch]

theorem ia_arr {t e : TypeId} {sz : Nat} (he : elemOfSlice P t = some e) (hs : pv P (sizeOf e) = some sz) {k : IntKind} {l : List (List CV)} {i : Int} :
    vindexAddr P H t (.one (.c (.arr l))) (vI k i) = if 0 ≤ i then (match l[i.toNat]? with | some x => if x.length = sz then qa (.one (.c (.cptr x))) else none | none => none) else none := by
  unfold vindexAddr
  simp only [he, hs]
  cases l[i.toNat]? <;> rfl

theorem ia_sl {t e : TypeId} {sz : Nat} (he : elemOfSlice P t = some e) (hs : pv P (sizeOf e) = some sz) {k : IntKind} {id o n tot : Nat} {i : Int} :
    vindexAddr P H t (.one (.sl id o n tot)) (vI k i) = if 0 ≤ i then (if i.toNat < n then (if elAt H id tot (o + i.toNat) = some sz then qa (.one (.ptr ⟨id, o + i.toNat, 0, tot⟩)) else none) else none) else none := by
  unfold vindexAddr
  simp only [he, hs]

theorem len_arr {t e ty : TypeId} (he : elemOfSlice P t = some e) {l : List (List CV)} : vlen P H #[t] ty (.one (.c (.arr l))) = qa (vI .i64 l.length) := by
  simp [vlen, he, one_int]

theorem len_sl {t e ty : TypeId} (he : elemOfSlice P t = some e) {id o n tot : Nat} : vlen P H #[t] ty (.one (.sl id o n tot)) = if lenIs H id tot = true then qa (vI .i64 n) else none := by
  simp [vlen, he, one_int]

theorem len_nil {t e ty : TypeId} (he : elemOfSlice P t = some e) (hu : pv P (underlying t) = some (.slice e)) : vlen P H #[t] ty (.one (.c (.v (.slice none 0 0)))) = qa (vI .i64 0) := by
  simp [vlen, AV.sc, Cell.sc, Builtin.len_, hu, ofPv, goInt, one_int]

theorem len_str {t ty : TypeId} (hu : pv P (underlying t) = some .string) {s : ByteArray} : vlen P H #[t] ty (vS s) = qa (vI .i64 s.size) := by
  simp [vlen, AV.sc, Cell.sc, Builtin.len_, hu, ofPv, goInt, one_int]

/-- A text's byte; nought outside. -/
def byt (s : ByteArray) (i : Int) : Int := match s[i.toNat]? with | some b => b.toNat | none => 0

theorem idx_str {t : TypeId} (hu : pv P (underlying t) = some .string) {s : ByteArray} {k : IntKind} {i : Int} (h0 : 0 ≤ i) (h : i < s.size) : vindex P t (vS s) (vI k i) = qa (vI .u8 (byt s i)) := by
  have hb : i.toNat < s.size := by omega
  simp [vindex, AV.sc, Cell.sc, Instr.index, hu, ofPv, one_int, asIntOf, h0, byt, hb]

theorem bin_and' {t : TypeId} {x y : Operand} {k : IntKind} {a b : Int} : vbin P H .and t x y (vI k a) (vI k b) = qa (vI k (Go.bits .and k a b)) := bin_and
theorem bin_or' {t : TypeId} {x y : Operand} {k : IntKind} {a b : Int} : vbin P H .or t x y (vI k a) (vI k b) = qa (vI k (Go.bits .or k a b)) := bin_or
theorem bin_xor' {t : TypeId} {x y : Operand} {k : IntKind} {a b : Int} : vbin P H .xor t x y (vI k a) (vI k b) = qa (vI k (Go.bits .xor k a b)) := bin_xor
theorem fx_sh {n : Nat} {b : FuncId → Bool} {m : Bool} {g : FuncId} : (Fx.mk n b m).sh g = b g := rfl
/-- To the right by a constant. -/
theorem shr_c {a : Int} {n : Nat} : a.fdiv (no_index (OfNat.ofNat n)) = a / OfNat.ofNat n := Int.fdiv_eq_ediv_of_nonneg _ (by simp)

attribute [simp] bin_and' bin_or' bin_xor' fx_sh comps shr_c
def ikOf (P : Program) (t : TypeId) : Option IntKind :=
  match pv P (underlying t) with
  | some (.int k) => some k
  | _ => none

theorem cv_eq {s d : TypeId} {k : IntKind} {n : Int} : vconvert P s d (vI k n) = match ikOf P s, ikOf P d with
    | some _, some k' => qa (vI k' (k'.wrap n))
    | _, _ => ofPv (pv P (convert s d (.int k n))) := by
  cases h1 : ikOf P s with
  | none => simp [vconvert]
  | some a =>
    cases h2 : ikOf P d with
    | none => simp [vconvert]
    | some b =>
      have e1 : pv P (underlying s) = some (.int a) := by
        unfold ikOf at h1
        split at h1
        · rename_i h; cases h1; exact h
        · cases h1
      have e2 : pv P (underlying d) = some (.int b) := by
        unfold ikOf at h2
        split at h2
        · rename_i h; cases h2; exact h
        · cases h2
      simp [vconvert, convert, e1, e2, Conv.intToInt, ofPv, one_int]

theorem max_int {ts : Array TypeId} {ty : TypeId} {k : IntKind} {a b : Int} : vmax P ts ty [vI k a, vI k b] = qa (vI k (if a < b then b else a)) := by
  simp [vmax, scsAV, AV.sc, Cell.sc, Builtin.max_, Builtin.max2, ofPv, one_int]

theorem min_int {ts : Array TypeId} {ty : TypeId} {k : IntKind} {a b : Int} : vmin P ts ty [vI k a, vI k b] = qa (vI k (if b < a then b else a)) := by
  simp [vmin, scsAV, AV.sc, Cell.sc, Builtin.min_, Builtin.min2, ofPv, one_int]

/-! simp goes where the run is, not into what is still to run. -/
@[congr] theorem wpS_congr {ops : Array Oper} {o : Oper} {K : St → Prop} {s s' : St} (h : s = s') : wpS P T N ops o K s = wpS P T N ops o K s' := by rw [h]
@[congr] theorem wpR_congr {ops : Array Oper} {l : List Oper} {K : St → Prop} {s s' : St} (h : s = s') : wpR P T N ops l K s = wpR P T N ops l K s' := by rw [h]
@[congr] theorem wpV_congr {c : Code} {K : Ex → St → Prop} {s s' : St} (h : s = s') : wpV P T N c K s = wpV P T N c K s' := by rw [h]
@[congr] theorem wpL_congr {c : Code} {K : Ex → St → Prop} {s s' : St} (h : s = s') : wpL P T N c K s = wpL P T N c K s' := by rw [h]
@[congr] theorem rdK_congr {d : Option Tmp} {e : Nat → AV} {r r' : RR} {K : St → Prop} (h : r = r') : rdK N d e H r K = rdK N d e H r' K := by rw [h]
@[congr] theorem wrK_congr {d : Option Tmp} {e : Nat → AV} {r r' : Option (AV × Hp)} {K : St → Prop} (h : r = r') : wrK N d e r K = wrK N d e r' K := by rw [h]
@[congr] theorem putK_congr {d : Option Tmp} {e : Nat → AV} {L L' : Hp} {a a' : AV} {K : St → Prop} (h : L = L') (g : a = a') : putK N d e L a K = putK N d e L' a' K := by rw [h, g]
@[congr] theorem callK_congr {d : Option Tmp} {e : Nat → AV} {ms ms' : List Nat} {r r' : Option CA} {K : St → Prop} (h : ms = ms') (g : r = r') : callK N d e H ms r K = callK N d e H ms' r' K := by rw [h, g]
@[congr] theorem guardK_congr {v v' : Option AV} {b : Bool} {x y : Prop} (h : v = v') : guardK v b x y = guardK v' b x y := by rw [h]
@[congr] theorem boolK_congr {v v' : Option AV} {x y : Prop} (h : v = v') : boolK v x y = boolK v' x y := by rw [h]
@[congr] theorem thenK_congr {A : St → Prop} {K : Ex → St → Prop} {x : Ex} {s s' : St} (h : s = s') : thenK A K x s = thenK A K x s' := by rw [h]
@[congr] theorem blockK_congr {i : Nat} {K : Ex → St → Prop} {x : Ex} {s s' : St} (h : s = s') : blockK i K x s = blockK i K x s' := by rw [h]

attribute [simp] Ent.len lenIs elAt
attribute [simp] cv_eq max_int min_int
attribute [simp] callK_eq callK_none rcha_c rch_c rcha_agg rcha_fn CA.plain CV.plain
attribute [simp] rd_none rd_ite wr_none wr_ite wr_some' one_int call_fn call_cfn

end Go.Proofs.Vm
end

section
/- The value machine: a program's table with sorting in place below it. -/
namespace Go.Proofs.Vm
open Go

variable {P : Program} {C : Cfg}

theorem TT_go {f : FuncId} {fn : Func} {c : Code} {N : Fx} (hf : P.funcs[f]? = some fn) (hb : fn.body = some c) (hok : FnOk P f) (hN : N = ⟨fn.ntmps, C.sh, C.nest f⟩) (hc : codeB P N c = true) (hbase : ∀ args, C.base.pu f args = none) {args : List CA} (hl : args.length ≤ fn.ntmps) {r : CA}
    (h : wpV P (TT P C) N c (endK P fn.results.toList r) ⟨env0 args, []⟩) : (TT P C).pu f args = some r := by
  have e : N = fxOf P C f := by rw [hN]; simp [fxOf, hf]
  subst e
  exact TT_run hf hb hok hc hbase hl h

theorem TT_goS {f : FuncId} {fn : Func} {c : Code} {N : Fx} (hf : P.funcs[f]? = some fn) (hb : fn.body = some c) (hok : FnOk P f) (hN : N = ⟨fn.ntmps, C.sh, C.nest f⟩) (hc : codeB P N c = true) (hbase : ∀ args H, C.base.S f args H = none) {args : List AV} (hl : args.length ≤ fn.ntmps) {H H' : Hp} {r : AV} (hH : H.length ≤ H'.length)
    (h : wpV P (TT P C) N c (endS P fn.results.toList r H') ⟨envS args, H⟩) : (TT P C).S f args H = some (r, H') := by
  have e : N = fxOf P C f := by rw [hN]; simp [fxOf, hf]
  subst e
  exact TT_runS hf hb hok hc hbase hl hH h

def intOf : List CV → Option Int
  | [.v (.int .i64 n)] => some n
  | _ => none

def cInt (n : Int) : List CV := [.v (.int .i64 n)]

def sortRun (args : List AV) (H : Hp) : Option (AV × Hp) :=
  match args with
  | [.one (.sl id 0 n tot)] => match H[id]? with
    | some (.clo l false) => match mapO intOf l with
      | some xs => if n = tot ∧ l.length = tot ∧ tot < 4611686018427387904 then some (und, H.set id (.clo ((xs.mergeSort fun x y => decide (x ≤ y)).map cInt) false)) else none
      | none => none
    | _ => none
  | _ => none

def sortTab (g : FuncId) : Tab := ⟨fun _ _ => none, fun f args H => if f = g then sortRun args H else none⟩

theorem mapO_intOf : ∀ xs : List Int, mapO intOf (xs.map cInt) = some xs
  | [] => rfl
  | x :: xs => by
    rw [List.map_cons]
    simp only [mapO, mapO_intOf xs]
    rfl

end Go.Proofs.Vm
end

section
/- Closed facts of this seat's types and functions. -/
namespace Go.Proofs.YteaeigpeaneicaaF
open Go Go.Proofs.Vm
@[simp] theorem ld2 : ldOf Try.prog 2 = some none := by kernel_rfl
@[simp] theorem z2 : zOf Try.prog 2 = some [.int .i64 0] := by kernel_rfl
@[simp] theorem el2 : elOf Try.prog 2 = some (1, 8, [.v (.int .i64 0)]) := by kernel_rfl
@[simp] theorem st2 : isSliceT Try.prog 2 = false := by kernel_rfl
@[simp] theorem sz2 : pv Try.prog (sizeOf 2) = some 1 := by kernel_rfl
@[simp] theorem ik2 : ikOf Try.prog 2 = some .i64 := by kernel_rfl
@[simp] theorem ld3 : ldOf Try.prog 3 = some none := by kernel_rfl
@[simp] theorem z3 : zOf Try.prog 3 = some [.int .i64 0] := by kernel_rfl
@[simp] theorem el3 : elOf Try.prog 3 = some (1, 8, [.v (.int .i64 0)]) := by kernel_rfl
@[simp] theorem st3 : isSliceT Try.prog 3 = false := by kernel_rfl
@[simp] theorem sz3 : pv Try.prog (sizeOf 3) = some 1 := by kernel_rfl
@[simp] theorem ik3 : ikOf Try.prog 3 = some .i64 := by kernel_rfl
@[simp] theorem ld4 : ldOf Try.prog 4 = some none := by kernel_rfl
@[simp] theorem z4 : zOf Try.prog 4 = some [.bool false] := by kernel_rfl
@[simp] theorem el4 : elOf Try.prog 4 = some (1, 1, [.v (.bool false)]) := by kernel_rfl
@[simp] theorem st4 : isSliceT Try.prog 4 = false := by kernel_rfl
@[simp] theorem sz4 : pv Try.prog (sizeOf 4) = some 1 := by kernel_rfl
@[simp] theorem ik4 : ikOf Try.prog 4 = none := by kernel_rfl
@[simp] theorem ld5 : ldOf Try.prog 5 = some none := by kernel_rfl
@[simp] theorem z5 : zOf Try.prog 5 = some [.int .u8 0] := by kernel_rfl
@[simp] theorem el5 : elOf Try.prog 5 = some (1, 1, [.v (.int .u8 0)]) := by kernel_rfl
@[simp] theorem st5 : isSliceT Try.prog 5 = false := by kernel_rfl
@[simp] theorem sz5 : pv Try.prog (sizeOf 5) = some 1 := by kernel_rfl
@[simp] theorem ik5 : ikOf Try.prog 5 = some .u8 := by kernel_rfl
@[simp] theorem ld9 : ldOf Try.prog 9 = some none := by kernel_rfl
@[simp] theorem z9 : zOf Try.prog 9 = some [.string ByteArray.empty] := by kernel_rfl
@[simp] theorem el9 : elOf Try.prog 9 = some (1, 16, [.v (.string ByteArray.empty)]) := by kernel_rfl
@[simp] theorem st9 : isSliceT Try.prog 9 = false := by kernel_rfl
@[simp] theorem sz9 : pv Try.prog (sizeOf 9) = some 1 := by kernel_rfl
@[simp] theorem ik9 : ikOf Try.prog 9 = none := by kernel_rfl
@[simp] theorem us9 : pv Try.prog (underlying 9) = some .string := by kernel_rfl
@[simp] theorem lns9 {H : Hp} {ty : TypeId} {s : ByteArray} : vlen Try.prog H #[9] ty (vS s) = qa (vI .i64 s.size) := len_str us9
@[simp] theorem ld12 : ldOf Try.prog 12 = some none := by kernel_rfl
@[simp] theorem z12 : zOf Try.prog 12 = some [.int .u64 0] := by kernel_rfl
@[simp] theorem el12 : elOf Try.prog 12 = some (1, 8, [.v (.int .u64 0)]) := by kernel_rfl
@[simp] theorem st12 : isSliceT Try.prog 12 = false := by kernel_rfl
@[simp] theorem sz12 : pv Try.prog (sizeOf 12) = some 1 := by kernel_rfl
@[simp] theorem ik12 : ikOf Try.prog 12 = some .u64 := by kernel_rfl
@[simp] theorem ld21 : ldOf Try.prog 21 = some none := by kernel_rfl
@[simp] theorem z21 : zOf Try.prog 21 = some [.int .i32 0] := by kernel_rfl
@[simp] theorem el21 : elOf Try.prog 21 = some (1, 4, [.v (.int .i32 0)]) := by kernel_rfl
@[simp] theorem st21 : isSliceT Try.prog 21 = false := by kernel_rfl
@[simp] theorem sz21 : pv Try.prog (sizeOf 21) = some 1 := by kernel_rfl
@[simp] theorem ik21 : ikOf Try.prog 21 = some .i32 := by kernel_rfl
@[simp] theorem ld22 : ldOf Try.prog 22 = some none := by kernel_rfl
@[simp] theorem z22 : zOf Try.prog 22 = some [.int .u64 0] := by kernel_rfl
@[simp] theorem el22 : elOf Try.prog 22 = some (1, 8, [.v (.int .u64 0)]) := by kernel_rfl
@[simp] theorem st22 : isSliceT Try.prog 22 = false := by kernel_rfl
@[simp] theorem sz22 : pv Try.prog (sizeOf 22) = some 1 := by kernel_rfl
@[simp] theorem ik22 : ikOf Try.prog 22 = some .u64 := by kernel_rfl
@[simp] theorem ld23 : ldOf Try.prog 23 = some none := by kernel_rfl
@[simp] theorem z23 : zOf Try.prog 23 = some [.slice none 0 0] := by kernel_rfl
@[simp] theorem el23 : elOf Try.prog 23 = some (1, 24, [.arr []]) := by kernel_rfl
@[simp] theorem st23 : isSliceT Try.prog 23 = true := by kernel_rfl
@[simp] theorem sz23 : pv Try.prog (sizeOf 23) = some 1 := by kernel_rfl
@[simp] theorem ik23 : ikOf Try.prog 23 = none := by kernel_rfl
@[simp] theorem es23 : elemOfSlice Try.prog 23 = some 33 := by kernel_rfl
@[simp] theorem ld24 : ldOf Try.prog 24 = some (some 2) := by kernel_rfl
@[simp] theorem z24 : zOf Try.prog 24 = some [.int .u64 0, .slice none 0 0] := by kernel_rfl
@[simp] theorem el24 : elOf Try.prog 24 = some (2, 32, [.v (.int .u64 0), .arr []]) := by kernel_rfl
@[simp] theorem st24 : isSliceT Try.prog 24 = false := by kernel_rfl
@[simp] theorem sz24 : pv Try.prog (sizeOf 24) = some 2 := by kernel_rfl
@[simp] theorem ik24 : ikOf Try.prog 24 = none := by kernel_rfl
@[simp] theorem bld24 : bldOf Try.prog 24 = some ([.int .u64 0, .slice none 0 0], [(0, 1), (1, 1)]) := by kernel_rfl
@[simp] theorem off24_0 : offOf Try.prog 24 0 = some 0 := by kernel_rfl
@[simp] theorem fld24_0 : fldOf Try.prog 24 0 = some (0, none) := by kernel_rfl
@[simp] theorem off24_1 : offOf Try.prog 24 1 = some 1 := by kernel_rfl
@[simp] theorem fld24_1 : fldOf Try.prog 24 1 = some (1, none) := by kernel_rfl
@[simp] theorem ld25 : ldOf Try.prog 25 = some (some 2) := by kernel_rfl
@[simp] theorem z25 : zOf Try.prog 25 = some [.int .u64 0, .slice none 0 0] := by kernel_rfl
@[simp] theorem el25 : elOf Try.prog 25 = some (2, 32, [.v (.int .u64 0), .arr []]) := by kernel_rfl
@[simp] theorem st25 : isSliceT Try.prog 25 = false := by kernel_rfl
@[simp] theorem sz25 : pv Try.prog (sizeOf 25) = some 2 := by kernel_rfl
@[simp] theorem ik25 : ikOf Try.prog 25 = none := by kernel_rfl
@[simp] theorem bld25 : bldOf Try.prog 25 = some ([.int .u64 0, .slice none 0 0], [(0, 1), (1, 1)]) := by kernel_rfl
@[simp] theorem off25_0 : offOf Try.prog 25 0 = some 0 := by kernel_rfl
@[simp] theorem fld25_0 : fldOf Try.prog 25 0 = some (0, none) := by kernel_rfl
@[simp] theorem off25_1 : offOf Try.prog 25 1 = some 1 := by kernel_rfl
@[simp] theorem fld25_1 : fldOf Try.prog 25 1 = some (1, none) := by kernel_rfl
@[simp] theorem ld26 : ldOf Try.prog 26 = some none := by kernel_rfl
@[simp] theorem z26 : zOf Try.prog 26 = some [.int .i64 0] := by kernel_rfl
@[simp] theorem el26 : elOf Try.prog 26 = some (1, 8, [.v (.int .i64 0)]) := by kernel_rfl
@[simp] theorem st26 : isSliceT Try.prog 26 = false := by kernel_rfl
@[simp] theorem sz26 : pv Try.prog (sizeOf 26) = some 1 := by kernel_rfl
@[simp] theorem ik26 : ikOf Try.prog 26 = some .i64 := by kernel_rfl
@[simp] theorem ld30 : ldOf Try.prog 30 = some (some 2) := by kernel_rfl
@[simp] theorem z30 : zOf Try.prog 30 = some [.int .u64 0, .slice none 0 0] := by kernel_rfl
@[simp] theorem el30 : elOf Try.prog 30 = some (2, 32, [.v (.int .u64 0), .arr []]) := by kernel_rfl
@[simp] theorem st30 : isSliceT Try.prog 30 = false := by kernel_rfl
@[simp] theorem sz30 : pv Try.prog (sizeOf 30) = some 2 := by kernel_rfl
@[simp] theorem ik30 : ikOf Try.prog 30 = none := by kernel_rfl
@[simp] theorem bld30 : bldOf Try.prog 30 = some ([.int .u64 0, .slice none 0 0], [(0, 1), (1, 1)]) := by kernel_rfl
@[simp] theorem off30_0 : offOf Try.prog 30 0 = some 0 := by kernel_rfl
@[simp] theorem fld30_0 : fldOf Try.prog 30 0 = some (0, none) := by kernel_rfl
@[simp] theorem off30_1 : offOf Try.prog 30 1 = some 1 := by kernel_rfl
@[simp] theorem fld30_1 : fldOf Try.prog 30 1 = some (1, none) := by kernel_rfl
@[simp] theorem ld33 : ldOf Try.prog 33 = some none := by kernel_rfl
@[simp] theorem z33 : zOf Try.prog 33 = some [.slice none 0 0] := by kernel_rfl
@[simp] theorem el33 : elOf Try.prog 33 = some (1, 24, [.arr []]) := by kernel_rfl
@[simp] theorem st33 : isSliceT Try.prog 33 = true := by kernel_rfl
@[simp] theorem sz33 : pv Try.prog (sizeOf 33) = some 1 := by kernel_rfl
@[simp] theorem ik33 : ikOf Try.prog 33 = none := by kernel_rfl
@[simp] theorem es33 : elemOfSlice Try.prog 33 = some 3 := by kernel_rfl
@[simp] theorem ld48 : ldOf Try.prog 48 = some none := by kernel_rfl
@[simp] theorem z48 : zOf Try.prog 48 = some [.slice none 0 0] := by kernel_rfl
@[simp] theorem el48 : elOf Try.prog 48 = some (1, 24, [.arr []]) := by kernel_rfl
@[simp] theorem st48 : isSliceT Try.prog 48 = true := by kernel_rfl
@[simp] theorem sz48 : pv Try.prog (sizeOf 48) = some 1 := by kernel_rfl
@[simp] theorem ik48 : ikOf Try.prog 48 = none := by kernel_rfl
@[simp] theorem es48 : elemOfSlice Try.prog 48 = some 52 := by kernel_rfl
@[simp] theorem ld51 : ldOf Try.prog 51 = some (some 2) := by kernel_rfl
@[simp] theorem z51 : zOf Try.prog 51 = some [.string ByteArray.empty, .int .i64 0] := by kernel_rfl
@[simp] theorem el51 : elOf Try.prog 51 = some (2, 24, [.v (.string ByteArray.empty), .v (.int .i64 0)]) := by kernel_rfl
@[simp] theorem st51 : isSliceT Try.prog 51 = false := by kernel_rfl
@[simp] theorem sz51 : pv Try.prog (sizeOf 51) = some 2 := by kernel_rfl
@[simp] theorem ik51 : ikOf Try.prog 51 = none := by kernel_rfl
@[simp] theorem bld51 : bldOf Try.prog 51 = some ([.string ByteArray.empty, .int .i64 0], [(0, 1), (1, 1)]) := by kernel_rfl
@[simp] theorem off51_0 : offOf Try.prog 51 0 = some 0 := by kernel_rfl
@[simp] theorem fld51_0 : fldOf Try.prog 51 0 = some (0, none) := by kernel_rfl
@[simp] theorem off51_1 : offOf Try.prog 51 1 = some 1 := by kernel_rfl
@[simp] theorem fld51_1 : fldOf Try.prog 51 1 = some (1, none) := by kernel_rfl
@[simp] theorem ld52 : ldOf Try.prog 52 = some (some 2) := by kernel_rfl
@[simp] theorem z52 : zOf Try.prog 52 = some [.string ByteArray.empty, .int .i64 0] := by kernel_rfl
@[simp] theorem el52 : elOf Try.prog 52 = some (2, 24, [.v (.string ByteArray.empty), .v (.int .i64 0)]) := by kernel_rfl
@[simp] theorem st52 : isSliceT Try.prog 52 = false := by kernel_rfl
@[simp] theorem sz52 : pv Try.prog (sizeOf 52) = some 2 := by kernel_rfl
@[simp] theorem ik52 : ikOf Try.prog 52 = none := by kernel_rfl
@[simp] theorem bld52 : bldOf Try.prog 52 = some ([.string ByteArray.empty, .int .i64 0], [(0, 1), (1, 1)]) := by kernel_rfl
@[simp] theorem off52_0 : offOf Try.prog 52 0 = some 0 := by kernel_rfl
@[simp] theorem fld52_0 : fldOf Try.prog 52 0 = some (0, none) := by kernel_rfl
@[simp] theorem off52_1 : offOf Try.prog 52 1 = some 1 := by kernel_rfl
@[simp] theorem fld52_1 : fldOf Try.prog 52 1 = some (1, none) := by kernel_rfl
@[simp] theorem ld72 : ldOf Try.prog 72 = some none := by kernel_rfl
@[simp] theorem z72 : zOf Try.prog 72 = some [.int .u64 0] := by kernel_rfl
@[simp] theorem el72 : elOf Try.prog 72 = some (1, 8, [.v (.int .u64 0)]) := by kernel_rfl
@[simp] theorem st72 : isSliceT Try.prog 72 = false := by kernel_rfl
@[simp] theorem sz72 : pv Try.prog (sizeOf 72) = some 1 := by kernel_rfl
@[simp] theorem ik72 : ikOf Try.prog 72 = some .u64 := by kernel_rfl
@[simp] theorem ld78 : ldOf Try.prog 78 = some none := by kernel_rfl
@[simp] theorem z78 : zOf Try.prog 78 = some [.int .i64 0] := by kernel_rfl
@[simp] theorem el78 : elOf Try.prog 78 = some (1, 8, [.v (.int .i64 0)]) := by kernel_rfl
@[simp] theorem st78 : isSliceT Try.prog 78 = false := by kernel_rfl
@[simp] theorem sz78 : pv Try.prog (sizeOf 78) = some 1 := by kernel_rfl
@[simp] theorem ik78 : ikOf Try.prog 78 = some .i64 := by kernel_rfl
@[simp] theorem ld87 : ldOf Try.prog 87 = some none := by kernel_rfl
@[simp] theorem z87 : zOf Try.prog 87 = some [.int .u32 0] := by kernel_rfl
@[simp] theorem el87 : elOf Try.prog 87 = some (1, 4, [.v (.int .u32 0)]) := by kernel_rfl
@[simp] theorem st87 : isSliceT Try.prog 87 = false := by kernel_rfl
@[simp] theorem sz87 : pv Try.prog (sizeOf 87) = some 1 := by kernel_rfl
@[simp] theorem ik87 : ikOf Try.prog 87 = some .u32 := by kernel_rfl
@[simp] theorem ld90 : ldOf Try.prog 90 = some none := by kernel_rfl
@[simp] theorem z90 : zOf Try.prog 90 = some [.slice none 0 0] := by kernel_rfl
@[simp] theorem el90 : elOf Try.prog 90 = some (1, 24, [.arr []]) := by kernel_rfl
@[simp] theorem st90 : isSliceT Try.prog 90 = true := by kernel_rfl
@[simp] theorem sz90 : pv Try.prog (sizeOf 90) = some 1 := by kernel_rfl
@[simp] theorem ik90 : ikOf Try.prog 90 = none := by kernel_rfl
@[simp] theorem es90 : elemOfSlice Try.prog 90 = some 22 := by kernel_rfl
@[simp] theorem ld94 : ldOf Try.prog 94 = some none := by kernel_rfl
@[simp] theorem z94 : zOf Try.prog 94 = some [.int .u64 0] := by kernel_rfl
@[simp] theorem el94 : elOf Try.prog 94 = some (1, 8, [.v (.int .u64 0)]) := by kernel_rfl
@[simp] theorem st94 : isSliceT Try.prog 94 = false := by kernel_rfl
@[simp] theorem sz94 : pv Try.prog (sizeOf 94) = some 1 := by kernel_rfl
@[simp] theorem ik94 : ikOf Try.prog 94 = some .u64 := by kernel_rfl
@[simp] theorem ld98 : ldOf Try.prog 98 = some none := by kernel_rfl
@[simp] theorem z98 : zOf Try.prog 98 = some [.pointer none] := by kernel_rfl
@[simp] theorem el98 : elOf Try.prog 98 = some (1, 8, [.v (.pointer none)]) := by kernel_rfl
@[simp] theorem st98 : isSliceT Try.prog 98 = false := by kernel_rfl
@[simp] theorem sz98 : pv Try.prog (sizeOf 98) = some 1 := by kernel_rfl
@[simp] theorem ik98 : ikOf Try.prog 98 = none := by kernel_rfl
@[simp] theorem up98 : pv Try.prog (underlying 98) = some (.pointer 3) := by kernel_rfl
@[simp] theorem ld100 : ldOf Try.prog 100 = some none := by kernel_rfl
@[simp] theorem z100 : zOf Try.prog 100 = some [.slice none 0 0] := by kernel_rfl
@[simp] theorem el100 : elOf Try.prog 100 = some (1, 24, [.arr []]) := by kernel_rfl
@[simp] theorem st100 : isSliceT Try.prog 100 = true := by kernel_rfl
@[simp] theorem sz100 : pv Try.prog (sizeOf 100) = some 1 := by kernel_rfl
@[simp] theorem ik100 : ikOf Try.prog 100 = none := by kernel_rfl
@[simp] theorem es100 : elemOfSlice Try.prog 100 = some 5 := by kernel_rfl
@[simp] theorem ld101 : ldOf Try.prog 101 = some none := by kernel_rfl
@[simp] theorem z101 : zOf Try.prog 101 = some [.pointer none] := by kernel_rfl
@[simp] theorem el101 : elOf Try.prog 101 = some (1, 8, [.v (.pointer none)]) := by kernel_rfl
@[simp] theorem st101 : isSliceT Try.prog 101 = false := by kernel_rfl
@[simp] theorem sz101 : pv Try.prog (sizeOf 101) = some 1 := by kernel_rfl
@[simp] theorem ik101 : ikOf Try.prog 101 = none := by kernel_rfl
@[simp] theorem up101 : pv Try.prog (underlying 101) = some (.pointer 94) := by kernel_rfl
@[simp] theorem ld113 : ldOf Try.prog 113 = some none := by kernel_rfl
@[simp] theorem z113 : zOf Try.prog 113 = some [.pointer none] := by kernel_rfl
@[simp] theorem el113 : elOf Try.prog 113 = some (1, 8, [.v (.pointer none)]) := by kernel_rfl
@[simp] theorem st113 : isSliceT Try.prog 113 = false := by kernel_rfl
@[simp] theorem sz113 : pv Try.prog (sizeOf 113) = some 1 := by kernel_rfl
@[simp] theorem ik113 : ikOf Try.prog 113 = none := by kernel_rfl
@[simp] theorem up113 : pv Try.prog (underlying 113) = some (.pointer 5) := by kernel_rfl
@[simp] theorem ld116 : ldOf Try.prog 116 = some (some 11) := by kernel_rfl
@[simp] theorem z116 : zOf Try.prog 116 = some [.int .u64 0, .int .u64 0, .int .u32 0, .int .u8 0, .int .u8 0, .int .u8 0, .int .u8 0, .nilFunc, .pointer none, .int .i32 0, .int .i32 0] := by kernel_rfl
@[simp] theorem el116 : elOf Try.prog 116 = some (11, 48, [.v (.int .u64 0), .v (.int .u64 0), .v (.int .u32 0), .v (.int .u8 0), .v (.int .u8 0), .v (.int .u8 0), .v (.int .u8 0), .v (.nilFunc), .v (.pointer none), .v (.int .i32 0), .v (.int .i32 0)]) := by kernel_rfl
@[simp] theorem st116 : isSliceT Try.prog 116 = false := by kernel_rfl
@[simp] theorem sz116 : pv Try.prog (sizeOf 116) = some 11 := by kernel_rfl
@[simp] theorem ik116 : ikOf Try.prog 116 = none := by kernel_rfl
@[simp] theorem bld116 : bldOf Try.prog 116 = some ([.int .u64 0, .int .u64 0, .int .u32 0, .int .u8 0, .int .u8 0, .int .u8 0, .int .u8 0, .nilFunc, .pointer none, .int .i32 0, .int .i32 0], [(0, 1), (1, 1), (2, 1), (3, 1), (4, 1), (5, 1), (6, 1), (7, 1), (8, 1), (9, 1), (10, 1)]) := by kernel_rfl
@[simp] theorem off116_0 : offOf Try.prog 116 0 = some 0 := by kernel_rfl
@[simp] theorem fld116_0 : fldOf Try.prog 116 0 = some (0, none) := by kernel_rfl
@[simp] theorem off116_1 : offOf Try.prog 116 1 = some 1 := by kernel_rfl
@[simp] theorem fld116_1 : fldOf Try.prog 116 1 = some (1, none) := by kernel_rfl
@[simp] theorem off116_2 : offOf Try.prog 116 2 = some 2 := by kernel_rfl
@[simp] theorem fld116_2 : fldOf Try.prog 116 2 = some (2, none) := by kernel_rfl
@[simp] theorem off116_3 : offOf Try.prog 116 3 = some 3 := by kernel_rfl
@[simp] theorem fld116_3 : fldOf Try.prog 116 3 = some (3, none) := by kernel_rfl
@[simp] theorem off116_4 : offOf Try.prog 116 4 = some 4 := by kernel_rfl
@[simp] theorem fld116_4 : fldOf Try.prog 116 4 = some (4, none) := by kernel_rfl
@[simp] theorem off116_5 : offOf Try.prog 116 5 = some 5 := by kernel_rfl
@[simp] theorem fld116_5 : fldOf Try.prog 116 5 = some (5, none) := by kernel_rfl
@[simp] theorem off116_6 : offOf Try.prog 116 6 = some 6 := by kernel_rfl
@[simp] theorem fld116_6 : fldOf Try.prog 116 6 = some (6, none) := by kernel_rfl
@[simp] theorem off116_7 : offOf Try.prog 116 7 = some 7 := by kernel_rfl
@[simp] theorem fld116_7 : fldOf Try.prog 116 7 = some (7, none) := by kernel_rfl
@[simp] theorem off116_8 : offOf Try.prog 116 8 = some 8 := by kernel_rfl
@[simp] theorem fld116_8 : fldOf Try.prog 116 8 = some (8, none) := by kernel_rfl
@[simp] theorem off116_9 : offOf Try.prog 116 9 = some 9 := by kernel_rfl
@[simp] theorem fld116_9 : fldOf Try.prog 116 9 = some (9, none) := by kernel_rfl
@[simp] theorem off116_10 : offOf Try.prog 116 10 = some 10 := by kernel_rfl
@[simp] theorem fld116_10 : fldOf Try.prog 116 10 = some (10, none) := by kernel_rfl
@[simp] theorem lna23 {H : Hp} {ty : TypeId} {l : List (List CV)} : vlen Try.prog H #[23] ty (.one (.c (.arr l))) = qa (vI .i64 l.length) := len_arr es23
@[simp] theorem lnl23 {H : Hp} {ty : TypeId} {id o n tot : Nat} : vlen Try.prog H #[23] ty (.one (.sl id o n tot)) = if lenIs H id tot = true then qa (vI .i64 n) else none := len_sl es23
@[simp] theorem iaa23 {H : Hp} {k : IntKind} {l : List (List CV)} {i : Int} : vindexAddr Try.prog H 23 (.one (.c (.arr l))) (vI k i) = if 0 ≤ i then (match l[i.toNat]? with | some x => if x.length = 1 then qa (.one (.c (.cptr x))) else none | none => none) else none := ia_arr es23 sz33
@[simp] theorem ial23 {H : Hp} {k : IntKind} {id o n tot : Nat} {i : Int} : vindexAddr Try.prog H 23 (.one (.sl id o n tot)) (vI k i) = if 0 ≤ i then (if i.toNat < n then (if elAt H id tot (o + i.toNat) = some 1 then qa (.one (.ptr ⟨id, o + i.toNat, 0, tot⟩)) else none) else none) else none := ia_sl es23 sz33
@[simp] theorem lna33 {H : Hp} {ty : TypeId} {l : List (List CV)} : vlen Try.prog H #[33] ty (.one (.c (.arr l))) = qa (vI .i64 l.length) := len_arr es33
@[simp] theorem lnl33 {H : Hp} {ty : TypeId} {id o n tot : Nat} : vlen Try.prog H #[33] ty (.one (.sl id o n tot)) = if lenIs H id tot = true then qa (vI .i64 n) else none := len_sl es33
@[simp] theorem iaa33 {H : Hp} {k : IntKind} {l : List (List CV)} {i : Int} : vindexAddr Try.prog H 33 (.one (.c (.arr l))) (vI k i) = if 0 ≤ i then (match l[i.toNat]? with | some x => if x.length = 1 then qa (.one (.c (.cptr x))) else none | none => none) else none := ia_arr es33 sz3
@[simp] theorem ial33 {H : Hp} {k : IntKind} {id o n tot : Nat} {i : Int} : vindexAddr Try.prog H 33 (.one (.sl id o n tot)) (vI k i) = if 0 ≤ i then (if i.toNat < n then (if elAt H id tot (o + i.toNat) = some 1 then qa (.one (.ptr ⟨id, o + i.toNat, 0, tot⟩)) else none) else none) else none := ia_sl es33 sz3
@[simp] theorem lna48 {H : Hp} {ty : TypeId} {l : List (List CV)} : vlen Try.prog H #[48] ty (.one (.c (.arr l))) = qa (vI .i64 l.length) := len_arr es48
@[simp] theorem lnl48 {H : Hp} {ty : TypeId} {id o n tot : Nat} : vlen Try.prog H #[48] ty (.one (.sl id o n tot)) = if lenIs H id tot = true then qa (vI .i64 n) else none := len_sl es48
@[simp] theorem iaa48 {H : Hp} {k : IntKind} {l : List (List CV)} {i : Int} : vindexAddr Try.prog H 48 (.one (.c (.arr l))) (vI k i) = if 0 ≤ i then (match l[i.toNat]? with | some x => if x.length = 2 then qa (.one (.c (.cptr x))) else none | none => none) else none := ia_arr es48 sz52
@[simp] theorem ial48 {H : Hp} {k : IntKind} {id o n tot : Nat} {i : Int} : vindexAddr Try.prog H 48 (.one (.sl id o n tot)) (vI k i) = if 0 ≤ i then (if i.toNat < n then (if elAt H id tot (o + i.toNat) = some 2 then qa (.one (.ptr ⟨id, o + i.toNat, 0, tot⟩)) else none) else none) else none := ia_sl es48 sz52
@[simp] theorem lna90 {H : Hp} {ty : TypeId} {l : List (List CV)} : vlen Try.prog H #[90] ty (.one (.c (.arr l))) = qa (vI .i64 l.length) := len_arr es90
@[simp] theorem lnl90 {H : Hp} {ty : TypeId} {id o n tot : Nat} : vlen Try.prog H #[90] ty (.one (.sl id o n tot)) = if lenIs H id tot = true then qa (vI .i64 n) else none := len_sl es90
@[simp] theorem iaa90 {H : Hp} {k : IntKind} {l : List (List CV)} {i : Int} : vindexAddr Try.prog H 90 (.one (.c (.arr l))) (vI k i) = if 0 ≤ i then (match l[i.toNat]? with | some x => if x.length = 1 then qa (.one (.c (.cptr x))) else none | none => none) else none := ia_arr es90 sz22
@[simp] theorem ial90 {H : Hp} {k : IntKind} {id o n tot : Nat} {i : Int} : vindexAddr Try.prog H 90 (.one (.sl id o n tot)) (vI k i) = if 0 ≤ i then (if i.toNat < n then (if elAt H id tot (o + i.toNat) = some 1 then qa (.one (.ptr ⟨id, o + i.toNat, 0, tot⟩)) else none) else none) else none := ia_sl es90 sz22
@[simp] theorem lna100 {H : Hp} {ty : TypeId} {l : List (List CV)} : vlen Try.prog H #[100] ty (.one (.c (.arr l))) = qa (vI .i64 l.length) := len_arr es100
@[simp] theorem lnl100 {H : Hp} {ty : TypeId} {id o n tot : Nat} : vlen Try.prog H #[100] ty (.one (.sl id o n tot)) = if lenIs H id tot = true then qa (vI .i64 n) else none := len_sl es100
@[simp] theorem iaa100 {H : Hp} {k : IntKind} {l : List (List CV)} {i : Int} : vindexAddr Try.prog H 100 (.one (.c (.arr l))) (vI k i) = if 0 ≤ i then (match l[i.toNat]? with | some x => if x.length = 1 then qa (.one (.c (.cptr x))) else none | none => none) else none := ia_arr es100 sz5
@[simp] theorem ial100 {H : Hp} {k : IntKind} {id o n tot : Nat} {i : Int} : vindexAddr Try.prog H 100 (.one (.sl id o n tot)) (vI k i) = if 0 ≤ i then (if i.toNat < n then (if elAt H id tot (o + i.toNat) = some 1 then qa (.one (.ptr ⟨id, o + i.toNat, 0, tot⟩)) else none) else none) else none := ia_sl es100 sz5
theorem mixed : Try.prog.follows .mixedOrders = true := by kernel_rfl
theorem ok3 : FnOk Try.prog 3 := ⟨Try.f3, Try.func3, by kernel_rfl, by kernel_rfl⟩ -- rillmeter/rillmeterlaw12.SignedNews
theorem ok4 : FnOk Try.prog 4 := ⟨Try.f4, Try.func4, by kernel_rfl, by kernel_rfl⟩ -- rillmeter/rillmeterlaw12.SignedTwice
theorem ok5 : FnOk Try.prog 5 := ⟨Try.f5, Try.func5, by kernel_rfl, by kernel_rfl⟩ -- rillmeter/rillmeterlaw12.SignedTurns
theorem ok6 : FnOk Try.prog 6 := ⟨Try.f6, Try.func6, by kernel_rfl, by kernel_rfl⟩ -- rillmeter/rillmeterlaw12.SignedAlone
theorem ok7 : FnOk Try.prog 7 := ⟨Try.f7, Try.func7, by kernel_rfl, by kernel_rfl⟩ -- rillmeter/rillmeterlaw12.SignedMerges
theorem ok8 : FnOk Try.prog 8 := ⟨Try.f8, Try.func8, by kernel_rfl, by kernel_rfl⟩ -- rillmeter/rillmeterlaw12.SignedOrder
theorem ok9 : FnOk Try.prog 9 := ⟨Try.f9, Try.func9, by kernel_rfl, by kernel_rfl⟩ -- rillmeter/signed.New
theorem ok10 : FnOk Try.prog 10 := ⟨Try.f10, Try.func10, by kernel_rfl, by kernel_rfl⟩ -- rillmeter/rillmeterref12.Equal
theorem ok11 : FnOk Try.prog 11 := ⟨Try.f11, Try.func11, by kernel_rfl, by kernel_rfl⟩ -- rillmeter/rillmeterlaw12.ref
theorem ok12 : FnOk Try.prog 12 := ⟨Try.f12, Try.func12, by kernel_rfl, by kernel_rfl⟩ -- rillmeter/rillmeterlaw12.awake
theorem ok13 : FnOk Try.prog 13 := ⟨Try.f13, Try.func13, by kernel_rfl, by kernel_rfl⟩ -- rillmeter/rillmeterref12.Right
theorem ok14 : FnOk Try.prog 14 := ⟨Try.f14, Try.func14, by kernel_rfl, by kernel_rfl⟩ -- rillmeter/rillmeterref11.Small
theorem ok15 : FnOk Try.prog 15 := ⟨Try.f15, Try.func15, by kernel_rfl, by kernel_rfl⟩ -- rillmeter/signed.Add
theorem ok16 : FnOk Try.prog 16 := ⟨Try.f16, Try.func16, by kernel_rfl, by kernel_rfl⟩ -- rillmeter/signed.Get
theorem ok17 : FnOk Try.prog 17 := ⟨Try.f17, Try.func17, by kernel_rfl, by kernel_rfl⟩ -- rillmeter/signed.Right
theorem ok18 : FnOk Try.prog 18 := ⟨Try.f18, Try.func18, by kernel_rfl, by kernel_rfl⟩ -- rillmeter/signed.Cell
theorem ok19 : FnOk Try.prog 19 := ⟨Try.f19, Try.func19, by kernel_rfl, by kernel_rfl⟩ -- rillmeter/rillmeterref12.Cell
theorem ok20 : FnOk Try.prog 20 := ⟨Try.f20, Try.func20, by kernel_rfl, by kernel_rfl⟩ -- rillmeter/rillmeterref12.Get
theorem ok21 : FnOk Try.prog 21 := ⟨Try.f21, Try.func21, by kernel_rfl, by kernel_rfl⟩ -- rillmeter/rillmeterref12.Fits
theorem ok22 : FnOk Try.prog 22 := ⟨Try.f22, Try.func22, by kernel_rfl, by kernel_rfl⟩ -- rillmeter/rillmeterref12.Add
theorem ok23 : FnOk Try.prog 23 := ⟨Try.f23, Try.func23, by kernel_rfl, by kernel_rfl⟩ -- rillmeter/rillmeterlaw12.few
theorem ok24 : FnOk Try.prog 24 := ⟨Try.f24, Try.func24, by kernel_rfl, by kernel_rfl⟩ -- rillmeter/rillmeterlaw12.adds
theorem ok25 : FnOk Try.prog 25 := ⟨Try.f25, Try.func25, by kernel_rfl, by kernel_rfl⟩ -- rillmeter/signed.Merge
theorem ok26 : FnOk Try.prog 26 := ⟨Try.f26, Try.func26, by kernel_rfl, by kernel_rfl⟩ -- rillmeter/rillmeterref12.Merge
theorem ok27 : FnOk Try.prog 27 := ⟨Try.f27, Try.func27, by kernel_rfl, by kernel_rfl⟩ -- rillmeter/rillmeterref11.SameRows
theorem ok28 : FnOk Try.prog 28 := ⟨Try.f28, Try.func28, by kernel_rfl, by kernel_rfl⟩ -- rillmeter/signed.fits
theorem ok29 : FnOk Try.prog 29 := ⟨Try.f29, Try.func29, by kernel_rfl, by kernel_rfl⟩ -- rillmeter/signed.clone
theorem ok30 : FnOk Try.prog 30 := ⟨Try.f30, Try.func30, by kernel_rfl, by kernel_rfl⟩ -- rillmeter/signed.place
theorem ok31 : FnOk Try.prog 31 := ⟨Try.f31, Try.func31, by kernel_rfl, by kernel_rfl⟩ -- slices.Sort[[]int,int]
theorem ok32 : FnOk Try.prog 32 := ⟨Try.f32, Try.func32, by kernel_rfl, by kernel_rfl⟩ -- slices.ContainsFunc[[][]int,[]int]
theorem ok33 : FnOk Try.prog 33 := ⟨Try.f33, Try.func33, by kernel_rfl, by kernel_rfl⟩ -- rillmeter/signed.Right$1
theorem ok34 : FnOk Try.prog 34 := ⟨Try.f34, Try.func34, by kernel_rfl, by kernel_rfl⟩ -- slices.ContainsFunc[[]int,int]
theorem ok35 : FnOk Try.prog 35 := ⟨Try.f35, Try.func35, by kernel_rfl, by kernel_rfl⟩ -- rillmeter/signed.Right$1$1
theorem ok36 : FnOk Try.prog 36 := ⟨Try.f36, Try.func36, by kernel_rfl, by kernel_rfl⟩ -- rillmeter/rillmeterref02.Cell
theorem ok37 : FnOk Try.prog 37 := ⟨Try.f37, Try.func37, by kernel_rfl, by kernel_rfl⟩ -- rillmeter/rillmeterref02.Row
theorem ok38 : FnOk Try.prog 38 := ⟨Try.f38, Try.func38, by kernel_rfl, by kernel_rfl⟩ -- rillmeter/rillmeterref12.Sign
theorem ok39 : FnOk Try.prog 39 := ⟨Try.f39, Try.func39, by kernel_rfl, by kernel_rfl⟩ -- slices.Clone[[]int,int]
theorem ok40 : FnOk Try.prog 40 := ⟨Try.f40, Try.func40, by kernel_rfl, by kernel_rfl⟩ -- rillmeter/hash.Cell
theorem ok41 : FnOk Try.prog 41 := ⟨Try.f41, Try.func41, by kernel_rfl, by kernel_rfl⟩ -- rillmeter/hash.Row
theorem ok42 : FnOk Try.prog 42 := ⟨Try.f42, Try.func42, by kernel_rfl, by kernel_rfl⟩ -- rillmeter/hash.Sign
theorem ok43 : FnOk Try.prog 43 := ⟨Try.f43, Try.func43, by kernel_rfl, by kernel_rfl⟩ -- slices.pdqsortOrdered[int]
theorem ok44 : FnOk Try.prog 44 := ⟨Try.f44, Try.func44, by kernel_rfl, by kernel_rfl⟩ -- math/bits.Len
theorem ok45 : FnOk Try.prog 45 := ⟨Try.f45, Try.func45, by kernel_rfl, by kernel_rfl⟩ -- slices.IndexFunc[[][]int,[]int]
theorem ok46 : FnOk Try.prog 46 := ⟨Try.f46, Try.func46, by kernel_rfl, by kernel_rfl⟩ -- slices.IndexFunc[[]int,int]
theorem ok47 : FnOk Try.prog 47 := ⟨Try.f47, Try.func47, by kernel_rfl, by kernel_rfl⟩ -- rillmeter/rillmeterref02.Sum
theorem ok48 : FnOk Try.prog 48 := ⟨Try.f48, Try.func48, by kernel_rfl, by kernel_rfl⟩ -- rillmeter/rillmeterref01.Mul
theorem ok49 : FnOk Try.prog 49 := ⟨Try.f49, Try.func49, by kernel_rfl, by kernel_rfl⟩ -- rillmeter/rillmeterref01.Add
theorem ok50 : FnOk Try.prog 50 := ⟨Try.f50, Try.func50, by kernel_rfl, by kernel_rfl⟩ -- rillmeter/rillmeterref01.Pow
theorem ok51 : FnOk Try.prog 51 := ⟨Try.f51, Try.func51, by kernel_rfl, by kernel_rfl⟩ -- rillmeter/rillmeterref02.Sign
theorem ok52 : FnOk Try.prog 52 := ⟨Try.f52, Try.func52, by kernel_rfl, by kernel_rfl⟩ -- rillmeter/hash.Sum
theorem ok53 : FnOk Try.prog 53 := ⟨Try.f53, Try.func53, by kernel_rfl, by kernel_rfl⟩ -- rillmeter/field.Add
theorem ok54 : FnOk Try.prog 54 := ⟨Try.f54, Try.func54, by kernel_rfl, by kernel_rfl⟩ -- rillmeter/field.Mul
theorem ok55 : FnOk Try.prog 55 := ⟨Try.f55, Try.func55, by kernel_rfl, by kernel_rfl⟩ -- slices.insertionSortOrdered[int]
theorem ok56 : FnOk Try.prog 56 := ⟨Try.f56, Try.func56, by kernel_rfl, by kernel_rfl⟩ -- slices.heapSortOrdered[int]
theorem ok57 : FnOk Try.prog 57 := ⟨Try.f57, Try.func57, by kernel_rfl, by kernel_rfl⟩ -- slices.breakPatternsOrdered[int]
theorem ok58 : FnOk Try.prog 58 := ⟨Try.f58, Try.func58, by kernel_rfl, by kernel_rfl⟩ -- slices.choosePivotOrdered[int]
theorem ok59 : FnOk Try.prog 59 := ⟨Try.f59, Try.func59, by kernel_rfl, by kernel_rfl⟩ -- slices.reverseRangeOrdered[int]
theorem ok60 : FnOk Try.prog 60 := ⟨Try.f60, Try.func60, by kernel_rfl, by kernel_rfl⟩ -- slices.partialInsertionSortOrdered[int]
theorem ok61 : FnOk Try.prog 61 := ⟨Try.f61, Try.func61, by kernel_rfl, by kernel_rfl⟩ -- cmp.Less[int]
theorem ok62 : FnOk Try.prog 62 := ⟨Try.f62, Try.func62, by kernel_rfl, by kernel_rfl⟩ -- slices.partitionEqualOrdered[int]
theorem ok63 : FnOk Try.prog 63 := ⟨Try.f63, Try.func63, by kernel_rfl, by kernel_rfl⟩ -- slices.partitionOrdered[int]
theorem ok64 : FnOk Try.prog 64 := ⟨Try.f64, Try.func64, by kernel_rfl, by kernel_rfl⟩ -- math/bits.Len32
theorem ok65 : FnOk Try.prog 65 := ⟨Try.f65, Try.func65, by kernel_rfl, by kernel_rfl⟩ -- math/bits.Len64
theorem ok66 : FnOk Try.prog 66 := ⟨Try.f66, Try.func66, by kernel_rfl, by kernel_rfl⟩ -- rillmeter/rillmeterref01.Of
theorem ok67 : FnOk Try.prog 67 := ⟨Try.f67, Try.func67, by kernel_rfl, by kernel_rfl⟩ -- rillmeter/rillmeterref02.words
theorem ok68 : FnOk Try.prog 68 := ⟨Try.f68, Try.func68, by kernel_rfl, by kernel_rfl⟩ -- rillmeter/field.Pow
theorem ok69 : FnOk Try.prog 69 := ⟨Try.f69, Try.func69, by kernel_rfl, by kernel_rfl⟩ -- rillmeter/field.Of
theorem ok70 : FnOk Try.prog 70 := ⟨Try.f70, Try.func70, by kernel_rfl, by kernel_rfl⟩ -- math/bits.Mul64
theorem ok71 : FnOk Try.prog 71 := ⟨Try.f71, Try.func71, by kernel_rfl, by kernel_rfl⟩ -- slices.siftDownOrdered[int]
theorem ok72 : FnOk Try.prog 72 := ⟨Try.f72, Try.func72, by kernel_rfl, by kernel_rfl⟩ -- slices.nextPowerOfTwo
theorem ok73 : FnOk Try.prog 73 := ⟨Try.f73, Try.func73, by kernel_rfl, by kernel_rfl⟩ -- (*slices.xorshift).Next
theorem ok74 : FnOk Try.prog 74 := ⟨Try.f74, Try.func74, by kernel_rfl, by kernel_rfl⟩ -- slices.medianAdjacentOrdered[int]
theorem ok75 : FnOk Try.prog 75 := ⟨Try.f75, Try.func75, by kernel_rfl, by kernel_rfl⟩ -- slices.medianOrdered[int]
theorem ok76 : FnOk Try.prog 76 := ⟨Try.f76, Try.func76, by kernel_rfl, by kernel_rfl⟩ -- cmp.isNaN[int]
theorem ok77 : FnOk Try.prog 77 := ⟨Try.f77, Try.func77, by kernel_rfl, by kernel_rfl⟩ -- slices.order2Ordered[int]
end Go.Proofs.YteaeigpeaneicaaF
end

section
/- Each function's run over the program's whole table. -/
namespace Go.Proofs.YteaeigpeaneicaaF
open Go Go.Proofs.Vm
def shF (g : FuncId) : Bool := g == 29 || g == 39 || g == 31
def neF (g : FuncId) : Bool := g == 29
def cfg : Cfg := ⟨shF, neF, sortTab 31⟩
noncomputable def TV : Tab := TT Try.prog cfg
@[simp] theorem sh31 : shF 31 = true := by decide
@[simp] theorem sh3 : shF 3 = false := by decide
theorem run3 {args : List CA} {r : CA} (hl : args.length ≤ 100) (h : wpV Try.prog TV ⟨100, shF, false⟩ (Try.f3.body.getD .skip) (endK Try.prog Try.f3.results.toList r) ⟨env0 args, []⟩) : TV.pu 3 args = some r := TT_go (N := ⟨100, shF, false⟩) Try.func3 (by kernel_rfl) ok3 (by kernel_rfl) (by kernel_rfl) (fun _ => rfl) hl h -- rillmeter/rillmeterlaw12.SignedNews
@[simp] theorem sh4 : shF 4 = false := by decide
theorem run4 {args : List CA} {r : CA} (hl : args.length ≤ 85) (h : wpV Try.prog TV ⟨85, shF, false⟩ (Try.f4.body.getD .skip) (endK Try.prog Try.f4.results.toList r) ⟨env0 args, []⟩) : TV.pu 4 args = some r := TT_go (N := ⟨85, shF, false⟩) Try.func4 (by kernel_rfl) ok4 (by kernel_rfl) (by kernel_rfl) (fun _ => rfl) hl h -- rillmeter/rillmeterlaw12.SignedTwice
@[simp] theorem sh5 : shF 5 = false := by decide
theorem run5 {args : List CA} {r : CA} (hl : args.length ≤ 151) (h : wpV Try.prog TV ⟨151, shF, false⟩ (Try.f5.body.getD .skip) (endK Try.prog Try.f5.results.toList r) ⟨env0 args, []⟩) : TV.pu 5 args = some r := TT_go (N := ⟨151, shF, false⟩) Try.func5 (by kernel_rfl) ok5 (by kernel_rfl) (by kernel_rfl) (fun _ => rfl) hl h -- rillmeter/rillmeterlaw12.SignedTurns
@[simp] theorem sh6 : shF 6 = false := by decide
theorem run6 {args : List CA} {r : CA} (hl : args.length ≤ 134) (h : wpV Try.prog TV ⟨134, shF, false⟩ (Try.f6.body.getD .skip) (endK Try.prog Try.f6.results.toList r) ⟨env0 args, []⟩) : TV.pu 6 args = some r := TT_go (N := ⟨134, shF, false⟩) Try.func6 (by kernel_rfl) ok6 (by kernel_rfl) (by kernel_rfl) (fun _ => rfl) hl h -- rillmeter/rillmeterlaw12.SignedAlone
@[simp] theorem sh7 : shF 7 = false := by decide
theorem run7 {args : List CA} {r : CA} (hl : args.length ≤ 110) (h : wpV Try.prog TV ⟨110, shF, false⟩ (Try.f7.body.getD .skip) (endK Try.prog Try.f7.results.toList r) ⟨env0 args, []⟩) : TV.pu 7 args = some r := TT_go (N := ⟨110, shF, false⟩) Try.func7 (by kernel_rfl) ok7 (by kernel_rfl) (by kernel_rfl) (fun _ => rfl) hl h -- rillmeter/rillmeterlaw12.SignedMerges
@[simp] theorem sh8 : shF 8 = false := by decide
theorem run8 {args : List CA} {r : CA} (hl : args.length ≤ 108) (h : wpV Try.prog TV ⟨108, shF, false⟩ (Try.f8.body.getD .skip) (endK Try.prog Try.f8.results.toList r) ⟨env0 args, []⟩) : TV.pu 8 args = some r := TT_go (N := ⟨108, shF, false⟩) Try.func8 (by kernel_rfl) ok8 (by kernel_rfl) (by kernel_rfl) (fun _ => rfl) hl h -- rillmeter/rillmeterlaw12.SignedOrder
@[simp] theorem sh9 : shF 9 = false := by decide
theorem run9 {args : List CA} {r : CA} (hl : args.length ≤ 43) (h : wpV Try.prog TV ⟨43, shF, false⟩ (Try.f9.body.getD .skip) (endK Try.prog Try.f9.results.toList r) ⟨env0 args, []⟩) : TV.pu 9 args = some r := TT_go (N := ⟨43, shF, false⟩) Try.func9 (by kernel_rfl) ok9 (by kernel_rfl) (by kernel_rfl) (fun _ => rfl) hl h -- rillmeter/signed.New
@[simp] theorem sh10 : shF 10 = false := by decide
theorem run10 {args : List CA} {r : CA} (hl : args.length ≤ 17) (h : wpV Try.prog TV ⟨17, shF, false⟩ (Try.f10.body.getD .skip) (endK Try.prog Try.f10.results.toList r) ⟨env0 args, []⟩) : TV.pu 10 args = some r := TT_go (N := ⟨17, shF, false⟩) Try.func10 (by kernel_rfl) ok10 (by kernel_rfl) (by kernel_rfl) (fun _ => rfl) hl h -- rillmeter/rillmeterref12.Equal
@[simp] theorem sh11 : shF 11 = false := by decide
theorem run11 {args : List CA} {r : CA} (hl : args.length ≤ 4) (h : wpV Try.prog TV ⟨4, shF, false⟩ (Try.f11.body.getD .skip) (endK Try.prog Try.f11.results.toList r) ⟨env0 args, []⟩) : TV.pu 11 args = some r := TT_go (N := ⟨4, shF, false⟩) Try.func11 (by kernel_rfl) ok11 (by kernel_rfl) (by kernel_rfl) (fun _ => rfl) hl h -- rillmeter/rillmeterlaw12.ref
@[simp] theorem sh12 : shF 12 = false := by decide
theorem run12 {args : List CA} {r : CA} (hl : args.length ≤ 34) (h : wpV Try.prog TV ⟨34, shF, false⟩ (Try.f12.body.getD .skip) (endK Try.prog Try.f12.results.toList r) ⟨env0 args, []⟩) : TV.pu 12 args = some r := TT_go (N := ⟨34, shF, false⟩) Try.func12 (by kernel_rfl) ok12 (by kernel_rfl) (by kernel_rfl) (fun _ => rfl) hl h -- rillmeter/rillmeterlaw12.awake
@[simp] theorem sh13 : shF 13 = false := by decide
theorem run13 {args : List CA} {r : CA} (hl : args.length ≤ 65) (h : wpV Try.prog TV ⟨65, shF, false⟩ (Try.f13.body.getD .skip) (endK Try.prog Try.f13.results.toList r) ⟨env0 args, []⟩) : TV.pu 13 args = some r := TT_go (N := ⟨65, shF, false⟩) Try.func13 (by kernel_rfl) ok13 (by kernel_rfl) (by kernel_rfl) (fun _ => rfl) hl h -- rillmeter/rillmeterref12.Right
@[simp] theorem sh14 : shF 14 = false := by decide
theorem run14 {args : List CA} {r : CA} (hl : args.length ≤ 19) (h : wpV Try.prog TV ⟨19, shF, false⟩ (Try.f14.body.getD .skip) (endK Try.prog Try.f14.results.toList r) ⟨env0 args, []⟩) : TV.pu 14 args = some r := TT_go (N := ⟨19, shF, false⟩) Try.func14 (by kernel_rfl) ok14 (by kernel_rfl) (by kernel_rfl) (fun _ => rfl) hl h -- rillmeter/rillmeterref11.Small
@[simp] theorem sh15 : shF 15 = false := by decide
theorem run15 {args : List CA} {r : CA} (hl : args.length ≤ 56) (h : wpV Try.prog TV ⟨56, shF, false⟩ (Try.f15.body.getD .skip) (endK Try.prog Try.f15.results.toList r) ⟨env0 args, []⟩) : TV.pu 15 args = some r := TT_go (N := ⟨56, shF, false⟩) Try.func15 (by kernel_rfl) ok15 (by kernel_rfl) (by kernel_rfl) (fun _ => rfl) hl h -- rillmeter/signed.Add
@[simp] theorem sh16 : shF 16 = false := by decide
theorem run16 {args : List CA} {r : CA} (hl : args.length ≤ 46) (h : wpV Try.prog TV ⟨46, shF, false⟩ (Try.f16.body.getD .skip) (endK Try.prog Try.f16.results.toList r) ⟨env0 args, []⟩) : TV.pu 16 args = some r := TT_go (N := ⟨46, shF, false⟩) Try.func16 (by kernel_rfl) ok16 (by kernel_rfl) (by kernel_rfl) (fun _ => rfl) hl h -- rillmeter/signed.Get
@[simp] theorem sh17 : shF 17 = false := by decide
theorem run17 {args : List CA} {r : CA} (hl : args.length ≤ 19) (h : wpV Try.prog TV ⟨19, shF, false⟩ (Try.f17.body.getD .skip) (endK Try.prog Try.f17.results.toList r) ⟨env0 args, []⟩) : TV.pu 17 args = some r := TT_go (N := ⟨19, shF, false⟩) Try.func17 (by kernel_rfl) ok17 (by kernel_rfl) (by kernel_rfl) (fun _ => rfl) hl h -- rillmeter/signed.Right
@[simp] theorem sh18 : shF 18 = false := by decide
theorem run18 {args : List CA} {r : CA} (hl : args.length ≤ 31) (h : wpV Try.prog TV ⟨31, shF, false⟩ (Try.f18.body.getD .skip) (endK Try.prog Try.f18.results.toList r) ⟨env0 args, []⟩) : TV.pu 18 args = some r := TT_go (N := ⟨31, shF, false⟩) Try.func18 (by kernel_rfl) ok18 (by kernel_rfl) (by kernel_rfl) (fun _ => rfl) hl h -- rillmeter/signed.Cell
@[simp] theorem sh19 : shF 19 = false := by decide
theorem run19 {args : List CA} {r : CA} (hl : args.length ≤ 16) (h : wpV Try.prog TV ⟨16, shF, false⟩ (Try.f19.body.getD .skip) (endK Try.prog Try.f19.results.toList r) ⟨env0 args, []⟩) : TV.pu 19 args = some r := TT_go (N := ⟨16, shF, false⟩) Try.func19 (by kernel_rfl) ok19 (by kernel_rfl) (by kernel_rfl) (fun _ => rfl) hl h -- rillmeter/rillmeterref12.Cell
@[simp] theorem sh20 : shF 20 = false := by decide
theorem run20 {args : List CA} {r : CA} (hl : args.length ≤ 95) (h : wpV Try.prog TV ⟨95, shF, false⟩ (Try.f20.body.getD .skip) (endK Try.prog Try.f20.results.toList r) ⟨env0 args, []⟩) : TV.pu 20 args = some r := TT_go (N := ⟨95, shF, false⟩) Try.func20 (by kernel_rfl) ok20 (by kernel_rfl) (by kernel_rfl) (fun _ => rfl) hl h -- rillmeter/rillmeterref12.Get
@[simp] theorem sh21 : shF 21 = false := by decide
theorem run21 {args : List CA} {r : CA} (hl : args.length ≤ 9) (h : wpV Try.prog TV ⟨9, shF, false⟩ (Try.f21.body.getD .skip) (endK Try.prog Try.f21.results.toList r) ⟨env0 args, []⟩) : TV.pu 21 args = some r := TT_go (N := ⟨9, shF, false⟩) Try.func21 (by kernel_rfl) ok21 (by kernel_rfl) (by kernel_rfl) (fun _ => rfl) hl h -- rillmeter/rillmeterref12.Fits
@[simp] theorem sh22 : shF 22 = false := by decide
theorem run22 {args : List CA} {r : CA} (hl : args.length ≤ 80) (h : wpV Try.prog TV ⟨80, shF, false⟩ (Try.f22.body.getD .skip) (endK Try.prog Try.f22.results.toList r) ⟨env0 args, []⟩) : TV.pu 22 args = some r := TT_go (N := ⟨80, shF, false⟩) Try.func22 (by kernel_rfl) ok22 (by kernel_rfl) (by kernel_rfl) (fun _ => rfl) hl h -- rillmeter/rillmeterref12.Add
@[simp] theorem sh23 : shF 23 = false := by decide
theorem run23 {args : List CA} {r : CA} (hl : args.length ≤ 36) (h : wpV Try.prog TV ⟨36, shF, false⟩ (Try.f23.body.getD .skip) (endK Try.prog Try.f23.results.toList r) ⟨env0 args, []⟩) : TV.pu 23 args = some r := TT_go (N := ⟨36, shF, false⟩) Try.func23 (by kernel_rfl) ok23 (by kernel_rfl) (by kernel_rfl) (fun _ => rfl) hl h -- rillmeter/rillmeterlaw12.few
@[simp] theorem sh24 : shF 24 = false := by decide
theorem run24 {args : List CA} {r : CA} (hl : args.length ≤ 24) (h : wpV Try.prog TV ⟨24, shF, false⟩ (Try.f24.body.getD .skip) (endK Try.prog Try.f24.results.toList r) ⟨env0 args, []⟩) : TV.pu 24 args = some r := TT_go (N := ⟨24, shF, false⟩) Try.func24 (by kernel_rfl) ok24 (by kernel_rfl) (by kernel_rfl) (fun _ => rfl) hl h -- rillmeter/rillmeterlaw12.adds
@[simp] theorem sh25 : shF 25 = false := by decide
theorem run25 {args : List CA} {r : CA} (hl : args.length ≤ 86) (h : wpV Try.prog TV ⟨86, shF, false⟩ (Try.f25.body.getD .skip) (endK Try.prog Try.f25.results.toList r) ⟨env0 args, []⟩) : TV.pu 25 args = some r := TT_go (N := ⟨86, shF, false⟩) Try.func25 (by kernel_rfl) ok25 (by kernel_rfl) (by kernel_rfl) (fun _ => rfl) hl h -- rillmeter/signed.Merge
@[simp] theorem sh26 : shF 26 = false := by decide
theorem run26 {args : List CA} {r : CA} (hl : args.length ≤ 77) (h : wpV Try.prog TV ⟨77, shF, false⟩ (Try.f26.body.getD .skip) (endK Try.prog Try.f26.results.toList r) ⟨env0 args, []⟩) : TV.pu 26 args = some r := TT_go (N := ⟨77, shF, false⟩) Try.func26 (by kernel_rfl) ok26 (by kernel_rfl) (by kernel_rfl) (fun _ => rfl) hl h -- rillmeter/rillmeterref12.Merge
@[simp] theorem sh27 : shF 27 = false := by decide
theorem run27 {args : List CA} {r : CA} (hl : args.length ≤ 53) (h : wpV Try.prog TV ⟨53, shF, false⟩ (Try.f27.body.getD .skip) (endK Try.prog Try.f27.results.toList r) ⟨env0 args, []⟩) : TV.pu 27 args = some r := TT_go (N := ⟨53, shF, false⟩) Try.func27 (by kernel_rfl) ok27 (by kernel_rfl) (by kernel_rfl) (fun _ => rfl) hl h -- rillmeter/rillmeterref11.SameRows
@[simp] theorem sh28 : shF 28 = false := by decide
theorem run28 {args : List CA} {r : CA} (hl : args.length ≤ 9) (h : wpV Try.prog TV ⟨9, shF, false⟩ (Try.f28.body.getD .skip) (endK Try.prog Try.f28.results.toList r) ⟨env0 args, []⟩) : TV.pu 28 args = some r := TT_go (N := ⟨9, shF, false⟩) Try.func28 (by kernel_rfl) ok28 (by kernel_rfl) (by kernel_rfl) (fun _ => rfl) hl h -- rillmeter/signed.fits
@[simp] theorem sh29 : shF 29 = true := by decide
theorem run29 {args : List AV} {r : AV} {H H' : Hp} (hl : args.length ≤ 27) (hH : H.length ≤ H'.length) (h : wpV Try.prog TV ⟨27, shF, true⟩ (Try.f29.body.getD .skip) (endS Try.prog Try.f29.results.toList r H') ⟨envS args, H⟩) : TV.S 29 args H = some (r, H') := TT_goS (N := ⟨27, shF, true⟩) Try.func29 (by kernel_rfl) ok29 (by kernel_rfl) (by kernel_rfl) (fun _ _ => rfl) hl hH h -- rillmeter/signed.clone
@[simp] theorem sh30 : shF 30 = false := by decide
theorem run30 {args : List CA} {r : CA} (hl : args.length ≤ 29) (h : wpV Try.prog TV ⟨29, shF, false⟩ (Try.f30.body.getD .skip) (endK Try.prog Try.f30.results.toList r) ⟨env0 args, []⟩) : TV.pu 30 args = some r := TT_go (N := ⟨29, shF, false⟩) Try.func30 (by kernel_rfl) ok30 (by kernel_rfl) (by kernel_rfl) (fun _ => rfl) hl h -- rillmeter/signed.place
@[simp] theorem sh32 : shF 32 = false := by decide
theorem run32 {args : List CA} {r : CA} (hl : args.length ≤ 9) (h : wpV Try.prog TV ⟨9, shF, false⟩ (Try.f32.body.getD .skip) (endK Try.prog Try.f32.results.toList r) ⟨env0 args, []⟩) : TV.pu 32 args = some r := TT_go (N := ⟨9, shF, false⟩) Try.func32 (by kernel_rfl) ok32 (by kernel_rfl) (by kernel_rfl) (fun _ => rfl) hl h -- slices.ContainsFunc[[][]int,[]int]
@[simp] theorem sh33 : shF 33 = false := by decide
theorem run33 {args : List CA} {r : CA} (hl : args.length ≤ 26) (h : wpV Try.prog TV ⟨26, shF, false⟩ (Try.f33.body.getD .skip) (endK Try.prog Try.f33.results.toList r) ⟨env0 args, []⟩) : TV.pu 33 args = some r := TT_go (N := ⟨26, shF, false⟩) Try.func33 (by kernel_rfl) ok33 (by kernel_rfl) (by kernel_rfl) (fun _ => rfl) hl h -- rillmeter/signed.Right$1
@[simp] theorem sh34 : shF 34 = false := by decide
theorem run34 {args : List CA} {r : CA} (hl : args.length ≤ 9) (h : wpV Try.prog TV ⟨9, shF, false⟩ (Try.f34.body.getD .skip) (endK Try.prog Try.f34.results.toList r) ⟨env0 args, []⟩) : TV.pu 34 args = some r := TT_go (N := ⟨9, shF, false⟩) Try.func34 (by kernel_rfl) ok34 (by kernel_rfl) (by kernel_rfl) (fun _ => rfl) hl h -- slices.ContainsFunc[[]int,int]
@[simp] theorem sh35 : shF 35 = false := by decide
theorem run35 {args : List CA} {r : CA} (hl : args.length ≤ 6) (h : wpV Try.prog TV ⟨6, shF, false⟩ (Try.f35.body.getD .skip) (endK Try.prog Try.f35.results.toList r) ⟨env0 args, []⟩) : TV.pu 35 args = some r := TT_go (N := ⟨6, shF, false⟩) Try.func35 (by kernel_rfl) ok35 (by kernel_rfl) (by kernel_rfl) (fun _ => rfl) hl h -- rillmeter/signed.Right$1$1
@[simp] theorem sh36 : shF 36 = false := by decide
theorem run36 {args : List CA} {r : CA} (hl : args.length ≤ 16) (h : wpV Try.prog TV ⟨16, shF, false⟩ (Try.f36.body.getD .skip) (endK Try.prog Try.f36.results.toList r) ⟨env0 args, []⟩) : TV.pu 36 args = some r := TT_go (N := ⟨16, shF, false⟩) Try.func36 (by kernel_rfl) ok36 (by kernel_rfl) (by kernel_rfl) (fun _ => rfl) hl h -- rillmeter/rillmeterref02.Cell
@[simp] theorem sh37 : shF 37 = false := by decide
theorem run37 {args : List CA} {r : CA} (hl : args.length ≤ 17) (h : wpV Try.prog TV ⟨17, shF, false⟩ (Try.f37.body.getD .skip) (endK Try.prog Try.f37.results.toList r) ⟨env0 args, []⟩) : TV.pu 37 args = some r := TT_go (N := ⟨17, shF, false⟩) Try.func37 (by kernel_rfl) ok37 (by kernel_rfl) (by kernel_rfl) (fun _ => rfl) hl h -- rillmeter/rillmeterref02.Row
@[simp] theorem sh38 : shF 38 = false := by decide
theorem run38 {args : List CA} {r : CA} (hl : args.length ≤ 14) (h : wpV Try.prog TV ⟨14, shF, false⟩ (Try.f38.body.getD .skip) (endK Try.prog Try.f38.results.toList r) ⟨env0 args, []⟩) : TV.pu 38 args = some r := TT_go (N := ⟨14, shF, false⟩) Try.func38 (by kernel_rfl) ok38 (by kernel_rfl) (by kernel_rfl) (fun _ => rfl) hl h -- rillmeter/rillmeterref12.Sign
@[simp] theorem sh39 : shF 39 = true := by decide
theorem run39 {args : List AV} {r : AV} {H H' : Hp} (hl : args.length ≤ 8) (hH : H.length ≤ H'.length) (h : wpV Try.prog TV ⟨8, shF, false⟩ (Try.f39.body.getD .skip) (endS Try.prog Try.f39.results.toList r H') ⟨envS args, H⟩) : TV.S 39 args H = some (r, H') := TT_goS (N := ⟨8, shF, false⟩) Try.func39 (by kernel_rfl) ok39 (by kernel_rfl) (by kernel_rfl) (fun _ _ => rfl) hl hH h -- slices.Clone[[]int,int]
@[simp] theorem sh40 : shF 40 = false := by decide
theorem run40 {args : List CA} {r : CA} (hl : args.length ≤ 16) (h : wpV Try.prog TV ⟨16, shF, false⟩ (Try.f40.body.getD .skip) (endK Try.prog Try.f40.results.toList r) ⟨env0 args, []⟩) : TV.pu 40 args = some r := TT_go (N := ⟨16, shF, false⟩) Try.func40 (by kernel_rfl) ok40 (by kernel_rfl) (by kernel_rfl) (fun _ => rfl) hl h -- rillmeter/hash.Cell
@[simp] theorem sh41 : shF 41 = false := by decide
theorem run41 {args : List CA} {r : CA} (hl : args.length ≤ 17) (h : wpV Try.prog TV ⟨17, shF, false⟩ (Try.f41.body.getD .skip) (endK Try.prog Try.f41.results.toList r) ⟨env0 args, []⟩) : TV.pu 41 args = some r := TT_go (N := ⟨17, shF, false⟩) Try.func41 (by kernel_rfl) ok41 (by kernel_rfl) (by kernel_rfl) (fun _ => rfl) hl h -- rillmeter/hash.Row
@[simp] theorem sh42 : shF 42 = false := by decide
theorem run42 {args : List CA} {r : CA} (hl : args.length ≤ 12) (h : wpV Try.prog TV ⟨12, shF, false⟩ (Try.f42.body.getD .skip) (endK Try.prog Try.f42.results.toList r) ⟨env0 args, []⟩) : TV.pu 42 args = some r := TT_go (N := ⟨12, shF, false⟩) Try.func42 (by kernel_rfl) ok42 (by kernel_rfl) (by kernel_rfl) (fun _ => rfl) hl h -- rillmeter/hash.Sign
@[simp] theorem sh43 : shF 43 = false := by decide
theorem run43 {args : List CA} {r : CA} (hl : args.length ≤ 134) (h : wpV Try.prog TV ⟨134, shF, false⟩ (Try.f43.body.getD .skip) (endK Try.prog Try.f43.results.toList r) ⟨env0 args, []⟩) : TV.pu 43 args = some r := TT_go (N := ⟨134, shF, false⟩) Try.func43 (by kernel_rfl) ok43 (by kernel_rfl) (by kernel_rfl) (fun _ => rfl) hl h -- slices.pdqsortOrdered[int]
@[simp] theorem sh44 : shF 44 = false := by decide
theorem run44 {args : List CA} {r : CA} (hl : args.length ≤ 8) (h : wpV Try.prog TV ⟨8, shF, false⟩ (Try.f44.body.getD .skip) (endK Try.prog Try.f44.results.toList r) ⟨env0 args, []⟩) : TV.pu 44 args = some r := TT_go (N := ⟨8, shF, false⟩) Try.func44 (by kernel_rfl) ok44 (by kernel_rfl) (by kernel_rfl) (fun _ => rfl) hl h -- math/bits.Len
@[simp] theorem sh45 : shF 45 = false := by decide
theorem run45 {args : List CA} {r : CA} (hl : args.length ≤ 19) (h : wpV Try.prog TV ⟨19, shF, false⟩ (Try.f45.body.getD .skip) (endK Try.prog Try.f45.results.toList r) ⟨env0 args, []⟩) : TV.pu 45 args = some r := TT_go (N := ⟨19, shF, false⟩) Try.func45 (by kernel_rfl) ok45 (by kernel_rfl) (by kernel_rfl) (fun _ => rfl) hl h -- slices.IndexFunc[[][]int,[]int]
@[simp] theorem sh46 : shF 46 = false := by decide
theorem run46 {args : List CA} {r : CA} (hl : args.length ≤ 19) (h : wpV Try.prog TV ⟨19, shF, false⟩ (Try.f46.body.getD .skip) (endK Try.prog Try.f46.results.toList r) ⟨env0 args, []⟩) : TV.pu 46 args = some r := TT_go (N := ⟨19, shF, false⟩) Try.func46 (by kernel_rfl) ok46 (by kernel_rfl) (by kernel_rfl) (fun _ => rfl) hl h -- slices.IndexFunc[[]int,int]
@[simp] theorem sh47 : shF 47 = false := by decide
theorem run47 {args : List CA} {r : CA} (hl : args.length ≤ 36) (h : wpV Try.prog TV ⟨36, shF, false⟩ (Try.f47.body.getD .skip) (endK Try.prog Try.f47.results.toList r) ⟨env0 args, []⟩) : TV.pu 47 args = some r := TT_go (N := ⟨36, shF, false⟩) Try.func47 (by kernel_rfl) ok47 (by kernel_rfl) (by kernel_rfl) (fun _ => rfl) hl h -- rillmeter/rillmeterref02.Sum
@[simp] theorem sh48 : shF 48 = false := by decide
theorem run48 {args : List CA} {r : CA} (hl : args.length ≤ 26) (h : wpV Try.prog TV ⟨26, shF, false⟩ (Try.f48.body.getD .skip) (endK Try.prog Try.f48.results.toList r) ⟨env0 args, []⟩) : TV.pu 48 args = some r := TT_go (N := ⟨26, shF, false⟩) Try.func48 (by kernel_rfl) ok48 (by kernel_rfl) (by kernel_rfl) (fun _ => rfl) hl h -- rillmeter/rillmeterref01.Mul
@[simp] theorem sh49 : shF 49 = false := by decide
theorem run49 {args : List CA} {r : CA} (hl : args.length ≤ 11) (h : wpV Try.prog TV ⟨11, shF, false⟩ (Try.f49.body.getD .skip) (endK Try.prog Try.f49.results.toList r) ⟨env0 args, []⟩) : TV.pu 49 args = some r := TT_go (N := ⟨11, shF, false⟩) Try.func49 (by kernel_rfl) ok49 (by kernel_rfl) (by kernel_rfl) (fun _ => rfl) hl h -- rillmeter/rillmeterref01.Add
@[simp] theorem sh50 : shF 50 = false := by decide
theorem run50 {args : List CA} {r : CA} (hl : args.length ≤ 22) (h : wpV Try.prog TV ⟨22, shF, false⟩ (Try.f50.body.getD .skip) (endK Try.prog Try.f50.results.toList r) ⟨env0 args, []⟩) : TV.pu 50 args = some r := TT_go (N := ⟨22, shF, false⟩) Try.func50 (by kernel_rfl) ok50 (by kernel_rfl) (by kernel_rfl) (fun _ => rfl) hl h -- rillmeter/rillmeterref01.Pow
@[simp] theorem sh51 : shF 51 = false := by decide
theorem run51 {args : List CA} {r : CA} (hl : args.length ≤ 10) (h : wpV Try.prog TV ⟨10, shF, false⟩ (Try.f51.body.getD .skip) (endK Try.prog Try.f51.results.toList r) ⟨env0 args, []⟩) : TV.pu 51 args = some r := TT_go (N := ⟨10, shF, false⟩) Try.func51 (by kernel_rfl) ok51 (by kernel_rfl) (by kernel_rfl) (fun _ => rfl) hl h -- rillmeter/rillmeterref02.Sign
@[simp] theorem sh52 : shF 52 = false := by decide
theorem run52 {args : List CA} {r : CA} (hl : args.length ≤ 51) (h : wpV Try.prog TV ⟨51, shF, false⟩ (Try.f52.body.getD .skip) (endK Try.prog Try.f52.results.toList r) ⟨env0 args, []⟩) : TV.pu 52 args = some r := TT_go (N := ⟨51, shF, false⟩) Try.func52 (by kernel_rfl) ok52 (by kernel_rfl) (by kernel_rfl) (fun _ => rfl) hl h -- rillmeter/hash.Sum
@[simp] theorem sh53 : shF 53 = false := by decide
theorem run53 {args : List CA} {r : CA} (hl : args.length ≤ 11) (h : wpV Try.prog TV ⟨11, shF, false⟩ (Try.f53.body.getD .skip) (endK Try.prog Try.f53.results.toList r) ⟨env0 args, []⟩) : TV.pu 53 args = some r := TT_go (N := ⟨11, shF, false⟩) Try.func53 (by kernel_rfl) ok53 (by kernel_rfl) (by kernel_rfl) (fun _ => rfl) hl h -- rillmeter/field.Add
@[simp] theorem sh54 : shF 54 = false := by decide
theorem run54 {args : List CA} {r : CA} (hl : args.length ≤ 24) (h : wpV Try.prog TV ⟨24, shF, false⟩ (Try.f54.body.getD .skip) (endK Try.prog Try.f54.results.toList r) ⟨env0 args, []⟩) : TV.pu 54 args = some r := TT_go (N := ⟨24, shF, false⟩) Try.func54 (by kernel_rfl) ok54 (by kernel_rfl) (by kernel_rfl) (fun _ => rfl) hl h -- rillmeter/field.Mul
@[simp] theorem sh55 : shF 55 = false := by decide
theorem run55 {args : List CA} {r : CA} (hl : args.length ≤ 49) (h : wpV Try.prog TV ⟨49, shF, false⟩ (Try.f55.body.getD .skip) (endK Try.prog Try.f55.results.toList r) ⟨env0 args, []⟩) : TV.pu 55 args = some r := TT_go (N := ⟨49, shF, false⟩) Try.func55 (by kernel_rfl) ok55 (by kernel_rfl) (by kernel_rfl) (fun _ => rfl) hl h -- slices.insertionSortOrdered[int]
@[simp] theorem sh56 : shF 56 = false := by decide
theorem run56 {args : List CA} {r : CA} (hl : args.length ≤ 56) (h : wpV Try.prog TV ⟨56, shF, false⟩ (Try.f56.body.getD .skip) (endK Try.prog Try.f56.results.toList r) ⟨env0 args, []⟩) : TV.pu 56 args = some r := TT_go (N := ⟨56, shF, false⟩) Try.func56 (by kernel_rfl) ok56 (by kernel_rfl) (by kernel_rfl) (fun _ => rfl) hl h -- slices.heapSortOrdered[int]
@[simp] theorem sh57 : shF 57 = false := by decide
theorem run57 {args : List CA} {r : CA} (hl : args.length ≤ 65) (h : wpV Try.prog TV ⟨65, shF, false⟩ (Try.f57.body.getD .skip) (endK Try.prog Try.f57.results.toList r) ⟨env0 args, []⟩) : TV.pu 57 args = some r := TT_go (N := ⟨65, shF, false⟩) Try.func57 (by kernel_rfl) ok57 (by kernel_rfl) (by kernel_rfl) (fun _ => rfl) hl h -- slices.breakPatternsOrdered[int]
@[simp] theorem sh58 : shF 58 = false := by decide
theorem run58 {args : List CA} {r : CA} (hl : args.length ≤ 57) (h : wpV Try.prog TV ⟨57, shF, false⟩ (Try.f58.body.getD .skip) (endK Try.prog Try.f58.results.toList r) ⟨env0 args, []⟩) : TV.pu 58 args = some r := TT_go (N := ⟨57, shF, false⟩) Try.func58 (by kernel_rfl) ok58 (by kernel_rfl) (by kernel_rfl) (fun _ => rfl) hl h -- slices.choosePivotOrdered[int]
@[simp] theorem sh59 : shF 59 = false := by decide
theorem run59 {args : List CA} {r : CA} (hl : args.length ≤ 32) (h : wpV Try.prog TV ⟨32, shF, false⟩ (Try.f59.body.getD .skip) (endK Try.prog Try.f59.results.toList r) ⟨env0 args, []⟩) : TV.pu 59 args = some r := TT_go (N := ⟨32, shF, false⟩) Try.func59 (by kernel_rfl) ok59 (by kernel_rfl) (by kernel_rfl) (fun _ => rfl) hl h -- slices.reverseRangeOrdered[int]
@[simp] theorem sh60 : shF 60 = false := by decide
theorem run60 {args : List CA} {r : CA} (hl : args.length ≤ 133) (h : wpV Try.prog TV ⟨133, shF, false⟩ (Try.f60.body.getD .skip) (endK Try.prog Try.f60.results.toList r) ⟨env0 args, []⟩) : TV.pu 60 args = some r := TT_go (N := ⟨133, shF, false⟩) Try.func60 (by kernel_rfl) ok60 (by kernel_rfl) (by kernel_rfl) (fun _ => rfl) hl h -- slices.partialInsertionSortOrdered[int]
@[simp] theorem sh61 : shF 61 = false := by decide
theorem run61 {args : List CA} {r : CA} (hl : args.length ≤ 17) (h : wpV Try.prog TV ⟨17, shF, false⟩ (Try.f61.body.getD .skip) (endK Try.prog Try.f61.results.toList r) ⟨env0 args, []⟩) : TV.pu 61 args = some r := TT_go (N := ⟨17, shF, false⟩) Try.func61 (by kernel_rfl) ok61 (by kernel_rfl) (by kernel_rfl) (fun _ => rfl) hl h -- cmp.Less[int]
@[simp] theorem sh62 : shF 62 = false := by decide
theorem run62 {args : List CA} {r : CA} (hl : args.length ≤ 84) (h : wpV Try.prog TV ⟨84, shF, false⟩ (Try.f62.body.getD .skip) (endK Try.prog Try.f62.results.toList r) ⟨env0 args, []⟩) : TV.pu 62 args = some r := TT_go (N := ⟨84, shF, false⟩) Try.func62 (by kernel_rfl) ok62 (by kernel_rfl) (by kernel_rfl) (fun _ => rfl) hl h -- slices.partitionEqualOrdered[int]
@[simp] theorem sh63 : shF 63 = false := by decide
theorem run63 {args : List CA} {r : CA} (hl : args.length ≤ 168) (h : wpV Try.prog TV ⟨168, shF, false⟩ (Try.f63.body.getD .skip) (endK Try.prog Try.f63.results.toList r) ⟨env0 args, []⟩) : TV.pu 63 args = some r := TT_go (N := ⟨168, shF, false⟩) Try.func63 (by kernel_rfl) ok63 (by kernel_rfl) (by kernel_rfl) (fun _ => rfl) hl h -- slices.partitionOrdered[int]
@[simp] theorem sh64 : shF 64 = false := by decide
theorem run64 {args : List CA} {r : CA} (hl : args.length ≤ 19) (h : wpV Try.prog TV ⟨19, shF, false⟩ (Try.f64.body.getD .skip) (endK Try.prog Try.f64.results.toList r) ⟨env0 args, []⟩) : TV.pu 64 args = some r := TT_go (N := ⟨19, shF, false⟩) Try.func64 (by kernel_rfl) ok64 (by kernel_rfl) (by kernel_rfl) (fun _ => rfl) hl h -- math/bits.Len32
@[simp] theorem sh65 : shF 65 = false := by decide
theorem run65 {args : List CA} {r : CA} (hl : args.length ≤ 25) (h : wpV Try.prog TV ⟨25, shF, false⟩ (Try.f65.body.getD .skip) (endK Try.prog Try.f65.results.toList r) ⟨env0 args, []⟩) : TV.pu 65 args = some r := TT_go (N := ⟨25, shF, false⟩) Try.func65 (by kernel_rfl) ok65 (by kernel_rfl) (by kernel_rfl) (fun _ => rfl) hl h -- math/bits.Len64
@[simp] theorem sh66 : shF 66 = false := by decide
theorem run66 {args : List CA} {r : CA} (hl : args.length ≤ 5) (h : wpV Try.prog TV ⟨5, shF, false⟩ (Try.f66.body.getD .skip) (endK Try.prog Try.f66.results.toList r) ⟨env0 args, []⟩) : TV.pu 66 args = some r := TT_go (N := ⟨5, shF, false⟩) Try.func66 (by kernel_rfl) ok66 (by kernel_rfl) (by kernel_rfl) (fun _ => rfl) hl h -- rillmeter/rillmeterref01.Of
@[simp] theorem sh67 : shF 67 = false := by decide
theorem run67 {args : List CA} {r : CA} (hl : args.length ≤ 48) (h : wpV Try.prog TV ⟨48, shF, false⟩ (Try.f67.body.getD .skip) (endK Try.prog Try.f67.results.toList r) ⟨env0 args, []⟩) : TV.pu 67 args = some r := TT_go (N := ⟨48, shF, false⟩) Try.func67 (by kernel_rfl) ok67 (by kernel_rfl) (by kernel_rfl) (fun _ => rfl) hl h -- rillmeter/rillmeterref02.words
@[simp] theorem sh68 : shF 68 = false := by decide
theorem run68 {args : List CA} {r : CA} (hl : args.length ≤ 22) (h : wpV Try.prog TV ⟨22, shF, false⟩ (Try.f68.body.getD .skip) (endK Try.prog Try.f68.results.toList r) ⟨env0 args, []⟩) : TV.pu 68 args = some r := TT_go (N := ⟨22, shF, false⟩) Try.func68 (by kernel_rfl) ok68 (by kernel_rfl) (by kernel_rfl) (fun _ => rfl) hl h -- rillmeter/field.Pow
@[simp] theorem sh69 : shF 69 = false := by decide
theorem run69 {args : List CA} {r : CA} (hl : args.length ≤ 13) (h : wpV Try.prog TV ⟨13, shF, false⟩ (Try.f69.body.getD .skip) (endK Try.prog Try.f69.results.toList r) ⟨env0 args, []⟩) : TV.pu 69 args = some r := TT_go (N := ⟨13, shF, false⟩) Try.func69 (by kernel_rfl) ok69 (by kernel_rfl) (by kernel_rfl) (fun _ => rfl) hl h -- rillmeter/field.Of
@[simp] theorem sh70 : shF 70 = false := by decide
theorem run70 {args : List CA} {r : CA} (hl : args.length ≤ 51) (h : wpV Try.prog TV ⟨51, shF, false⟩ (Try.f70.body.getD .skip) (endK Try.prog Try.f70.results.toList r) ⟨env0 args, []⟩) : TV.pu 70 args = some r := TT_go (N := ⟨51, shF, false⟩) Try.func70 (by kernel_rfl) ok70 (by kernel_rfl) (by kernel_rfl) (fun _ => rfl) hl h -- math/bits.Mul64
@[simp] theorem sh71 : shF 71 = false := by decide
theorem run71 {args : List CA} {r : CA} (hl : args.length ≤ 76) (h : wpV Try.prog TV ⟨76, shF, false⟩ (Try.f71.body.getD .skip) (endK Try.prog Try.f71.results.toList r) ⟨env0 args, []⟩) : TV.pu 71 args = some r := TT_go (N := ⟨76, shF, false⟩) Try.func71 (by kernel_rfl) ok71 (by kernel_rfl) (by kernel_rfl) (fun _ => rfl) hl h -- slices.siftDownOrdered[int]
@[simp] theorem sh72 : shF 72 = false := by decide
theorem run72 {args : List CA} {r : CA} (hl : args.length ≤ 7) (h : wpV Try.prog TV ⟨7, shF, false⟩ (Try.f72.body.getD .skip) (endK Try.prog Try.f72.results.toList r) ⟨env0 args, []⟩) : TV.pu 72 args = some r := TT_go (N := ⟨7, shF, false⟩) Try.func72 (by kernel_rfl) ok72 (by kernel_rfl) (by kernel_rfl) (fun _ => rfl) hl h -- slices.nextPowerOfTwo
@[simp] theorem sh73 : shF 73 = false := by decide
theorem run73 {args : List CA} {r : CA} (hl : args.length ≤ 33) (h : wpV Try.prog TV ⟨33, shF, false⟩ (Try.f73.body.getD .skip) (endK Try.prog Try.f73.results.toList r) ⟨env0 args, []⟩) : TV.pu 73 args = some r := TT_go (N := ⟨33, shF, false⟩) Try.func73 (by kernel_rfl) ok73 (by kernel_rfl) (by kernel_rfl) (fun _ => rfl) hl h -- (*slices.xorshift).Next
@[simp] theorem sh74 : shF 74 = false := by decide
theorem run74 {args : List CA} {r : CA} (hl : args.length ≤ 15) (h : wpV Try.prog TV ⟨15, shF, false⟩ (Try.f74.body.getD .skip) (endK Try.prog Try.f74.results.toList r) ⟨env0 args, []⟩) : TV.pu 74 args = some r := TT_go (N := ⟨15, shF, false⟩) Try.func74 (by kernel_rfl) ok74 (by kernel_rfl) (by kernel_rfl) (fun _ => rfl) hl h -- slices.medianAdjacentOrdered[int]
@[simp] theorem sh75 : shF 75 = false := by decide
theorem run75 {args : List CA} {r : CA} (hl : args.length ≤ 36) (h : wpV Try.prog TV ⟨36, shF, false⟩ (Try.f75.body.getD .skip) (endK Try.prog Try.f75.results.toList r) ⟨env0 args, []⟩) : TV.pu 75 args = some r := TT_go (N := ⟨36, shF, false⟩) Try.func75 (by kernel_rfl) ok75 (by kernel_rfl) (by kernel_rfl) (fun _ => rfl) hl h -- slices.medianOrdered[int]
@[simp] theorem sh76 : shF 76 = false := by decide
theorem run76 {args : List CA} {r : CA} (hl : args.length ≤ 6) (h : wpV Try.prog TV ⟨6, shF, false⟩ (Try.f76.body.getD .skip) (endK Try.prog Try.f76.results.toList r) ⟨env0 args, []⟩) : TV.pu 76 args = some r := TT_go (N := ⟨6, shF, false⟩) Try.func76 (by kernel_rfl) ok76 (by kernel_rfl) (by kernel_rfl) (fun _ => rfl) hl h -- cmp.isNaN[int]
@[simp] theorem sh77 : shF 77 = false := by decide
theorem run77 {args : List CA} {r : CA} (hl : args.length ≤ 28) (h : wpV Try.prog TV ⟨28, shF, false⟩ (Try.f77.body.getD .skip) (endK Try.prog Try.f77.results.toList r) ⟨env0 args, []⟩) : TV.pu 77 args = some r := TT_go (N := ⟨28, shF, false⟩) Try.func77 (by kernel_rfl) ok77 (by kernel_rfl) (by kernel_rfl) (fun _ => rfl) hl h -- slices.order2Ordered[int]
end Go.Proofs.YteaeigpeaneicaaF
end

section
/- A law's arguments, read as data, are closed values; and what a law tells of them stands in the statement's form. -/
namespace Go.Proofs.Vm
open Go Go.RowKit Go.ChangeShapes Go.WideShapes

def All (w : World) : Nat → Prop := fun b => b < w.heap.size

/-- Whatever reads as data of type T is so many closed cells, that are good. -/
def Opens (P : Program) (T : TypeId) (sz : Nat) (good : List CV → Prop) : Prop :=
  ∀ (H : Type) (enc : TypeId × Value → H) (W : World) (spare : Nat → Bool) (held : Bool) (fuel : Nat) (cs : List Value) (x : DataW H × List MemPlace),
    DataW.trod enc P W 0 spare held fuel T cs = some x → (∀ q ∈ DataW.weights P T x.1, q ≤ 140737488351232) → ∃ l : List CV, RKs (All W) W l cs ∧ l.length = sz ∧ good l

variable {P : Program}

theorem rks_one {I : Nat → Prop} {w : World} {x : CV} {v : Value} (h : RC I w x v) : RKs I w [x] [v] := by
  refine ⟨rfl, fun j y z hy hz => ?_⟩
  cases j with
  | zero => cases hy; cases hz; exact h
  | succ j => simp at hy
theorem rks_append {I : Nat → Prop} {w : World} {l m : List CV} {vs us : List Value} (h : RKs I w l vs) (k : RKs I w m us) : RKs I w (l ++ m) (vs ++ us) := by
  refine ⟨by simp [h.1, k.1], fun j x y hx hy => ?_⟩
  by_cases hj : j < l.length
  · rw [List.getElem?_append_left hj] at hx
    rw [List.getElem?_append_left (by rw [← h.1]; exact hj)] at hy
    exact h.2 j x y hx hy
  · rw [List.getElem?_append_right (by omega)] at hx
    rw [List.getElem?_append_right (by rw [← h.1]; omega), ← h.1] at hy
    exact k.2 _ x y hx hy

def isI (k : IntKind) (l : List CV) : Prop := ∃ n, l = [.v (.int k n)] ∧ (Lit.int k n).wf = true
def isB (l : List CV) : Prop := ∃ b, l = [.v (.bool b)]
def isS (l : List CV) : Prop := ∃ s : ByteArray, l = [.v (.string s)] ∧ s.size ≤ 140737488351232
def isL (sz bytes : Nat) (good : List CV → Prop) (l : List CV) : Prop := ∃ L : List (List CV), l = [.arr L] ∧ (∀ e ∈ L, e.length = sz ∧ good e) ∧ L.length * bytes ≤ 140737488351232
def isP (good good' : List CV → Prop) (l : List CV) : Prop := ∃ a b, l = a ++ b ∧ good a ∧ good' b

theorem opens_int {T : TypeId} {k : IntKind} (ht : P.underlying T = some (.int k)) : Opens P T 1 (isI k) := by
  intro H enc W spare held fuel cs x h _
  obtain ⟨n, rfl, _, hw⟩ := DataW.trod_int ht h
  exact ⟨_, rks_one (.v _ rfl), rfl, n, rfl, hw⟩
theorem opens_bool {T : TypeId} (ht : P.underlying T = some .bool) : Opens P T 1 isB := by
  intro H enc W spare held fuel cs x h _
  obtain ⟨n, rfl, _⟩ := DataW.trod_bool ht h
  exact ⟨_, rks_one (.v _ rfl), rfl, n, rfl⟩
theorem opens_string {T : TypeId} (ht : P.underlying T = some .string) : Opens P T 1 isS := by
  intro H enc W spare held fuel cs x h hq
  obtain ⟨s, rfl, rfl, _⟩ := DataW.trod_string ht h
  have h1 := hq s.data.toList.length (by simp [DataW.weights])
  rw [Array.length_toList] at h1
  exact ⟨_, rks_one (.v _ rfl), rfl, s, rfl, h1⟩
theorem cells_at {W : World} {a : Addr} {n : Nat} {cs : List Value} (h : W.cells? 0 a n = some cs) : cs.length = n ∧ ∀ i u, cs[i]? = some u → W.cell? (a.add i) = some u := by
  unfold World.cells? at h
  rw [if_pos (Nat.zero_le _)] at h
  have hl : cs.length = n := by have := mapM_some_length h; simpa using this
  refine ⟨hl, fun i u hu => ?_⟩
  have hi : i < n := by have := (List.getElem?_eq_some_iff.1 hu).1; omega
  have h1 := mapM_some_get h i i (by simp [hi])
  rw [h1, hu]
theorem weights_all {H : Type} {e : TypeId} {l : List (DataW H)} {d : DataW H} (hd : d ∈ l) : ∀ q ∈ DataW.weights P e d, q ∈ DataW.weightsAll P e l := by
  induction l with
  | nil => cases hd
  | cons y t ih =>
    intro q hq
    simp only [DataW.weightsAll, List.mem_append]
    rcases List.mem_cons.1 hd with rfl | h
    · exact .inl hq
    · exact .inr (ih h q hq)
theorem opens_slice {T e : TypeId} {sz bytes : Nat} {good : List CV → Prop} (ht : P.underlying T = some (.slice e)) (hc : P.cellsOf e = sz) (hz : 0 < sz) (hb : P.bytesOf e = bytes) (he : Opens P e sz good) : Opens P T 1 (isL sz bytes good) := by
  intro H enc W spare held fuel cs x h hq
  rcases Go.Deep.open_slice ht h with ⟨rfl, rfl⟩ | ⟨a, len, cap, m, n, D, Pl, rfl, _, hlc, hcap, hm, rfl, hel⟩
  · refine ⟨[.arr []], rks_one (.arr [] none 0 0 (fun _ _ => .bool false) (Nat.le_refl _) (by simp) (by simp) (by simp)), rfl, [], rfl, by simp, by simp⟩
  · have hlm : len ≤ m := by rw [hm]; split <;> omega
    simp only [DataW.weights, ht, List.mem_cons, List.mem_append] at hq
    obtain ⟨F, hF⟩ := Go.Deep.choose_lt (α := List CV × List Value) (n := len) (p := fun i y => W.cells? 0 (a.add (i * P.cellsOf e)) (P.cellsOf e) = some y.2 ∧ RKs (All W) W y.1 y.2 ∧ y.1.length = sz ∧ good y.1) (fun i hi => by
      obtain ⟨cs', h1, h2⟩ := hel i (by omega)
      obtain ⟨l, hl, hs, hg⟩ := he H enc W spare held n cs' (D i, Pl i) h2 (fun q hq1 => hq q (.inr (.inl (weights_all (List.mem_map.2 ⟨i, List.mem_range.2 hi, rfl⟩) q hq1))))
      exact ⟨(l, cs'), h1, hl, hs, hg⟩)
    have hw : len * bytes ≤ 140737488351232 := by
      have h1 := hq _ (.inl rfl)
      rw [hb] at h1
      refine Nat.le_trans (Nat.mul_le_mul_right _ ?_) h1
      simp
    have hlen : ((List.range len).map fun i => (F i).1).length = len := by simp
    have get : ∀ (i : Nat) e, ((List.range len).map fun i => (F i).1)[i]? = some e → i < len ∧ e = (F i).1 := by
      intro i e hi
      have hl := (List.getElem?_eq_some_iff.1 hi).1
      rw [hlen] at hl
      rw [List.getElem?_map, List.getElem?_range hl] at hi
      cases hi
      exact ⟨hl, rfl⟩
    have cell : ∀ i j, i < len → j < sz → W.cell? ((a.add (i * sz)).add j) = some ((F i).2.getD j (.bool false)) := by
      intro i j hi hj
      obtain ⟨h1, h2, h3, _⟩ := hF i hi
      obtain ⟨k1, k2⟩ := cells_at h1
      rw [hc] at k1 k2
      refine k2 j _ ?_
      rw [List.getD_eq_getElem?_getD, List.getElem?_eq_getElem (by omega)]
      rfl
    have key : RC (All W) W (.arr ((List.range len).map fun i => (F i).1)) (.slice (some a) ((List.range len).map fun i => (F i).1).length cap) := by
      refine .arr _ (some a) cap sz (fun i j => (F i).2.getD j (.bool false)) (by rw [hlen]; exact hlc) (fun e he => ?_) (fun hn => ?_) (fun i j e x hi hx => ?_)
      · obtain ⟨i, hi⟩ := List.getElem?_of_mem he
        obtain ⟨hl, rfl⟩ := get i e hi
        exact (hF i hl).2.2.1
      · have hp : 0 < len := by
          rcases Nat.eq_zero_or_pos len with h0 | h0
          · subst h0; exact absurd rfl hn
          · exact h0
        have c0 := cell 0 0 hp hz
        have hadd : ∀ k, a.spot = none → a.add k = ⟨a.block, a.off + k, none⟩ := fun k hs => by
          obtain ⟨b, o, s⟩ := a
          cases hs
          simp [Addr.add]
        have hs : a.spot = none := by
          simp only [Nat.zero_mul] at c0
          rw [show (a.add 0).add 0 = a by simp [Addr.add]] at c0
          unfold World.cell? at c0
          split at c0
          · split at c0
            · cases c0
            · rename_i h0; simpa using h0
          · cases c0
        refine ⟨a.block, a.off, by obtain ⟨b, o, s⟩ := a; cases hs; rfl, ?_, fun i j hi hj => ?_⟩
        · simp only [Nat.zero_mul] at c0
          rw [show (a.add 0).add 0 = a by simp [Addr.add]] at c0
          show a.block < W.heap.size
          unfold World.cell? at c0
          rcases Nat.lt_or_ge a.block W.heap.size with h0 | h0
          · exact h0
          · rw [Array.getElem?_eq_none h0] at c0; cases c0
        · have := cell i j (by rw [hlen] at hi; exact hi) hj
          rw [Addr.add_add, hadd _ hs] at this
          rw [← this]
      · obtain ⟨hl, rfl⟩ := get i e hi
        obtain ⟨h1, h2, h3, _⟩ := hF i hl
        have hj : j < (F i).1.length := (List.getElem?_eq_some_iff.1 hx).1
        have hj2 : j < (F i).2.length := by rw [← h2.1]; exact hj
        refine h2.2 j x _ hx ?_
        rw [List.getD_eq_getElem?_getD, List.getElem?_eq_getElem hj2]
        rfl
    rw [hlen] at key
    refine ⟨_, rks_one key, rfl, _, rfl, fun e he => ?_, by rw [hlen]; exact hw⟩
    obtain ⟨i, hi⟩ := List.getElem?_of_mem he
    obtain ⟨hl, rfl⟩ := get i e hi
    exact (hF i hl).2.2
/-- The fields of a struct, from a place on. -/
def OpensAt (P : Program) (fs : List Field) (o sz : Nat) (good : List CV → Prop) : Prop :=
  ∀ (H : Type) (enc : TypeId × Value → H) (W : World) (spare : Nat → Bool) (held : Bool) (n : Nat) (cs : List Value), cs.length = o + sz →
    (∀ f ∈ fs, ∃ y : DataW H × List MemPlace, DataW.trod enc P W 0 spare held n f.type ((cs.drop f.offset).take (P.cellsOf f.type)) = some y ∧ ∀ q ∈ DataW.weights P f.type y.1, q ≤ 140737488351232) →
    ∃ l : List CV, RKs (All W) W l (cs.drop o) ∧ l.length = sz ∧ good l
theorem at_one {f : Field} {o sz : Nat} {good : List CV → Prop} (ho : f.offset = o) (hc : P.cellsOf f.type = sz) (hf : Opens P f.type sz good) : OpensAt P [f] o sz good := by
  intro H enc W spare held n cs hl h
  obtain ⟨y, hy, hq⟩ := h f List.mem_cons_self
  obtain ⟨a, hK, hg⟩ := hf H enc W spare held n _ y hy hq
  rw [ho, hc, List.take_of_length_le (by rw [List.length_drop]; omega)] at hK
  exact ⟨a, hK, hg⟩
theorem at_cons {f : Field} {fs : List Field} {o sz sz' : Nat} {good good' : List CV → Prop} (ho : f.offset = o) (hc : P.cellsOf f.type = sz) (hf : Opens P f.type sz good) (hfs : OpensAt P fs (o + sz) sz' good') :
    OpensAt P (f :: fs) o (sz + sz') (isP good good') := by
  intro H enc W spare held n cs hl h
  obtain ⟨y, hy, hq⟩ := h f List.mem_cons_self
  obtain ⟨a, hK, hs, hg⟩ := hf H enc W spare held n _ y hy hq
  obtain ⟨b, hK', hs', hg'⟩ := hfs H enc W spare held n cs (by rw [hl]; omega) (fun f' hf' => h f' (List.mem_cons_of_mem _ hf'))
  rw [ho, hc] at hK
  refine ⟨a ++ b, ?_, by simp [hs, hs'], a, b, rfl, hg, hg'⟩
  have := rks_append hK hK'
  rwa [← List.drop_drop, List.take_append_drop] at this
theorem opens_struct {T : TypeId} {fs : Array Field} {sz : Nat} {good : List CV → Prop} (ht : P.underlying T = some (.struct fs)) (hc : P.cellsOf T = sz) (hf : OpensAt P fs.toList 0 sz good) : Opens P T sz good := by
  intro H enc W spare held fuel cs x h hq
  obtain ⟨xs, n, _, rfl, hl, hlen, hget⟩ := DataW.trod_struct ht h
  obtain ⟨a, hK, hg⟩ := hf H enc W spare held n cs (by rw [hl, hc, Nat.zero_add]) (fun f hfm => by
    obtain ⟨i, hi, rfl⟩ := List.getElem_of_mem hfm
    have hi' : i < fs.size := by simpa using hi
    have h1 := hget i fs[i] (by simp [hi'])
    have hi2 : i < xs.length := by omega
    refine ⟨xs[i], by rw [← List.getElem?_eq_getElem hi2, ← h1]; simp, fun q hq1 => hq q ?_⟩
    simp only [DataW.weights, ht]
    refine DataW.weights_mem_each (j := i) (t := fs[i].type) (d := xs[i].1) ?_ ?_ q (by simpa using hq1)
    · simp [hi']
    · simp [hi2])
  exact ⟨a, by simpa using hK, hg⟩

/-- An argument of type T is a closed value that is good. -/
def OpA (P : Program) (T : TypeId) (good : CA → Prop) : Prop :=
  ∀ (H : Type) (enc : TypeId × Value → H) (W : World) (base : Nat) (v : Value) (d : DataW H) (ps : List MemPlace), DataW.Trod enc P W 0 (fun _ => true) true T v d ps → Value.okWide P W .any base T v → (∀ q ∈ DataW.weights P T d, q ≤ 140737488351232) →
    ∃ a : CA, RK (All W) W a v ∧ good a

theorem opA_one {T : TypeId} {good : List CV → Prop} (hn : ∀ fs, P.underlying T ≠ some (.struct fs)) (hn2 : ∀ n e, P.underlying T ≠ some (.array n e)) (h : Opens P T 1 good) : OpA P T (fun a => ∃ x, a = .one x ∧ good [x]) := by
  intro H enc W base v d ps ⟨fuel, hf⟩ hok hq
  obtain ⟨l, hl, hs, hg⟩ := h H enc W _ _ fuel _ _ hf hq
  match l, hs with
  | [x], _ =>
    refine ⟨.one x, ?_, x, rfl, hg⟩
    have hl1 : v.cells.toList.length = 1 := by rw [← hl.1]; rfl
    have hv : v.cells = #[v] := by
      unfold Value.okWide at hok
      split at hok
      · rename_i fs h0; exact absurd h0 (hn fs)
      · rename_i n e h0; exact absurd h0 (hn2 _ _)
      · unfold Cell.okWide Cell.ok at hok
        cases v <;> first | rfl | (exfalso; revert hok; split <;> simp_all)
    rw [hv] at hl
    exact hl.2 0 x v rfl rfl
theorem opA_agg {T : TypeId} {fs : Array Field} {sz : Nat} {good : List CV → Prop} (ht : P.underlying T = some (.struct fs)) (h : Opens P T sz good) : OpA P T (fun a => ∃ l, a = .agg l ∧ l.length = sz ∧ good l) := by
  intro H enc W base v d ps ⟨fuel, hf⟩ hok hq
  obtain ⟨l, hl, hs, hg⟩ := h H enc W _ _ fuel _ _ hf hq
  refine ⟨.agg l, ?_, l, rfl, hs, hg⟩
  obtain ⟨cs, rfl, _⟩ := okWide_struct ht hok
  exact ⟨cs.toList, by simp, hl⟩

/-- The arguments of a function. -/
def OpAll (P : Program) (ts : List TypeId) (good : List CA → Prop) : Prop :=
  ∀ (H : Type) (enc : TypeId × Value → H) (W : World) (base : Nat) (vs : List Value) (ds : List (DataW H)) (ps : List MemPlace), DataW.TrodAll enc P W 0 (fun _ => true) true ts vs ds ps →
    (∀ (j : Nat) t v, ts[j]? = some t → vs[j]? = some v → Value.okWide P W .any base t v) → (∀ (j : Nat) t d, ts[j]? = some t → ds[j]? = some d → ∀ q ∈ DataW.weights P t d, q ≤ 140737488351232) →
    ∃ l : List CA, RKL (All W) W l vs ∧ good l
theorem opAll_nil : OpAll P [] (fun l => l = []) := by
  intro H enc W base vs ds ps h _ _
  obtain ⟨rfl, _, _⟩ := trodAll_nil h
  exact ⟨[], ⟨rfl, fun j x y hx => by simp at hx⟩, rfl⟩
theorem opAll_cons {T : TypeId} {ts : List TypeId} {g : CA → Prop} {gs : List CA → Prop} (h : OpA P T g) (hs : OpAll P ts gs) : OpAll P (T :: ts) (fun l => ∃ a r, l = a :: r ∧ g a ∧ gs r) := by
  intro H enc W base vs ds ps ht hok hq
  obtain ⟨v, vs, d, ds, p, q, rfl, rfl, rfl, h0, r0⟩ := trodAll_cons ht
  obtain ⟨a, hK, hg⟩ := h H enc W base v d p h0 (hok 0 T v rfl rfl) (hq 0 T d rfl rfl)
  obtain ⟨l, hL, hgs⟩ := hs H enc W base vs ds q r0 (fun j t v h1 h2 => hok (j + 1) t v h1 h2) (fun j t v h1 h2 => hq (j + 1) t v h1 h2)
  refine ⟨a :: l, ⟨by simp [hL.1], fun j x y hx hy => ?_⟩, a, l, rfl, hg, hgs⟩
  cases j with
  | zero => cases hx; cases hy; exact hK
  | succ j => exact hL.2 j x y hx hy

/-- Old memory reads as it did. -/
theorem trodAll_stays {H : Type} {enc : TypeId × Value → H} (hl : laidOutB P = true) {W W' : World} (hb : ∀ b, b < W.heap.size → W'.heap[b]? = W.heap[b]?) :
    ∀ {ts : List TypeId} {vs : List Value} {ds : List (DataW H)} {ps : List MemPlace}, ts.all (fun t => P.readableRec t && decide (t < P.types.size)) = true → DataW.TrodAll enc P W 0 (fun _ => true) true ts vs ds ps →
      DataW.TrodAll enc P W' 0 (fun b => decide (b < W.heap.size)) true ts vs ds ps
  | [], vs, ds, ps, _, h => by
    obtain ⟨rfl, rfl, rfl⟩ := trodAll_nil h
    exact trodAll_mk0
  | t :: ts, vs, ds, ps, hr, h => by
    obtain ⟨v, vs, d, ds, p, q, rfl, rfl, rfl, h0, r0⟩ := trodAll_cons h
    simp only [List.all_cons, Bool.and_eq_true, decide_eq_true_eq] at hr
    have lt0 : ∀ x ∈ p, x.block < W.heap.size := by obtain ⟨m, hm⟩ := h0; exact DataW.trod_lt m _ _ _ hm
    refine trodAll_cons_mk (WideElems.Trod_stays hl hr.1.1 hr.1.2 h0 (fun x hx => ?_) (fun x hx => by simpa using lt0 x hx)) (trodAll_stays hl hb hr.2 r0)
    have hlt := lt0 x hx
    exact (Below.same (W := W) (w' := { W with heap := W'.heap }) ⟨rfl, rfl, rfl, by
      rcases Nat.lt_or_ge W'.heap.size W.heap.size with h1 | h1
      · have := hb W'.heap.size h1
        rw [Array.getElem?_eq_none (Nat.le_refl _), Array.getElem?_eq_getElem h1] at this
        cases this
      · exact h1, hb⟩ hlt : W.sameAt { W with heap := W'.heap } x)

theorem kept_of {W W' : World} (hk : Stl W W') (hb : ∀ b, b < W.heap.size → W'.heap[b]? = W.heap[b]?) (may : MemPlace → Prop) : W.keptBut W' may := by
  refine ⟨hk.1, hk.2, fun i hi => ?_⟩
  rw [hb i hi]
  split <;> simp_all

/-- WHAT A FUNCTION TELLS of whatever arguments. -/
theorem lift_law {T : Tab} (hT : PuOk P T) {f : FuncId} {ts : List TypeId} {good : List CA → Prop} (hl : laidOutB P = true) (hr : ts.all (fun t => P.readableRec t && decide (t < P.types.size)) = true) (ho : OpAll P ts good)
    {r : CA} (hp : ∀ l, good l → T.pu f l = some r) {H : Type} {enc : TypeId × Value → H} {W : World} {base : Nat} {args : Array Value} {ds : List (DataW H)} {ps : List MemPlace} (ht : DataW.TrodAll enc P W 0 (fun _ => true) true ts args.toList ds ps)
    (hok : ∀ (j : Nat) t v, ts[j]? = some t → args[j]? = some v → Value.okWide P W .any base t v) (hq : ∀ (j : Nat) t d, ts[j]? = some t → ds[j]? = some d → ∀ q ∈ DataW.weights P t d, q ≤ 140737488351232) :
    Calls P f args W fun e W' => ∃ v I', e = .returned v ∧ RK I' W' r v ∧ Stl W W' ∧ (∀ b, b < W.heap.size → W'.heap[b]? = W.heap[b]?) ∧ DataW.TrodAll enc P W' 0 (fun b => decide (b < W.heap.size)) true ts args.toList ds ps := by
  obtain ⟨l, hL, hg⟩ := ho H enc W base args.toList ds ps ht (fun j t v h1 h2 => hok j t v h1 (by simpa using h2)) hq
  obtain ⟨_, hc⟩ := hT f l r (hp l hg)
  have := hc (All W) W args.toList (fun _ h => h) hL
  refine (show Calls P f args W _ from this).mono fun e W' he => ?_
  obtain ⟨v, I', rfl, _, _, _, _, hb, hk, hR⟩ := he
  exact ⟨v, I', rfl, hR, hk, hb, trodAll_stays hl hb hr ht⟩

theorem trodAll_len {H : Type} {enc : TypeId × Value → H} {W : World} {base : Nat} {spare : Nat → Bool} {held : Bool} : ∀ {ts : List TypeId} {vs : List Value} {ds : List (DataW H)} {ps : List MemPlace}, DataW.TrodAll enc P W base spare held ts vs ds ps → ds.length = ts.length
  | [], vs, ds, ps, h => by
    obtain ⟨_, rfl, _⟩ := trodAll_nil h
    rfl
  | t :: ts, vs, ds, ps, h => by
    obtain ⟨v, vs, d, ds, p, q, rfl, rfl, rfl, _, r0⟩ := trodAll_cons h
    rw [List.length_cons, List.length_cons, trodAll_len r0]
theorem weights_of {H : Type} {ts us : List TypeId} {ds gs : List (DataW H)} (hsz : (DataW.weightsEach P (ts ++ us) (ds ++ gs)).all (· ≤ reachBytes) = true) (j : Nat) (t : TypeId) (d : DataW H) (ht : ts[j]? = some t) (hd : ds[j]? = some d) :
    ∀ q ∈ DataW.weights P t d, q ≤ 140737488351232 := by
  intro q hq
  have h1 : (ts ++ us)[j]? = some t := by rw [List.getElem?_append_left (List.getElem?_eq_some_iff.1 ht).1]; exact ht
  have h2 : (ds ++ gs)[j]? = some d := by rw [List.getElem?_append_left (List.getElem?_eq_some_iff.1 hd).1]; exact hd
  have h3 := of_decide_eq_true (List.all_eq_true.1 hsz q (DataW.weights_mem_each h1 h2 q hq))
  simpa [reachBytes] using h3

/-- A list of good parts is the list of what they tell. -/
theorem map_of {α : Type} {f : α → List CV} {g : α → Prop} : ∀ {L : List (List CV)}, (∀ e ∈ L, ∃ a, e = f a ∧ g a) → ∃ xs : List α, L = xs.map f ∧ ∀ x ∈ xs, g x
  | [], _ => ⟨[], rfl, by simp⟩
  | e :: L, h => by
    obtain ⟨a, rfl, ha⟩ := h e List.mem_cons_self
    obtain ⟨xs, rfl, hx⟩ := map_of (L := L) fun e he => h e (List.mem_cons_of_mem _ he)
    exact ⟨a :: xs, rfl, fun x hx' => (List.mem_cons.1 hx').elim (fun h => h ▸ ha) (hx x)⟩

end Go.Proofs.Vm
end

section
/- How data of the laws' parameter types open as closed values. -/
namespace Go.Proofs.YteaeigpeaneicaaF
open Go Go.Proofs.Vm
def good33 : List CV → Prop := isL 1 8 (isI .i64)
theorem opens33 : Opens Try.prog 33 1 good33 := opens_slice Try.underlying33 (by kernel_rfl) (by decide) (by kernel_rfl) (opens_int Try.underlying3)
def good23 : List CV → Prop := isL 1 24 (good33)
theorem opens23 : Opens Try.prog 23 1 good23 := opens_slice Try.underlying23 (by kernel_rfl) (by decide) (by kernel_rfl) opens33
def good25 : List CV → Prop := isP (isI .u64) ((good23))
theorem opens25 : Opens Try.prog 25 2 good25 := opens_struct Try.underlying25 (by kernel_rfl) (at_cons (sz := 1) (sz' := 1) rfl (by kernel_rfl) (opens_int Try.underlying22) (at_one (sz := 1) rfl (by kernel_rfl) opens23))
def good52 : List CV → Prop := isP (isS) ((isI .i64))
theorem opens52 : Opens Try.prog 52 2 good52 := opens_struct Try.underlying52 (by kernel_rfl) (at_cons (sz := 1) (sz' := 1) rfl (by kernel_rfl) (opens_string Try.underlying9) (at_one (sz := 1) rfl (by kernel_rfl) (opens_int Try.underlying3)))
def good48 : List CV → Prop := isL 2 24 (good52)
theorem opens48 : Opens Try.prog 48 1 good48 := opens_slice Try.underlying48 (by kernel_rfl) (by decide) (by kernel_rfl) opens52
def goodsSignedNews : List CA → Prop := (fun l => ∃ a r, l = a :: r ∧ (fun a => ∃ x, a = .one x ∧ isI .u64 [x]) a ∧ (fun l => ∃ a r, l = a :: r ∧ (fun a => ∃ x, a = .one x ∧ isI .i64 [x]) a ∧ (fun l => ∃ a r, l = a :: r ∧ (fun a => ∃ x, a = .one x ∧ isI .i64 [x]) a ∧ (fun l => l = []) r) r) r)
theorem opensSignedNews : OpAll Try.prog [22, 3, 3] goodsSignedNews := (opAll_cons (opA_one (fun _ h => by rw [Try.underlying22] at h; cases h) (fun _ _ h => by rw [Try.underlying22] at h; cases h) (opens_int Try.underlying22)) (opAll_cons (opA_one (fun _ h => by rw [Try.underlying3] at h; cases h) (fun _ _ h => by rw [Try.underlying3] at h; cases h) (opens_int Try.underlying3)) (opAll_cons (opA_one (fun _ h => by rw [Try.underlying3] at h; cases h) (fun _ _ h => by rw [Try.underlying3] at h; cases h) (opens_int Try.underlying3)) opAll_nil)))
def goodsSignedTwice : List CA → Prop := (fun l => ∃ a r, l = a :: r ∧ (fun a => ∃ l, a = .agg l ∧ l.length = 2 ∧ good25 l) a ∧ (fun l => ∃ a r, l = a :: r ∧ (fun a => ∃ x, a = .one x ∧ isS [x]) a ∧ (fun l => ∃ a r, l = a :: r ∧ (fun a => ∃ x, a = .one x ∧ isI .i32 [x]) a ∧ (fun l => ∃ a r, l = a :: r ∧ (fun a => ∃ x, a = .one x ∧ isI .i32 [x]) a ∧ (fun l => l = []) r) r) r) r)
theorem opensSignedTwice : OpAll Try.prog [25, 9, 21, 21] goodsSignedTwice := (opAll_cons (opA_agg Try.underlying25 opens25) (opAll_cons (opA_one (fun _ h => by rw [Try.underlying9] at h; cases h) (fun _ _ h => by rw [Try.underlying9] at h; cases h) (opens_string Try.underlying9)) (opAll_cons (opA_one (fun _ h => by rw [Try.underlying21] at h; cases h) (fun _ _ h => by rw [Try.underlying21] at h; cases h) (opens_int Try.underlying21)) (opAll_cons (opA_one (fun _ h => by rw [Try.underlying21] at h; cases h) (fun _ _ h => by rw [Try.underlying21] at h; cases h) (opens_int Try.underlying21)) opAll_nil))))
def goodsSignedTurns : List CA → Prop := (fun l => ∃ a r, l = a :: r ∧ (fun a => ∃ l, a = .agg l ∧ l.length = 2 ∧ good25 l) a ∧ (fun l => ∃ a r, l = a :: r ∧ (fun a => ∃ x, a = .one x ∧ isS [x]) a ∧ (fun l => ∃ a r, l = a :: r ∧ (fun a => ∃ x, a = .one x ∧ isI .i64 [x]) a ∧ (fun l => l = []) r) r) r)
theorem opensSignedTurns : OpAll Try.prog [25, 9, 3] goodsSignedTurns := (opAll_cons (opA_agg Try.underlying25 opens25) (opAll_cons (opA_one (fun _ h => by rw [Try.underlying9] at h; cases h) (fun _ _ h => by rw [Try.underlying9] at h; cases h) (opens_string Try.underlying9)) (opAll_cons (opA_one (fun _ h => by rw [Try.underlying3] at h; cases h) (fun _ _ h => by rw [Try.underlying3] at h; cases h) (opens_int Try.underlying3)) opAll_nil)))
def goodsSignedAlone : List CA → Prop := (fun l => ∃ a r, l = a :: r ∧ (fun a => ∃ x, a = .one x ∧ isI .u64 [x]) a ∧ (fun l => ∃ a r, l = a :: r ∧ (fun a => ∃ x, a = .one x ∧ isI .i64 [x]) a ∧ (fun l => ∃ a r, l = a :: r ∧ (fun a => ∃ x, a = .one x ∧ isI .i64 [x]) a ∧ (fun l => ∃ a r, l = a :: r ∧ (fun a => ∃ x, a = .one x ∧ good48 [x]) a ∧ (fun l => ∃ a r, l = a :: r ∧ (fun a => ∃ x, a = .one x ∧ isS [x]) a ∧ (fun l => l = []) r) r) r) r) r)
theorem opensSignedAlone : OpAll Try.prog [22, 3, 3, 48, 9] goodsSignedAlone := (opAll_cons (opA_one (fun _ h => by rw [Try.underlying22] at h; cases h) (fun _ _ h => by rw [Try.underlying22] at h; cases h) (opens_int Try.underlying22)) (opAll_cons (opA_one (fun _ h => by rw [Try.underlying3] at h; cases h) (fun _ _ h => by rw [Try.underlying3] at h; cases h) (opens_int Try.underlying3)) (opAll_cons (opA_one (fun _ h => by rw [Try.underlying3] at h; cases h) (fun _ _ h => by rw [Try.underlying3] at h; cases h) (opens_int Try.underlying3)) (opAll_cons (opA_one (fun _ h => by rw [Try.underlying48] at h; cases h) (fun _ _ h => by rw [Try.underlying48] at h; cases h) opens48) (opAll_cons (opA_one (fun _ h => by rw [Try.underlying9] at h; cases h) (fun _ _ h => by rw [Try.underlying9] at h; cases h) (opens_string Try.underlying9)) opAll_nil)))))
def goodsSignedMerges : List CA → Prop := (fun l => ∃ a r, l = a :: r ∧ (fun a => ∃ l, a = .agg l ∧ l.length = 2 ∧ good25 l) a ∧ (fun l => ∃ a r, l = a :: r ∧ (fun a => ∃ l, a = .agg l ∧ l.length = 2 ∧ good25 l) a ∧ (fun l => l = []) r) r)
theorem opensSignedMerges : OpAll Try.prog [25, 25] goodsSignedMerges := (opAll_cons (opA_agg Try.underlying25 opens25) (opAll_cons (opA_agg Try.underlying25 opens25) opAll_nil))
def goodsSignedOrder : List CA → Prop := (fun l => ∃ a r, l = a :: r ∧ (fun a => ∃ x, a = .one x ∧ isI .u64 [x]) a ∧ (fun l => ∃ a r, l = a :: r ∧ (fun a => ∃ x, a = .one x ∧ isI .i64 [x]) a ∧ (fun l => ∃ a r, l = a :: r ∧ (fun a => ∃ x, a = .one x ∧ isI .i64 [x]) a ∧ (fun l => ∃ a r, l = a :: r ∧ (fun a => ∃ x, a = .one x ∧ good48 [x]) a ∧ (fun l => ∃ a r, l = a :: r ∧ (fun a => ∃ x, a = .one x ∧ good48 [x]) a ∧ (fun l => l = []) r) r) r) r) r)
theorem opensSignedOrder : OpAll Try.prog [22, 3, 3, 48, 48] goodsSignedOrder := (opAll_cons (opA_one (fun _ h => by rw [Try.underlying22] at h; cases h) (fun _ _ h => by rw [Try.underlying22] at h; cases h) (opens_int Try.underlying22)) (opAll_cons (opA_one (fun _ h => by rw [Try.underlying3] at h; cases h) (fun _ _ h => by rw [Try.underlying3] at h; cases h) (opens_int Try.underlying3)) (opAll_cons (opA_one (fun _ h => by rw [Try.underlying3] at h; cases h) (fun _ _ h => by rw [Try.underlying3] at h; cases h) (opens_int Try.underlying3)) (opAll_cons (opA_one (fun _ h => by rw [Try.underlying48] at h; cases h) (fun _ _ h => by rw [Try.underlying48] at h; cases h) opens48) (opAll_cons (opA_one (fun _ h => by rw [Try.underlying48] at h; cases h) (fun _ _ h => by rw [Try.underlying48] at h; cases h) opens48) opAll_nil)))))
end Go.Proofs.YteaeigpeaneicaaF
end

section
/-
  DERIVED: THE SHELF's CONTRACTS AT THIS DUMP, IN PLAIN WORDS (tools/lay-plain.mjs out of 'YteaeigpeaneicaaShelfSrc.lean', which tools/lay-shelf.mjs wrote): THE SAME DECLARATIONS UNDER THE SAME NAMES: 'import', 'namespace', 'open', 'def', 'theorem' AND NOTHING ELSE: no command of the shelf's: FOR A HAND-IN. Each laying: the table of numbers ('.._ren') and one theorem, a field a fact of the dump's own or the kernel's comparison; each contract: ONE APPLICATION.
-/
namespace Go.Proofs
open Go.Shelf
def Try.lays215_ren : Go.Shelf.Ren := ⟨fun | 215 => 76 | n => n, fun | 3 => 3 | 4 => 4 | n => n, fun | n => n⟩
theorem Try.lays215 : Go.Proofs.Lays.n215 Try.prog Try.lays215_ren := {
  mixed := by kernel_rfl
  f215 := Try.func76.trans (congrArg some (by kernel_rfl))
  t3 := Try.underlying3
  a3 := Try.isAgg3
  z3 := Try.sizeOf3
  v3 := Try.zeroValue3
  t4 := Try.underlying4
  a4 := Try.isAgg4
  z4 := Try.sizeOf4
  v4 := Try.zeroValue4 }
open Go.RowKit in
/-- cmp.isNaN at int: 'x != x': false. (LAID: no walk: one application.) -/
theorem Try.cmp_isNaN_int (x : Int) (w : World) :
    Calls Try.prog 76 #[.int .i64 x] w fun e w' => e = .returned (.bool false) ∧ w' = w := Any.cmp_isNaN_int Try.lays215 x w
def Try.lays189_ren : Go.Shelf.Ren := ⟨fun | 189 => 31 | 125 => 44 | 257 => 43 | 128 => 64 | 129 => 65 | 294 => 55 | 295 => 56 | 296 => 57 | 297 => 58 | 298 => 59 | 299 => 60 | 216 => 61 | 300 => 62 | 301 => 63 | 328 => 71 | 329 => 72 | 330 => 73 | 331 => 74 | 332 => 75 | 215 => 76 | 343 => 77 | n => n, fun | 28 => 33 | 3 => 3 | 46 => 72 | 0 => 0 | 51 => 87 | 53 => 22 | 4 => 4 | 183 => 79 | 182 => 78 | 131 => 84 | 5 => 5 | 9 => 9 | 218 => 94 | 222 => 98 | 228 => 101 | 229 => 60 | n => n, fun | n => n⟩
theorem Try.lays189 : Go.Proofs.Lays.n189 Try.prog Try.lays189_ren := {
  mixed := by kernel_rfl
  f125 := Try.func44.trans (congrArg some (by kernel_rfl))
  f128 := Try.func64.trans (congrArg some (by kernel_rfl))
  f129 := Try.func65.trans (congrArg some (by kernel_rfl))
  f189 := Try.func31.trans (congrArg some (by kernel_rfl))
  f215 := Try.func76.trans (congrArg some (by kernel_rfl))
  f216 := Try.func61.trans (congrArg some (by kernel_rfl))
  f257 := Try.func43.trans (congrArg some (by kernel_rfl))
  f294 := Try.func55.trans (congrArg some (by kernel_rfl))
  f295 := Try.func56.trans (congrArg some (by kernel_rfl))
  f296 := Try.func57.trans (congrArg some (by kernel_rfl))
  f297 := Try.func58.trans (congrArg some (by kernel_rfl))
  f298 := Try.func59.trans (congrArg some (by kernel_rfl))
  f299 := Try.func60.trans (congrArg some (by kernel_rfl))
  f300 := Try.func62.trans (congrArg some (by kernel_rfl))
  f301 := Try.func63.trans (congrArg some (by kernel_rfl))
  f328 := Try.func71.trans (congrArg some (by kernel_rfl))
  f329 := Try.func72.trans (congrArg some (by kernel_rfl))
  f330 := Try.func73.trans (congrArg some (by kernel_rfl))
  f331 := Try.func74.trans (congrArg some (by kernel_rfl))
  f332 := Try.func75.trans (congrArg some (by kernel_rfl))
  f343 := Try.func77.trans (congrArg some (by kernel_rfl))
  t0 := Try.underlying0
  a0 := Try.isAgg0
  z0 := Try.sizeOf0
  v0 := Try.zeroValue0
  t3 := Try.underlying3
  a3 := Try.isAgg3
  z3 := Try.sizeOf3
  v3 := Try.zeroValue3
  t4 := Try.underlying4
  a4 := Try.isAgg4
  z4 := Try.sizeOf4
  v4 := Try.zeroValue4
  t5 := Try.underlying5
  a5 := Try.isAgg5
  z5 := Try.sizeOf5
  v5 := Try.zeroValue5
  t9 := Try.underlying9
  a9 := Try.isAgg9
  z9 := Try.sizeOf9
  v9 := Try.zeroValue9
  t28 := Try.underlying33
  a28 := Try.isAgg33
  z28 := Try.sizeOf33
  v28 := Try.zeroValue33
  t46 := Try.underlying72
  a46 := Try.isAgg72
  z46 := Try.sizeOf72
  v46 := Try.zeroValue72
  t51 := Try.underlying87
  a51 := Try.isAgg87
  z51 := Try.sizeOf87
  v51 := Try.zeroValue87
  t53 := Try.underlying22
  a53 := Try.isAgg22
  z53 := Try.sizeOf22
  v53 := Try.zeroValue22
  t131 := Try.underlying84
  a131 := Try.isAgg84
  z131 := Try.sizeOf84
  v131 := Try.zeroValue84
  t182 := Try.underlying78
  a182 := Try.isAgg78
  z182 := Try.sizeOf78
  v182 := Try.zeroValue78
  t183 := Try.underlying79
  a183 := Try.isAgg79
  z183 := Try.sizeOf79
  v183 := Try.zeroValue79
  t218 := Try.underlying94
  a218 := Try.isAgg94
  z218 := Try.sizeOf94
  v218 := Try.zeroValue94
  t222 := Try.underlying98
  a222 := Try.isAgg98
  z222 := Try.sizeOf98
  v222 := Try.zeroValue98
  t228 := Try.underlying101
  a228 := Try.isAgg101
  z228 := Try.sizeOf101
  v228 := Try.zeroValue101
  t229 := Try.underlying60
  a229 := Try.isAgg60
  z229 := Try.sizeOf60
  v229 := Try.zeroValue60 }
open Go.Sort Go.RowKit in
theorem Try.slices_Sort_int (blk off cap : Nat) (zs : List Int) (w : World) (hH : Holds (Value.int .i64) w blk off zs.toArray) (hblk : blk < w.heap.size) (hsz : zs.length < 4611686018427387904) :
    Calls Try.prog 31 #[.slice (some ⟨blk, off, none⟩) zs.length cap] w fun e w' =>
      e = .returned (.tuple #[]) ∧ ∃ n os, w' = grow (putRow (Value.int .i64) (Sort.ahead w n) blk off (zs.mergeSort fun x y => decide (x ≤ y)).toArray) os := Any.slices_Sort_int Try.lays189 blk off cap zs w hH hblk hsz
open Go.RowKit Go.Sort in
/-- .. and plain. (LAID: no walk: one application.) -/
theorem Try.slices_Sort_int_none (p : Option Addr) (cap : Nat) (w : World) :
    Calls Try.prog 31 #[.slice p 0 cap] w fun e w' => e = .returned (.tuple #[]) ∧ w' = w := Any.slices_Sort_int_none Try.lays189 p cap w
end Go.Proofs
end

section
/- Sorting in place, from the shelf's contract. -/
namespace Go.Proofs.Vm
open Go

variable {P : Program}

def SortsInt (P : Program) (g : FuncId) : Prop := ∀ (blk off cap : Nat) (zs : List Int) (w : World), Sort.Holds (Value.int .i64) w blk off zs.toArray → blk < w.heap.size → zs.length < 4611686018427387904 →
  Calls P g #[.slice (some ⟨blk, off, none⟩) zs.length cap] w fun e w' => e = .returned (.tuple #[]) ∧ ∃ n os, w' = Sort.grow (Sort.putRow (Value.int .i64) (Sort.ahead w n) blk off (zs.mergeSort fun x y => decide (x ≤ y)).toArray) os
def SortsNone (P : Program) (g : FuncId) : Prop := ∀ (p : Option Addr) (cap : Nat) (w : World), Calls P g #[.slice p 0 cap] w fun e w' => e = .returned (.tuple #[]) ∧ w' = w

theorem mapO_int_inv : ∀ {l : List (List CV)} {xs : List Int}, mapO intOf l = some xs → l = xs.map cInt
  | [], xs, h => by cases h; rfl
  | e :: l, xs, h => by
    simp only [mapO] at h
    split at h
    · rename_i y m h1 h2
      cases h
      rw [List.map_cons, mapO_int_inv h2]
      congr 1
      unfold intOf at h1
      split at h1
      · cases h1; rfl
      · cases h1
    · cases h

theorem sortTab_ok {g : FuncId} (hf : FnOk P g) (h1 : SortsInt P g) (h2 : SortsNone P g) : TOk P (sortTab g) := by
  refine ⟨fun f args r h => (by cases h), fun f args H r H' h => ?_⟩
  simp only [sortTab] at h
  split at h
  case isFalse => cases h
  rename_i hfg
  subst hfg
  unfold sortRun at h
  split at h
  case h_2 => cases h
  rename_i id n tot
  split at h
  case h_2 => cases h
  rename_i l hl
  split at h
  case h_2 => cases h
  rename_i xs hxs
  split at h
  case isFalse => cases h
  rename_i hc
  obtain ⟨rfl, hlt, hsz⟩ := hc
  cases h
  have hlx := mapO_int_inv hxs
  have hxl : xs.length = n := by rw [← hlt, hlx, List.length_map]
  refine ⟨by simp, hf, ?_⟩
  intro X S M hX hD vals hv
  subst hX
  have hv1 : vals.length = 1 := by rw [← hv.1]; rfl
  match vals, hv1 with
  | [v], _ =>
  have hr : RCell X (.sl id 0 n n) v := hv.2 0 _ v rfl rfl
  obtain ⟨_, hd, e0, he0, _, _, hp⟩ := hr
  rw [hl] at he0
  cases he0
  obtain ⟨ad, cap, rfl, hcap, hne, _⟩ := hp hlt
  have hent := S.ent _ _ hd hl
  have hlen' : (xs.mergeSort fun x y => decide (x ≤ y)).length = xs.length := List.length_mergeSort _
  have hylen : ((xs.mergeSort fun x y => decide (x ≤ y)).map cInt).length = l.length := by rw [List.length_map, hlen', hlx, List.length_map]
  by_cases h0 : n = 0
  · subst h0
    have hxe : xs = [] := List.length_eq_zero_iff.1 hxl
    subst hxe
    refine (h2 ad cap X.w).mono fun e w' hh => ?_
    obtain ⟨rfl, rfl⟩ := hh
    refine ⟨_, X, rfl, rfl, .refl S M, ?_, fun id => by rw [hD]; simp, ⟨[], rfl, rfl, fun j p y hp => by simp at hp⟩⟩
    rw [List.mergeSort_nil]
    simp only [List.map_nil] at hlx ⊢
    rw [hlx] at hl
    exact (set_same hl).symm
  · obtain ⟨b, hb, rfl⟩ := hne h0
    rcases hent.2 with ⟨h3, _⟩ | ⟨b', c, ty, fr, g1, g2, g3, g4, g5, g6, g7, g8, g9, g10⟩
    · exact absurd (hlt.symm.trans h3) h0
    rw [hb] at g1
    cases g1
    have hsz1 : (X.σ id).sz = 1 := by
      cases l with
      | nil => exact absurd hlt.symm h0
      | cons e l =>
        have := hent.1 e List.mem_cons_self
        cases xs with
        | nil => simp at hlx
        | cons x xs =>
          rw [List.map_cons] at hlx
          cases hlx
          exact this.symm
    rw [hsz1] at g5 g10
    have hblk := S.blk M id b hd hb
    have hcell : ∀ j, ∀ hj : j < xs.length, c[j]? = some (.int .i64 xs[j]) := by
      intro j hj
      obtain ⟨v, h3, e, x, h4, h5, h6⟩ := g10 j 0 (by omega) (by omega)
      rw [hlx, List.getElem?_map, List.getElem?_eq_getElem hj] at h4
      cases h4
      cases h5
      cases h6
      rw [← h3, Nat.mul_one, Nat.add_zero]
    have hH : Sort.Holds (Value.int .i64) X.w b 0 xs.toArray := by
      intro j hj
      have hj : j < xs.length := by simpa using hj
      refine ⟨?_, g4 _ ?_⟩
      · unfold World.cell?
        simp only [g3]
        rw [if_neg (by simp), Nat.zero_add, hcell j hj]
        simp [hj]
      · have := (Array.getElem?_eq_some_iff.1 (hcell j hj)).1
        omega
    rw [Nat.zero_mul, ← hxl]
    refine (h1 b 0 cap xs X.w hH hblk.1 (by omega)).mono fun e w' hh => ?_
    obtain ⟨rfl, m, os, rfl⟩ := hh
    generalize hys : (xs.mergeSort fun x y => decide (x ≤ y)) = ys at hlen' hylen
    let w' := Sort.grow (Sort.putRow (Value.int .i64) (Sort.ahead X.w m) b 0 ys.toArray) os
    have hms : (X.w.heap.modify b (Sort.onCells (Sort.putCells (Value.int .i64) 0 ys.toArray))).size = X.w.heap.size := by simp
    have hheap : ∀ k, k < X.w.heap.size → w'.heap[k]? = (X.w.heap.modify b (Sort.onCells (Sort.putCells (Value.int .i64) 0 ys.toArray)))[k]? := by
      intro k hk
      show (X.w.heap.modify b _ ++ os)[k]? = _
      rw [Array.getElem?_append_left (by simpa using hk)]
    have hself : w'.heap[b]? = some (.cells (Sort.putCells (Value.int .i64) 0 ys.toArray c) ty fr) := by
      rw [hheap b hblk.1, Array.getElem?_modify, if_pos rfl, g3]
      rfl
    have hoth : ∀ k, k < X.w.heap.size → k ≠ b → w'.heap[k]? = X.w.heap[k]? := by
      intro k hk hkb
      rw [hheap k hk, Array.getElem?_modify, if_neg (fun e => hkb e.symm)]
    let Y : Cx := { X with H := X.H.set id (.clo (ys.map cInt) false), w := w' }
    have W : Wrote X Y id := ⟨rfl, rfl, fun _ => Iff.rfl, fun _ _ _ => rfl, rfl, fun i hi => set_get hi, by
      show X.w.heap.size ≤ (X.w.heap.modify b _ ++ os).size
      rw [Array.size_append, hms]
      exact Nat.le_add_right _ _, fun k hk hkb => hoth k hk (hkb b hb), ⟨_, _, hl, set_self hl, by simp only [Ent.len]; omega, fun _ => rfl, fun l h => by cases h⟩, hd, ⟨rfl, rfl⟩, fun k hk => by rw [hb] at hk; cases hk; exact g9 rfl⟩
    have SY : SR Y := W.sr S M (fun e h => by
      have : Y.H[id]? = some (.clo (ys.map cInt) false) := set_self hl
      rw [this] at h
      cases h
      refine ⟨fun e he => ?_, .inr ⟨b, _, ty, fr, hb, g2, hself, fun o ho => ?_, ?_, by rw [hylen]; exact g6, g7, (fun h => by cases h), g9, fun i j hi hj => ?_⟩⟩
      · obtain ⟨y, _, rfl⟩ := List.mem_map.1 he
        show 1 = (X.σ id).sz
        rw [hsz1]
      · have := g4 o (by simpa [Sort.putCells] using ho)
        unfold World.frozen? at this ⊢
        rw [g3] at this
        rw [hself]
        exact this
      · show (Sort.putCells (Value.int .i64) 0 ys.toArray c).size = (X.σ id).cap * (X.σ id).sz
        rw [hsz1, ← g5]
        simp [Sort.putCells]
      · have hj : j < (X.σ id).sz := hj
        rw [hsz1] at hj
        have hi' : i < ys.length := by simpa using hi
        have hic : i < c.size := by rw [g5]; have := g6.2; rw [hylen] at hi; omega
        refine ⟨.int .i64 ys[i], ?_, cInt ys[i], .v (.int .i64 ys[i]), by rw [List.getElem?_map, List.getElem?_eq_getElem hi']; rfl, by rw [show j = 0 by omega]; rfl, .v _ rfl⟩
        show (Sort.putCells (Value.int .i64) 0 ys.toArray c)[i * (X.σ id).sz + j]? = _
        rw [hsz1, show i * 1 + j = i by omega, Sort.putCells, Array.getElem?_mapIdx, Array.getElem?_eq_getElem hic, Option.map_some, if_pos ⟨Nat.zero_le _, by simpa using hi'⟩]
        simp [hi']) (fun b' h => .inl h)
    exact ⟨_, Y, rfl, rfl, W.nxt S M SY, rfl, fun id => by rw [show Y.D = X.D from rfl, hD]; simp, ⟨[], rfl, rfl, fun j p y hp => by simp at hp⟩⟩

end Go.Proofs.Vm
end

section
/- The whole table tells the truth of the program. -/
namespace Go.Proofs.YteaeigpeaneicaaF
open Go Go.Proofs.Vm
theorem tvOk : TOk Try.prog TV := TT_ok mixed (sortTab_ok ok31 (fun blk off cap zs w h1 h2 h3 => Try.slices_Sort_int blk off cap zs w h1 h2 h3) (fun p cap w => Try.slices_Sort_int_none p cap w))
end Go.Proofs.YteaeigpeaneicaaF
end

section
namespace Go.Proofs.YteaeigpeaneicaaF
open Go Go.Proofs.Vm

theorem u64w (x : Int) : IntKind.u64.wrap x = x % 18446744073709551616 := by simp [IntKind.wrap, IntKind.bits, IntKind.signed]
theorem u64_id {x : Int} (h0 : 0 ≤ x) (h1 : x < 18446744073709551616) : IntKind.u64.wrap x = x := by rw [u64w]; omega
theorem and_low (x : Int) (n : Nat) (hn : n ≤ 63) (h0 : 0 ≤ x) (h1 : x < 18446744073709551616) : Go.bits .and .u64 x ((2 ^ n - 1 : Nat) : Int) = x % ((2 ^ n : Nat) : Int) := by
  have hp : 2 ^ n ≤ 2 ^ 63 := Nat.pow_le_pow_right (by omega) hn
  have hq : 2 ^ 63 = 9223372036854775808 := by decide
  rw [u64_and x _ h0 h1 (by omega) (by omega)]
  rw [show ((2 ^ n - 1 : Nat) : Int).toNat = 2 ^ n - 1 by omega, Nat.and_two_pow_sub_one_eq_mod]
  obtain ⟨m, rfl⟩ := Int.eq_ofNat_of_zero_le h0
  simp
theorem and_P (x : Int) (h0 : 0 ≤ x) (h1 : x < 18446744073709551616) : Go.bits .and .u64 x 2305843009213693951 = x % 2305843009213693952 := and_low x 61 (by omega) h0 h1
theorem and_32 (x : Int) (h0 : 0 ≤ x) (h1 : x < 18446744073709551616) : Go.bits .and .u64 x 4294967295 = x % 4294967296 := and_low x 32 (by omega) h0 h1
theorem and_1 (x : Int) (h0 : 0 ≤ x) (h1 : x < 18446744073709551616) : Go.bits .and .u64 x 1 = x % 2 := and_low x 1 (by omega) h0 h1

theorem or_join' (x y : Int) (n : Nat) (hx0 : 0 ≤ x) (hx1 : x < 18446744073709551616) (hx : x % ((2 ^ n : Nat) : Int) = 0) (hy0 : 0 ≤ y) (hy1 : y < ((2 ^ n : Nat) : Int)) (hy2 : y < 18446744073709551616) : Go.bits .or .u64 y x = y + x := by
  rw [u64_or y x hy0 hy2 hx0 hx1]
  obtain ⟨a, rfl⟩ := Int.eq_ofNat_of_zero_le hx0
  obtain ⟨b, rfl⟩ := Int.eq_ofNat_of_zero_le hy0
  have h := nat_join n a b (by omega) (by omega)
  simp only [Int.toNat_natCast]
  rw [Nat.or_comm, h]
  simp; omega
theorem mul_bound {x y : Int} (n : Int) (h0 : 0 ≤ x) (h1 : x ≤ n) (h2 : 0 ≤ y) (h3 : y ≤ n) : 0 ≤ x * y ∧ x * y ≤ n * n :=
  ⟨Int.mul_nonneg h0 h2, Int.mul_le_mul h1 h3 h2 (by omega)⟩

theorem field_Of {a : Int} (h0 : 0 ≤ a) (h1 : a < 18446744073709551616) : TV.pu 69 [cI .u64 a] = some (cI .u64 (a % 2305843009213693951)) := by
  refine run69 (by simp) ?_
  simp [Try.f69, bin_shr, and_P a h0 h1, IntKind.bits]
  rw [u64_id (x := a % 2305843009213693952 + a / 2305843009213693952) (by omega) (by omega)]
  split
  · rw [u64_id (by omega) (by omega)]; omega
  · omega

theorem field_Add {a b : Int} (h0 : 0 ≤ a) (h1 : a < 18446744073709551616) (h2 : 0 ≤ b) (h3 : b < 18446744073709551616) : TV.pu 53 [cI .u64 a, cI .u64 b] = some (cI .u64 ((a + b) % 2305843009213693951)) := by
  refine run53 (by simp) ?_
  have e : IntKind.u64.wrap (a % 2305843009213693951 + b % 2305843009213693951) = a % 2305843009213693951 + b % 2305843009213693951 := u64_id (by omega) (by omega)
  simp [Try.f53, field_Of h0 h1, field_Of h2 h3, e, field_Of (a := a % 2305843009213693951 + b % 2305843009213693951) (by omega) (by omega)]

theorem Mul64 {x y : Int} (h0 : 0 ≤ x) (h1 : x < 18446744073709551616) (h2 : 0 ≤ y) (h3 : y < 18446744073709551616) : TV.pu 70 [cI .u64 x, cI .u64 y] = some (.tup [(false, [.v (.int .u64 (x * y / 18446744073709551616))]), (false, [.v (.int .u64 (x * y % 18446744073709551616))])]) := by
  refine run70 (by simp) ?_
  simp [Try.f70, bin_shr, IntKind.bits, and_32 x h0 h1, and_32 y h2 h3]
  obtain ⟨x1, hx1⟩ : ∃ z, z = x / 4294967296 := ⟨_, rfl⟩
  obtain ⟨x0, hx0⟩ : ∃ z, z = x % 4294967296 := ⟨_, rfl⟩
  obtain ⟨y1, hy1⟩ : ∃ z, z = y / 4294967296 := ⟨_, rfl⟩
  obtain ⟨y0, hy0⟩ : ∃ z, z = y % 4294967296 := ⟨_, rfl⟩
  rw [← hx1, ← hx0, ← hy1, ← hy0]
  have ex : x = x1 * 4294967296 + x0 := by omega
  have ey : y = y1 * 4294967296 + y0 := by omega
  have b11 := mul_bound (x := x1) (y := y1) 4294967295 (by omega) (by omega) (by omega) (by omega)
  have b10 := mul_bound (x := x1) (y := y0) 4294967295 (by omega) (by omega) (by omega) (by omega)
  have b01 := mul_bound (x := x0) (y := y1) 4294967295 (by omega) (by omega) (by omega) (by omega)
  have b00 := mul_bound (x := x0) (y := y0) 4294967295 (by omega) (by omega) (by omega) (by omega)
  have exy : x * y = x1 * y1 * 18446744073709551616 + (x1 * y0 + x0 * y1) * 4294967296 + x0 * y0 := by rw [ex, ey]; grind
  rw [exy]
  generalize x1 * y1 = p11 at *
  generalize x1 * y0 = p10 at *
  generalize x0 * y1 = p01 at *
  generalize x0 * y0 = p00 at *
  clear hx1 hx0 hy1 hy0 ex ey exy h0 h1 h2 h3
  rw [u64_id (x := p11) (by omega) (by omega), u64_id (x := p10) (by omega) (by omega), u64_id (x := p01) (by omega) (by omega), u64_id (x := p00) (by omega) (by omega)]
  rw [u64_id (x := p10 + p00 / 4294967296) (by omega) (by omega)]
  rw [and_32 _ (by omega) (by omega)]
  rw [u64_id (x := (p10 + p00 / 4294967296) % 4294967296 + p01) (by omega) (by omega)]
  rw [u64_id (x := p11 + (p10 + p00 / 4294967296) / 4294967296) (by omega) (by omega)]
  rw [u64_id (x := p11 + (p10 + p00 / 4294967296) / 4294967296 + ((p10 + p00 / 4294967296) % 4294967296 + p01) / 4294967296) (by omega) (by omega)]
  rw [u64w]
  omega

theorem field_Mul {a b : Int} (h0 : 0 ≤ a) (h1 : a < 18446744073709551616) (h2 : 0 ≤ b) (h3 : b < 18446744073709551616) : TV.pu 54 [cI .u64 a, cI .u64 b] = some (cI .u64 (a * b % 2305843009213693951)) := by
  refine run54 (by simp) ?_
  have hb := mul_bound (x := a % 2305843009213693951) (y := b % 2305843009213693951) 2305843009213693950 (by omega) (by omega) (by omega) (by omega)
  have hm := Mul64 (x := a % 2305843009213693951) (y := b % 2305843009213693951) (by omega) (by omega) (by omega) (by omega)
  rw [Int.mul_emod a b]
  generalize a % 2305843009213693951 * (b % 2305843009213693951) = N at hb hm ⊢
  simp [Try.f54, field_Of h0 h1, field_Of h2 h3, hm, bin_shr, bin_shl, IntKind.bits]
  rw [and_P _ (by omega) (by omega)]
  rw [u64_id (x := N / 18446744073709551616 * 8) (by omega) (by omega)]
  rw [or_join' (N / 18446744073709551616 * 8) (N % 18446744073709551616 / 2305843009213693952) 3 (by omega) (by omega) (by omega) (by omega) (by omega) (by omega)]
  rw [u64_id (by omega) (by omega), field_Of (by omega) (by omega)]
  simp
  omega
end Go.Proofs.YteaeigpeaneicaaF
end

section
namespace Go.Proofs.YteaeigpeaneicaaF
open Go Go.Proofs.Vm
theorem int_sq (x : Int) : x ^ 2 = x * x := by rw [Int.pow_succ, Int.pow_succ, Int.pow_zero, Int.one_mul]
theorem emod_pow (a n : Int) (k : Nat) : (a % n) ^ k % n = a ^ k % n := by
  induction k with
  | zero => simp
  | succ k ih => rw [Int.pow_succ, Int.pow_succ, Int.mul_emod, ih, Int.emod_emod_of_dvd _ (Int.dvd_refl n), ← Int.mul_emod]

theorem field_Pow {x : Int} {n : Nat} (h0 : 0 ≤ x) (h1 : x < 18446744073709551616) (hn : (n : Int) < 18446744073709551616) : TV.pu 68 [cI .u64 x, cI .u64 n] = some (cI .u64 (x ^ n % 2305843009213693951)) := by
  refine run68 (by simp) ?_
  simp [Try.f68, field_Of h0 h1]
  obtain ⟨I, hI⟩ : ∃ I : Nat → St → Prop, ∀ k s, I k s ↔ (∃ e y o, s = ⟨e, []⟩ ∧ e 0 = vI .u64 y ∧ e 1 = vI .u64 (k : Nat) ∧ e 5 = vI .u64 o ∧ 0 ≤ y ∧ y < 2305843009213693951 ∧ 0 ≤ o ∧ o < 2305843009213693951 ∧ (k : Int) < 18446744073709551616 ∧ o * y ^ k % 2305843009213693951 = x ^ n % 2305843009213693951) := ⟨_, fun _ _ => Iff.rfl⟩
  refine wpL_ind I ?_ n _ ((hI _ _).2 ⟨_, x % 2305843009213693951, 1, rfl, by simp, by simp, by simp, by omega, by omega, by omega, by omega, hn, by rw [Int.one_mul, emod_pow]⟩)
  intro k s hs
  obtain ⟨e, y, o, rfl, e0, e1, e5, y0, y1, o0, o1, k1, hk⟩ := (hI _ _).1 hs
  have hm := field_Mul (a := y) (b := y) y0 (by omega) y0 (by omega)
  have ho := field_Mul (a := o) (b := y) o0 (by omega) y0 (by omega)
  have key : ∀ o : Int, (o * (y * y % 2305843009213693951) ^ (k / 2)) % 2305843009213693951 = (o * y ^ (2 * (k / 2))) % 2305843009213693951 := by
    intro o
    rw [Int.mul_emod, emod_pow, ← Int.mul_emod, ← int_sq, ← Int.pow_mul]
  simp [e0, e1, e5, hm, ho, bin_shr, IntKind.bits, and_1 (k : Int) (by omega) (by omega)]
  by_cases hz : k = 0
  · subst hz
    rw [if_neg (by omega)]
    simp at hk
    rw [← hk]
    omega
  · rw [if_pos (by omega)]
    split
    · refine ⟨k / 2, by omega, (hI _ _).2 ⟨_, y * y % 2305843009213693951, o * y % 2305843009213693951, rfl, by simp, by simp, by simp, by omega, by omega, by omega, by omega, by omega, ?_⟩⟩
      rw [key, ← hk]
      have e2 : y ^ k = y * y ^ (2 * (k / 2)) := by
        rw [Int.mul_comm, ← Int.pow_succ]; congr 1; omega
      rw [e2, ← Int.mul_assoc, Int.mul_emod, Int.emod_emod_of_dvd _ (Int.dvd_refl _), ← Int.mul_emod]
    · refine ⟨k / 2, by omega, (hI _ _).2 ⟨_, y * y % 2305843009213693951, o, rfl, by simp, by simp, by simp [e5], by omega, by omega, by omega, by omega, by omega, ?_⟩⟩
      rw [key, ← hk, show 2 * (k / 2) = k by omega]
end Go.Proofs.YteaeigpeaneicaaF
end

section
namespace Go.Proofs.YteaeigpeaneicaaF
open Go Go.Proofs.Vm
theorem byt_range (s : ByteArray) (i : Int) : 0 ≤ byt s i ∧ byt s i < 256 := by
  unfold byt
  split
  · rename_i b _
    have := b.toNat_lt
    omega
  · omega
theorem byt_out (s : ByteArray) (i : Int) (h0 : 0 ≤ i) (h : (s.size : Int) ≤ i) : byt s i = 0 := by
  unfold byt
  have : s[i.toNat]? = none := by simp; omega
  rw [this]
def fP : Int := 2305843009213693951
/-- Four bytes as a number; noughts behind the end. -/
def hword (s : ByteArray) (i : Int) : Int := ((byt s i * 256 + byt s (i + 1)) * 256 + byt s (i + 2)) * 256 + byt s (i + 3)
/-- What is reckoned of the first n words. -/
def hpoly (a : Int) (s : ByteArray) : Nat → Int
  | 0 => (s.size : Int) % 2305843009213693951
  | n + 1 => (hpoly a s n * a + (hword s (4 * (n : Int)) + 1)) % 2305843009213693951
def nwords (s : ByteArray) : Nat := (s.size + 3) / 4
def hsum (seed : Int) (s : ByteArray) : Int := (hpoly ((seed + 2) % 2305843009213693951) s (nwords s) * ((seed + 2) % 2305843009213693951) % 2305843009213693951) ^ 17 % 2305843009213693951
def hrow (seed i : Int) : Int := (((seed + 3) * ((if i < 0 then 0 else i) + 2) + 5) % 2305843009213693951) ^ 2 % 2305843009213693951
def hcell (seed : Int) (s : ByteArray) (n : Int) : Int := if n < 1 then 0 else hsum seed s % n
def hsign (seed : Int) (s : ByteArray) : Int := hsum seed s % 2 * 2 - 1

theorem hsum_range (seed : Int) (s : ByteArray) : 0 ≤ hsum seed s ∧ hsum seed s < 2305843009213693951 := by
  unfold hsum; omega
theorem hrow_range (seed i : Int) : 0 ≤ hrow seed i ∧ hrow seed i < 2305843009213693951 := by
  unfold hrow; omega
theorem hcell_range (seed : Int) (s : ByteArray) (n : Int) (h : 1 ≤ n) : 0 ≤ hcell seed s n ∧ hcell seed s n < n := by
  unfold hcell
  rw [if_neg (by omega)]
  exact ⟨Int.emod_nonneg _ (by omega), Int.emod_lt_of_pos _ (by omega)⟩
theorem hsign_or (seed : Int) (s : ByteArray) : hsign seed s = 1 ∨ hsign seed s = -1 := by
  unfold hsign; omega
theorem hword_range (s : ByteArray) (i : Int) : 0 ≤ hword s i ∧ hword s i < 4294967296 := by
  have a := byt_range s i; have b := byt_range s (i + 1); have c := byt_range s (i + 2); have d := byt_range s (i + 3)
  unfold hword; omega
theorem hpoly_range (a : Int) (s : ByteArray) (n : Nat) : 0 ≤ hpoly a s n ∧ hpoly a s n < 2305843009213693951 := by
  cases n with
  | zero => unfold hpoly; omega
  | succ n => unfold hpoly; omega

theorem or_join (x y : Int) (n : Nat) (hx0 : 0 ≤ x) (hx1 : x < 18446744073709551616) (hx : x % ((2 ^ n : Nat) : Int) = 0) (hy0 : 0 ≤ y) (hy1 : y < ((2 ^ n : Nat) : Int)) (hy2 : y < 18446744073709551616) : Go.bits .or .u64 x y = x + y := by
  rw [u64_or x y hx0 hx1 hy0 hy2]
  obtain ⟨a, rfl⟩ := Int.eq_ofNat_of_zero_le hx0
  obtain ⟨b, rfl⟩ := Int.eq_ofNat_of_zero_le hy0
  have h := nat_join n a b (by omega) (by omega)
  simp only [Int.toNat_natCast]
  rw [h]
  simp
theorem w64_id {x : Int} (h0 : -9223372036854775808 ≤ x) (h1 : x < 9223372036854775808) : IntKind.i64.wrap x = x := by rw [IntKind.wrap_i64]; omega

theorem hash_Row {s i : Int} (h0 : 0 ≤ s) (h1 : s < 18446744073709551616) (h2 : i < 9223372036854775808) (h3 : -9223372036854775808 ≤ i) : TV.pu 41 [cI .u64 s, cI .i64 i] = some (cI .u64 (hrow s i)) := by
  refine run41 (by simp) ?_
  obtain ⟨j, hj⟩ : ∃ j, j = if i < 0 then 0 else i := ⟨_, rfl⟩
  have hj0 : 0 ≤ j := by rw [hj]; split <;> omega
  have hj1 : j < 9223372036854775808 := by rw [hj]; split <;> omega
  obtain ⟨v1, h1'⟩ : ∃ v, v = (s + 3) % 2305843009213693951 := ⟨_, rfl⟩
  obtain ⟨v2, h2'⟩ : ∃ v, v = (j + 2) % 2305843009213693951 := ⟨_, rfl⟩
  obtain ⟨v3, h3'⟩ : ∃ v, v = v1 * v2 % 2305843009213693951 := ⟨_, rfl⟩
  obtain ⟨v4, h4'⟩ : ∃ v, v = (v3 + 5) % 2305843009213693951 := ⟨_, rfl⟩
  have e1 := field_Add (a := s) (b := 3) h0 h1 (by omega) (by omega)
  have e2 := field_Add (a := j) (b := 2) hj0 (by omega) (by omega) (by omega)
  have e3 := field_Mul (a := v1) (b := v2) (by omega) (by omega) (by omega) (by omega)
  have e4 := field_Add (a := v3) (b := 5) (by omega) (by omega) (by omega) (by omega)
  have e5 := field_Mul (a := v4) (b := v4) (by omega) (by omega) (by omega) (by omega)
  rw [← h1'] at e1
  rw [← h2'] at e2
  rw [← h3'] at e3
  rw [← h4'] at e4
  have ew : IntKind.u64.wrap j = j := u64_id hj0 (by omega)
  have em : (if i < 0 then 0 else i) = j := hj.symm
  simp [Try.f41, e1, em, ew, e2, e3, e4, e5]
  unfold hrow
  rw [em, int_sq]
  have hv : v4 = ((s + 3) * (j + 2) + 5) % 2305843009213693951 := by
    have : v3 = (s + 3) * (j + 2) % 2305843009213693951 := by rw [h3', h1', h2', ← Int.mul_emod]
    omega
  rw [hv]

/-- The first bytes of a word. -/
def hwp (s : ByteArray) (i : Int) : Nat → Int
  | 0 => 0
  | j + 1 => hwp s i j * 256 + byt s (i + j)
theorem hwp_range (s : ByteArray) (i : Int) : ∀ j : Nat, 0 ≤ hwp s i j ∧ hwp s i j < 256 ^ j
  | 0 => by simp [hwp]
  | j + 1 => by
    have := hwp_range s i j
    have := byt_range s (i + j)
    simp only [hwp]
    rw [Int.pow_succ]
    omega
theorem hwp_word (s : ByteArray) (i : Int) : hwp s i 4 = hword s i := by
  simp [hwp, hword]

theorem hash_Sum {seed : Int} {s : ByteArray} (h0 : 0 ≤ seed) (h1 : seed < 18446744073709551616) (hs : s.size ≤ 140737488351232) : TV.pu 52 [cI .u64 seed, cS s] = some (cI .u64 (hsum seed s)) := by
  refine run52 (by simp) ?_
  have ha := field_Add (a := seed) (b := 2) h0 h1 (by omega) (by omega)
  have ew : IntKind.u64.wrap (s.size : Int) = s.size := u64_id (by omega) (by omega)
  obtain ⟨a, hae⟩ : ∃ a, a = (seed + 2) % 2305843009213693951 := ⟨_, rfl⟩
  have ha0 : 0 ≤ a := by omega
  have ha1 : a < 2305843009213693951 := by omega
  rw [← hae] at ha
  simp [Try.f52, ha, ew]
  obtain ⟨I, hI⟩ : ∃ I : Nat → St → Prop, ∀ k s', I k s' ↔ (∃ e n, s' = ⟨e, []⟩ ∧ e 1 = vS s ∧ e 5 = vI .u64 a ∧ e 6 = vI .u64 (hpoly a s n) ∧ e 7 = vI .i64 (4 * (n : Nat) : Int) ∧ n + k = nwords s) := ⟨_, fun _ _ => Iff.rfl⟩
  have e0 : hpoly a s 0 = (s.size : Int) := by
    show (s.size : Int) % 2305843009213693951 = _
    omega
  refine wpL_ind I ?_ (nwords s) _ ((hI _ _).2 ⟨_, 0, rfl, by simp, by simp, by simp [e0], by simp, by omega⟩)
  intro k st hst
  obtain ⟨e, n, rfl, e1, e5, e6, e7, hk⟩ := (hI _ _).1 hst
  have hp := hpoly_range a s n
  simp [e1, e5, e6, e7]
  by_cases c : k = 0
  · have hsz : ¬ 4 * (n : Int) < (s.size : Int) := by unfold nwords at hk; omega
    have hn : n = nwords s := by omega
    rw [if_neg hsz]
    have hm := field_Mul (a := hpoly a s n) (b := a) hp.1 (by omega) ha0 (by omega)
    have hw := field_Pow (x := hpoly a s n * a % 2305843009213693951) (n := 17) (by omega) (by omega) (by omega)
    simp at hw
    simp [hm, hw]
    unfold hsum
    rw [← hae, ← hn]
  · have hsz : 4 * (n : Int) < (s.size : Int) := by unfold nwords at hk; omega
    rw [if_pos hsz]
    obtain ⟨J, hJ⟩ : ∃ J : Nat → St → Prop, ∀ k s', J k s' ↔ (∃ e j, s' = ⟨e, []⟩ ∧ e 1 = vS s ∧ e 5 = vI .u64 a ∧ e 6 = vI .u64 (hpoly a s n) ∧ e 7 = vI .i64 (4 * (n : Nat) : Int) ∧ e 8 = vI .u64 (hwp s (4 * (n : Nat) : Int) j) ∧ e 21 = vI .i64 (j : Nat) ∧ j + k = 4) := ⟨_, fun _ _ => Iff.rfl⟩
    refine wpL_ind J ?_ 4 _ ((hJ _ _).2 ⟨_, 0, rfl, by simp [e1], by simp [e5], by simp [e6], by simp [e7], by simp [hwp], by simp, by omega⟩)
    intro q st hst
    obtain ⟨e', j, rfl, f1, f5, f6, f7, f8, f21, hq⟩ := (hJ _ _).1 hst
    have hr := hwp_range s (4 * (n : Int)) j
    have hb := byt_range s (4 * (n : Int) + j)
    have w1 : IntKind.i64.wrap (4 * (n : Int) + j) = 4 * (n : Int) + j := w64_id (by omega) (by omega)
    have w2 : IntKind.u64.wrap (byt s (4 * (n : Int) + j)) = byt s (4 * (n : Int) + j) := u64_id hb.1 (by omega)
    have w3 : IntKind.i64.wrap ((j : Int) + 1) = ((j + 1 : Nat) : Int) := by rw [w64_id (by omega) (by omega)]; omega
    by_cases hj : j < 4
    · have hr2 : hwp s (4 * (n : Int)) j < 16777216 := by
        have : (256 : Int) ^ j ≤ 256 ^ 3 := by
          have : j = 0 ∨ j = 1 ∨ j = 2 ∨ j = 3 := by omega
          rcases this with rfl | rfl | rfl | rfl <;> decide
        omega
      have w4 : IntKind.u64.wrap (hwp s (4 * (n : Int)) j * 256) = hwp s (4 * (n : Int)) j * 256 := u64_id (by omega) (by omega)
      have hj' : ((j : Int) < 4) := by omega
      by_cases hc : 4 * (n : Int) + j < s.size
      · have hx := idx_str us9 (s := s) (k := .i64) (i := 4 * (n : Int) + j) (by omega) hc
        have ho := or_join (hwp s (4 * (n : Int)) j * 256) (byt s (4 * (n : Int) + j)) 8 (by omega) (by omega) (by omega) (by omega) (by omega) (by omega)
        simp [f1, f5, f6, f7, f8, f21, bin_shl, IntKind.bits, w1, w2, w3, w4, hj', hc, hx, ho]
        exact ⟨q - 1, by omega, (hJ _ _).2 ⟨_, j + 1, rfl, by simp [f1], by simp [f5], by simp [f6], by simp [f7], by simp [hwp], by simp, by omega⟩⟩
      · have hx := byt_out s (4 * (n : Int) + j) (by omega) (by omega)
        simp [f1, f5, f6, f7, f8, f21, bin_shl, IntKind.bits, w1, w3, w4, hj', hc]
        exact ⟨q - 1, by omega, (hJ _ _).2 ⟨_, j + 1, rfl, by simp [f1], by simp [f5], by simp [f6], by simp [f7], by simp [hwp, hx], by simp, by omega⟩⟩
    · have hj4 : j = 4 := by omega
      subst hj4
      have hw := hword_range s (4 * (n : Int))
      rw [hwp_word] at f8
      have w5 : IntKind.u64.wrap (hword s (4 * (n : Int)) + 1) = hword s (4 * (n : Int)) + 1 := u64_id (by omega) (by omega)
      have hm := field_Mul (a := hpoly a s n) (b := a) hp.1 (by omega) ha0 (by omega)
      obtain ⟨v, hv⟩ : ∃ v, v = hpoly a s n * a % 2305843009213693951 := ⟨_, rfl⟩
      rw [← hv] at hm
      have had := field_Add (a := v) (b := hword s (4 * (n : Int)) + 1) (by omega) (by omega) (by omega) (by omega)
      have w6 : IntKind.i64.wrap (4 * (n : Int) + 4) = 4 * (n : Int) + 4 := w64_id (by omega) (by omega)
      simp [f5, f6, f7, f8, f21, hm, w5, had, w6]
      refine ⟨k - 1, by omega, (hI _ _).2 ⟨_, n + 1, rfl, by simp [f1], by simp [f5], ?_, ?_, by omega⟩⟩
      · simp [hpoly, hv]
      · simp; omega

theorem hash_Cell {seed n : Int} {s : ByteArray} (h0 : 0 ≤ seed) (h1 : seed < 18446744073709551616) (hs : s.size ≤ 140737488351232) (hn : n < 9223372036854775808) : TV.pu 40 [cI .u64 seed, cS s, cI .i64 n] = some (cI .i64 (hcell seed s n)) := by
  refine run40 (by simp) ?_
  have hr := hsum_range seed s
  by_cases c : n < 1
  · simp [Try.f40, c, hcell]
  · have h2 := Int.emod_nonneg (hsum seed s) (show n ≠ 0 by omega)
    have h3 := Int.emod_lt_of_pos (hsum seed s) (show 0 < n by omega)
    have e1 : IntKind.u64.wrap n = n := u64_id (by omega) (by omega)
    have e2 : (hsum seed s).tmod n = hsum seed s % n := Int.tmod_eq_emod_of_nonneg hr.1
    have e3 : IntKind.i64.wrap (hsum seed s % n) = hsum seed s % n := w64_id (by omega) (by omega)
    have e4 : n ≠ 0 := by omega
    simp [Try.f40, c, hcell, hash_Sum h0 h1 hs, e1, bin_rem e4, e2, e3]

theorem hash_Sign {seed : Int} {s : ByteArray} (h0 : 0 ≤ seed) (h1 : seed < 18446744073709551616) (hs : s.size ≤ 140737488351232) : TV.pu 42 [cI .u64 seed, cS s] = some (cI .i64 (hsign seed s)) := by
  refine run42 (by simp) ?_
  have hr := hsum_range seed s
  have e1 := and_1 (hsum seed s) hr.1 (by omega)
  have e2 : IntKind.i64.wrap (hsum seed s % 2) = hsum seed s % 2 := w64_id (by omega) (by omega)
  have e3 : IntKind.i64.wrap (hsum seed s % 2 * 2) = hsum seed s % 2 * 2 := w64_id (by omega) (by omega)
  have e4 : IntKind.i64.wrap (hsum seed s % 2 * 2 - 1) = hsum seed s % 2 * 2 - 1 := w64_id (by omega) (by omega)
  simp [Try.f42, hash_Sum h0 h1 hs, e1, e2, e3, e4, hsign]
end Go.Proofs.YteaeigpeaneicaaF
end

section
/- Rows of numbers as closed values. -/
namespace Go.Proofs.Vm
open Go

def cRow (r : List Int) : CV := .arr (r.map cInt)
def cRows (l : List (List Int)) : CV := .arr (l.map fun r => [cRow r])

/-- The place of the first element at which p holds, or -1. -/
def idxF {α : Type} (p : α → Bool) (l : List α) : Int := if l.any p then (l.findIdx p : Int) else -1
theorem idxF_at {α : Type} (p : α → Bool) (l : List α) (k : Nat) (h : k < l.length) (hp : p l[k] = true) (hn : ∀ j, j < k → ∀ x, l[j]? = some x → p x = false) : idxF p l = (k : Int) := by
  have ha : l.any p = true := List.any_eq_true.2 ⟨l[k], List.getElem_mem h, hp⟩
  unfold idxF
  rw [if_pos ha]
  congr 1
  rw [List.findIdx_eq h]
  exact ⟨hp, fun j hj => hn j hj _ (List.getElem?_eq_getElem (by omega))⟩
theorem idxF_none {α : Type} (p : α → Bool) (l : List α) (hn : ∀ j, j < l.length → ∀ x, l[j]? = some x → p x = false) : idxF p l = -1 := by
  have ha : ¬ l.any p = true := by
    rw [List.any_eq_true]
    rintro ⟨x, hx, hp⟩
    obtain ⟨j, hj, e⟩ := List.getElem_of_mem hx
    have := hn j hj x (by rw [List.getElem?_eq_getElem hj, e])
    rw [this] at hp
    cases hp
  unfold idxF
  rw [if_neg ha]
theorem idxF_ge {α : Type} (p : α → Bool) (l : List α) : decide (0 ≤ idxF p l) = l.any p := by
  unfold idxF
  split
  · rename_i h; rw [h]; simp
  · rename_i h; simp at h ⊢; simpa using h

attribute [simp] vmakeFunc capOf partsOf vfill
@[simp] theorem cInt_length (n : Int) : (cInt n).length = 1 := rfl

section
variable {P : Program} {T : Tab} {N : Fx} {H : Hp}
theorem bin_sln {t e : TypeId} (he : elemOfSlice P t = some e) {x y : Operand} {a : List CV} {l : List (List CV)} : vbin P H .eql t x y (.one (.c (.arr (a :: l)))) (.one (.c (.v (.slice none 0 0)))) = qa (vB false) := by
  have hu : ∃ d, pv P (underlying t) = some (.slice d) := by
    unfold elemOfSlice at he
    split at he
    · rename_i d hd; exact ⟨_, hd⟩
    · cases he
  obtain ⟨d, hd⟩ := hu
  simp [vbin, neSl, isNils, hd, one?, Value.oneCell']
theorem bs_zero {nid : Nat} {ρ : Operand → Option AV} {t e : TypeId} {sz b : Nat} {z : List CV} (he : elemOfSlice P t = some e) (hel : elOf P e = some (sz, b, z)) : vbuildSlice P H nid ρ t 0 [] = some (.one (.sl nid 0 0 0), [.clo [] false], []) := by
  obtain ⟨i, v, h1, h2, h3, h4, h5, h6, h7⟩ := elOf_facts hel
  simp [vbuildSlice, he, h1]
theorem vw_append {e : Nat → AV} {d : Option Tmp} {ty : TypeId} {pos : String} {aft : Array Edge} {g : Option (Nat × Bool)} {x y : Operand} {t tx : TypeId} :
    vwr P T N H (evo e) ⟨d, .call ⟨.builtin .append, #[x, y], #[t, tx]⟩, ty, pos, aft, g⟩ = match evo e x, evo e y with | some a, some b => vappend P H t tx a b | _, _ => none := rfl
theorem vw_store {e : Nat → AV} {d : Option Tmp} {ty : TypeId} {pos : String} {aft : Array Edge} {g : Option (Nat × Bool)} {x y : Operand} {t : TypeId} :
    vwr P T N H (evo e) ⟨d, .store t x y, ty, pos, aft, g⟩ = match evo e x, evo e y with | some a, some b => (vstore P N.nest H t a b).map fun K => (und, K) | _, _ => none := rfl
end
attribute [simp] vw_append vw_store
theorem fz_v {H : Hp} {x : Value} : fzc 5 H (.c (.v x)) = some (nrm x) := rfl
theorem fz_arr {H : Hp} {l : List (List CV)} : fzc 5 H (.c (.arr l)) = some (.arr l) := rfl
theorem fz_fn {H : Hp} {f : FuncId} {l : List CV} : fzc 5 H (.c (.fn f l)) = some (.fn f l) := rfl
theorem fz_cptr {H : Hp} {l : List CV} : fzc 5 H (.c (.cptr l)) = some (.cptr l) := rfl
section
variable {α : Type}
/-! what lies behind the first part of a heap -/
theorem hp_get (H L : List α) (k : Nat) : (H ++ L)[H.length + k]? = L[k]? := by rw [List.getElem?_append_right (by omega)]; congr 1; omega
theorem hp_get0 (H L : List α) : (H ++ L)[H.length]? = L[0]? := hp_get H L 0
theorem hp_set (H L : List α) (k : Nat) (x : α) : (H ++ L).set (H.length + k) x = H ++ L.set k x := by rw [List.set_append_right _ _ (by omega)]; congr 2; omega
theorem hp_set0 (H L : List α) (x : α) : (H ++ L).set H.length x = H ++ L.set 0 x := hp_set H L 0 x
theorem hp_mod0 (H L : List α) (f : α → α) : (H ++ L).modify H.length f = H ++ L.modify 0 f := by
  induction H with
  | nil => rfl
  | cons x H ih => simpa using ih
attribute [simp] hp_mod0
attribute [simp] hp_get hp_get0 hp_set hp_set0
end
end Go.Proofs.Vm
end

section
namespace Go.Proofs.YteaeigpeaneicaaF
open Go Go.Proofs.Vm

def fitsB (n : Int) : Bool := decide (-1099511627776 ≤ n) && decide (n ≤ 1099511627776)
theorem signed_fits (n : Int) : TV.pu 28 [cI .i64 n] = some (cB (fitsB n)) := by
  refine run28 (by simp) ?_
  by_cases h : -1099511627776 ≤ n <;> simp [Try.f28, h, fitsB]

theorem signed_lam (n : Int) : TV.pu 35 [cI .i64 n] = some (cB (!fitsB n)) := by
  refine run35 (by simp) ?_
  simp [Try.f35, signed_fits]

theorem index_row {g : CV} {caps : List CV} {f : FuncId} (hg : g = .fn f caps) {p : Int → Bool} {r : List Int} (hp : ∀ n ∈ r, TV.pu f (cI .i64 n :: caps.map .one) = some (cB (p n))) (hl : r.length < 9223372036854775807) :
    TV.pu 46 [.one (cRow r), .one g] = some (cI .i64 (idxF p r)) := by
  subst hg
  refine run46 (by simp) ?_
  simp [Try.f46, cRow]
  obtain ⟨I, hI⟩ : ∃ I : Nat → St → Prop, ∀ k s', I k s' ↔ (∃ e j, s' = ⟨e, []⟩ ∧ e 0 = .one (.c (cRow r)) ∧ e 1 = .one (.c (.fn f caps)) ∧ e 7 = vI .i64 r.length ∧ e 8 = vI .i64 (j : Nat) ∧ j + k = r.length ∧ ∀ q, q < j → ∀ x, r[q]? = some x → p x = false) := ⟨_, fun _ _ => Iff.rfl⟩
  refine wpL_ind I ?_ r.length _ ((hI _ _).2 ⟨_, 0, rfl, by simp [cRow], by simp, by simp, by simp, by omega, by simp⟩)
  intro k st hst
  obtain ⟨e, j, rfl, e0, e1, e7, e8, hk, hno⟩ := (hI _ _).1 hst
  by_cases c : j < r.length
  · have hx : r[j]? = some r[j] := List.getElem?_eq_getElem c
    have hpj := hp r[j] (List.getElem_mem c)
    have w1 : IntKind.i64.wrap ((j : Int) + 1) = ((j + 1 : Nat) : Int) := by rw [w64_id (by omega) (by omega)]; omega
    simp [e0, e1, e7, e8, cRow, c, hpj, w1, cInt]
    by_cases hj : p r[j] = true
    · simp [hj, idxF_at p r j c hj hno]
    · simp [hj]
      refine ⟨k - 1, by omega, (hI _ _).2 ⟨_, j + 1, rfl, by simp [e0], by simp [e1], by simp [e7], by simp, by omega, ?_⟩⟩
      intro q hq x hx2
      by_cases hqj : q = j
      · subst hqj
        rw [hx] at hx2
        cases hx2
        simpa using hj
      · exact hno q (by omega) x hx2
  · have c' : ¬ (j : Int) < (r.length : Int) := by omega
    simp [e0, e1, e7, e8, c']
    rw [idxF_none p r fun q hq => hno q (by omega)]
theorem index_rows {g : CV} {caps : List CV} {f : FuncId} (hg : g = .fn f caps) {p : List Int → Bool} {r : List (List Int)} (hp : ∀ n ∈ r, TV.pu f (.one (cRow n) :: caps.map .one) = some (cB (p n))) (hl : r.length < 9223372036854775807) :
    TV.pu 45 [.one (cRows r), .one g] = some (cI .i64 (idxF p r)) := by
  subst hg
  refine run45 (by simp) ?_
  simp [Try.f45, cRows]
  obtain ⟨I, hI⟩ : ∃ I : Nat → St → Prop, ∀ k s', I k s' ↔ (∃ e j, s' = ⟨e, []⟩ ∧ e 0 = .one (.c (cRows r)) ∧ e 1 = .one (.c (.fn f caps)) ∧ e 7 = vI .i64 r.length ∧ e 8 = vI .i64 (j : Nat) ∧ j + k = r.length ∧ ∀ q, q < j → ∀ x, r[q]? = some x → p x = false) := ⟨_, fun _ _ => Iff.rfl⟩
  refine wpL_ind I ?_ r.length _ ((hI _ _).2 ⟨_, 0, rfl, by simp [cRows], by simp, by simp, by simp, by omega, by simp⟩)
  intro k st hst
  obtain ⟨e, j, rfl, e0, e1, e7, e8, hk, hno⟩ := (hI _ _).1 hst
  by_cases c : j < r.length
  · have hx : r[j]? = some r[j] := List.getElem?_eq_getElem c
    have hpj := hp r[j] (List.getElem_mem c)
    have w1 : IntKind.i64.wrap ((j : Int) + 1) = ((j + 1 : Nat) : Int) := by rw [w64_id (by omega) (by omega)]; omega
    simp only [cRow] at hpj
    simp [e0, e1, e7, e8, cRows, cRow, c, hpj, w1]
    by_cases hj : p r[j] = true
    · simp [hj, idxF_at p r j c hj hno]
    · simp [hj]
      refine ⟨k - 1, by omega, (hI _ _).2 ⟨_, j + 1, rfl, by simp [e0], by simp [e1], by simp [e7], by simp, by omega, ?_⟩⟩
      intro q hq x hx2
      by_cases hqj : q = j
      · subst hqj
        rw [hx] at hx2
        cases hx2
        simpa using hj
      · exact hno q (by omega) x hx2
  · have c' : ¬ (j : Int) < (r.length : Int) := by omega
    simp [e0, e1, e7, e8, c']
    rw [idxF_none p r fun q hq => hno q (by omega)]

theorem contains_row {g : CV} {caps : List CV} {f : FuncId} (hg : g = .fn f caps) {p : Int → Bool} {r : List Int} (hp : ∀ n ∈ r, TV.pu f (cI .i64 n :: caps.map .one) = some (cB (p n))) (hl : r.length < 9223372036854775807) :
    TV.pu 34 [.one (cRow r), .one g] = some (cB (r.any p)) := by
  refine run34 (by simp) ?_
  have h := index_row hg hp hl
  subst hg
  simp [Try.f34, h, idxF_ge, cRow] at h ⊢
theorem contains_rows {g : CV} {caps : List CV} {f : FuncId} (hg : g = .fn f caps) {p : List Int → Bool} {r : List (List Int)} (hp : ∀ n ∈ r, TV.pu f (.one (cRow n) :: caps.map .one) = some (cB (p n))) (hl : r.length < 9223372036854775807) :
    TV.pu 32 [.one (cRows r), .one g] = some (cB (r.any p)) := by
  refine run32 (by simp) ?_
  have h := index_rows hg hp hl
  subst hg
  simp [Try.f32, h, idxF_ge, cRows] at h ⊢

def cSk (seed : Int) (rows : List (List Int)) : List CV := [.v (.int .u64 seed), cRows rows]
def rowB (rows : List (List Int)) (r : List Int) : Bool := decide (r.length < 1) || decide (256 < r.length) || decide (r.length ≠ (rows.headD []).length) || r.any (fun n => !fitsB n)
theorem signed_row {seed : Int} {rows : List (List Int)} {r : List Int} (hr : rows ≠ []) (hl : r.length < 9223372036854775807) (hl2 : ∀ x ∈ rows, x.length < 9223372036854775807) : TV.pu 33 [.one (cRow r), .one (.cptr (cSk seed rows))] = some (cB (rowB rows r)) := by
  refine run33 (by simp) ?_
  obtain ⟨h, t, rfl⟩ : ∃ h t, rows = h :: t := by cases rows with | nil => exact absurd rfl hr | cons h t => exact ⟨h, t, rfl⟩
  have hc := contains_row (g := .fn 35 []) rfl (p := fun n => !fitsB n) (r := r) (fun n _ => signed_lam n) hl
  simp only [cRow] at hc
  have hB : rowB (h :: t) r = (decide (r.length < 1) || decide (256 < r.length) || decide (r.length ≠ h.length) || r.any (fun n => !fitsB n)) := rfl
  rw [hB]
  by_cases h1 : (r.length : Int) < 1
  · have g1 : r.length < 1 := by omega
    rw [decide_eq_true g1, Bool.true_or, Bool.true_or, Bool.true_or]
    simp [Try.f33, cSk, cRows, cRow, h1]
  · have g1 : ¬ r.length < 1 := by omega
    rw [decide_eq_false g1, Bool.false_or]
    by_cases h2 : 256 < (r.length : Int)
    · have g2 : 256 < r.length := by omega
      rw [decide_eq_true g2, Bool.true_or, Bool.true_or]
      simp [Try.f33, cSk, cRows, cRow, h1, h2]
    · have g2 : ¬ 256 < r.length := by omega
      rw [decide_eq_false g2, Bool.false_or]
      by_cases h3 : (r.length : Int) = h.length
      · have g3 : ¬ r.length ≠ h.length := by omega
        rw [decide_eq_false g3, Bool.false_or]
        have h3' : ((r.length : Int) != (h.length : Int)) = false := by simp [h3]
        simp [Try.f33, cSk, cRows, cRow, h1, h2, h3', hc]
      · have g3 : r.length ≠ h.length := by omega
        rw [decide_eq_true g3, Bool.true_or]
        have h3' : ((r.length : Int) != (h.length : Int)) = true := by simp; omega
        simp [Try.f33, cSk, cRows, cRow, h1, h2, h3']

def okB (rows : List (List Int)) : Bool := decide (rows.length ≤ 7) && decide (rows.length % 2 = 1) && !rows.any (rowB rows)
theorem signed_Right {seed : Int} {rows : List (List Int)} (hl : rows.length < 9223372036854775807) (hl2 : ∀ x ∈ rows, x.length < 9223372036854775807) : TV.pu 17 [.agg (cSk seed rows)] = some (cB (okB rows)) := by
  refine run17 (by simp) ?_
  have hc : rows ≠ [] → TV.pu 32 [.one (cRows rows), .one (.fn 33 [.cptr (cSk seed rows)])] = some (cB (rows.any (rowB rows))) := fun hr =>
    contains_rows rfl (fun n hn => signed_row hr (hl2 n hn) hl2) hl
  have e2 : (rows.length : Int).tmod 2 = ((rows.length % 2 : Nat) : Int) := by rw [Int.tmod_eq_emod_of_nonneg (by omega)]; omega
  by_cases h1 : 7 < (rows.length : Int)
  · have g1 : ¬ rows.length ≤ 7 := by omega
    simp only [okB, decide_eq_false g1, Bool.false_and]
    simp [Try.f17, cSk, cRows, h1]
  · have g1 : rows.length ≤ 7 := by omega
    simp only [okB, decide_eq_true g1, Bool.true_and]
    by_cases h2 : rows.length % 2 = 1
    · have hr : rows ≠ [] := by rintro rfl; simp at h2
      have hc := hc hr
      simp only [cSk, cRows] at hc
      have e3 : ((rows.length : Int).tmod 2 == 0) = false := by rw [e2, h2]; rfl
      simp [Try.f17, cSk, cRows, h1, h2, e3, bin_rem, hc]
    · have e3 : ((rows.length : Int).tmod 2 == 0) = true := by rw [e2, show rows.length % 2 = 0 by omega]; rfl
      simp [Try.f17, cSk, cRows, h1, h2, e3, bin_rem]
end Go.Proofs.YteaeigpeaneicaaF
end

section
set_option maxRecDepth 4096
namespace Go.Proofs.YteaeigpeaneicaaF
open Go Go.Proofs.Vm

theorem slices_Clone {r : List Int} {H : Hp} (h0 : r ≠ []) (hl : r.length ≤ 8796093022208) : TV.S 39 [.one (.c (cRow r))] H = some (.one (.sl (H.length + 1) 0 r.length r.length), H ++ [.clo [] false, .clo (r.map cInt) false]) := by
  refine run39 (by simp) (by simp) ?_
  have ha := vappend_eq (P := Try.prog) (H := H ++ [.clo [] false, .clo [] false]) (t := 33) (tx := 33) (id := H.length + 1) (n := 0) (l := []) (xs := r.map cInt) (x := .one (.c (.arr (r.map cInt)))) es33 es33 el3
    (by simp) rfl rfl (by simp) (by simp) (by simp; omega) (by simp; omega)
  obtain ⟨x, t, rfl⟩ : ∃ h t, r = h :: t := by cases r with | nil => exact absurd rfl h0 | cons h t => exact ⟨h, t, rfl⟩
  simp at ha
  simp [Try.f39, cRow, vmove, isNil, bin_sln es33, bs_zero es33 el3, ha]
end Go.Proofs.YteaeigpeaneicaaF
end

section
set_option maxRecDepth 4096
namespace Go.Proofs.YteaeigpeaneicaaF
open Go Go.Proofs.Vm

def cl (rows : List (List Int)) : List Ent := (rows.map fun r => [Ent.clo [] false, .clo (r.map cInt) false]).flatten
theorem cl_len (rows : List (List Int)) : (cl rows).length = 2 * rows.length := by
  induction rows with
  | nil => rfl
  | cons r t ih => simp only [cl, List.map_cons, List.flatten_cons, List.length_append] at ih ⊢; rw [ih]; simp; omega
theorem cl_take (rows : List (List Int)) (i : Nat) (h : i < rows.length) : cl (rows.take (i + 1)) = cl (rows.take i) ++ [Ent.clo [] false, .clo (rows[i].map cInt) false] := by
  rw [List.take_add_one, List.getElem?_eq_getElem h]
  simp only [cl, Option.toList_some, List.map_append, List.flatten_append, List.map_cons, List.map_nil, List.flatten_cons, List.flatten_nil, List.append_nil]
def clRows (b : Nat) (rows : List (List Int)) (i : Nat) : List (List Cell) := rows.mapIdx fun j r => if j < i then [.sl (b + (5 + 2 * j)) 0 r.length r.length] else [.c (.arr [])]
theorem clRows_len (b : Nat) (rows : List (List Int)) (i : Nat) : (clRows b rows i).length = rows.length := by simp [clRows]
theorem clRows_zero (b : Nat) (rows : List (List Int)) : clRows b rows 0 = List.replicate rows.length [.c (.arr [])] := by
  apply List.ext_getElem
  · simp [clRows]
  · intro j h1 h2
    simp [clRows]
theorem clRows_at (b : Nat) (rows : List (List Int)) (i : Nat) (h : i < rows.length) : (clRows b rows i)[i]? = some [.c (.arr [])] := by
  simp [clRows, h]
theorem clRows_set (b : Nat) (rows : List (List Int)) (i : Nat) (h : i < rows.length) : (clRows b rows i).set i [.sl (b + (5 + 2 * i)) 0 rows[i].length rows[i].length] = clRows b rows (i + 1) := by
  apply List.ext_getElem
  · simp [clRows]
  · intro j h1 h2
    rw [List.getElem_set]
    simp only [clRows, List.getElem_mapIdx]
    by_cases hj : i = j
    · subst hj; simp
    · rw [if_neg hj]
      by_cases hj2 : j < i
      · rw [if_pos hj2, if_pos (by omega)]
      · rw [if_neg hj2, if_neg (by omega)]

theorem clRows_modify (b : Nat) (rows : List (List Int)) (i : Nat) (h : i < rows.length) (x : Cell) : ((clRows b rows i).modify i fun e => wr e 0 [x]) = (clRows b rows i).set i [x] := by
  apply List.ext_getElem
  · simp
  · intro j h1 h2
    rw [List.getElem_modify, List.getElem_set]
    by_cases hj : i = j
    · subst hj
      simp [clRows, wr]
    · rw [if_neg hj, if_neg hj]

/-- The memory behind a clone. -/
def clH (b : Nat) (seed : Int) (rows : List (List Int)) : List Ent :=
  .opn [[.c (.v (.int .u64 seed)), .sl (b + 3) 0 rows.length rows.length]] false :: .opn [[.c (.v (.int .u64 seed)), .sl (b + 3) 0 rows.length rows.length]] false :: .clo [] false :: .opn (clRows b rows rows.length) false :: cl rows

theorem signed_clone {seed : Int} {rows : List (List Int)} {H : Hp} (h0 : rows ≠ []) (hl : rows.length ≤ 1000) (hr : ∀ r ∈ rows, r ≠ [] ∧ r.length ≤ 8796093022208) :
    TV.S 29 [.agg [.c (.v (.int .u64 seed)), .c (cRows rows)]] H = some (.agg [.c (.v (.int .u64 seed)), .sl (H.length + 3) 0 rows.length rows.length], H ++ clH H.length seed rows) := by
  refine run29 (by simp) (by simp) ?_
  have hz : rows.length ≠ 0 := fun h => h0 (List.length_eq_zero_iff.1 h)
  simp [Try.f29, cRows, vmove, isNil, vmakeSlice_eq es23 el33, hz, small]
  refine ⟨⟨by omega, by omega⟩, ?_⟩
  obtain ⟨I, hI⟩ : ∃ I : Nat → St → Prop, ∀ k s', I k s' ↔ (∃ e h i, s' = ⟨e, h⟩ ∧ h = H ++ .opn [[.c (.v (.int .u64 seed)), .c (cRows rows)]] false :: .opn [[.c (.v (.int .u64 0)), .sl (H.length + 2) 0 0 0]] false :: .clo [] false :: .opn (clRows H.length rows i) false :: cl (rows.take i) ∧
      e 1 = .one (.ptr ⟨H.length, 0, 0, 1⟩) ∧ e 2 = .one (.ptr ⟨H.length + 1, 0, 0, 1⟩) ∧ e 3 = .one (.sl (H.length + 3) 0 rows.length rows.length) ∧ e 11 = .one (.c (cRows rows)) ∧ e 12 = vI .i64 rows.length ∧ e 13 = vI .i64 (i : Nat) ∧ i + k = rows.length) := ⟨_, fun _ _ => Iff.rfl⟩
  refine wpL_ind I ?_ rows.length _ ((hI _ _).2 ⟨_, _, 0, rfl, by rw [clRows_zero]; simp [cRows, cl], by simp, by simp, by simp, by simp [cRows], by simp, by simp, by omega⟩)
  intro k st hst
  obtain ⟨e, h, i, rfl, rfl, e1, e2, e3, e11, e12, e13, hk⟩ := (hI _ _).1 hst
  by_cases c : i < rows.length
  · have c' : (i : Int) < rows.length := by omega
    have hm := hr rows[i] (List.getElem_mem c)
    have hx : rows[i]? = some rows[i] := List.getElem?_eq_getElem c
    have w1 : IntKind.i64.wrap ((i : Int) + 1) = ((i + 1 : Nat) : Int) := by rw [w64_id (by omega) (by omega)]; omega
    have hc := slices_Clone (r := rows[i]) (H := H ++ .opn [[.c (.v (.int .u64 seed)), .c (cRows rows)]] false :: .opn [[.c (.v (.int .u64 0)), .sl (H.length + 2) 0 0 0]] false :: .clo [] false :: .opn (clRows H.length rows i) false :: cl (rows.take i)) hm.1 hm.2
    simp only [cRow, cRows] at hc
    simp [e1, e2, e3, e11, e12, e13, c, c', w1, cRows, cRow, vmove, hc, vstore, cellsOf?, clRows_len, Ent.wrO]
    refine ⟨by simp [clRows], by simp [clRows], k - 1, by omega, (hI _ _).2 ⟨_, _, i + 1, rfl, ?_, by simp [e1], by simp [e2], by simp [e3], by simp [e11, cRows, cRow], by simp [e12], by simp, by omega⟩⟩
    rw [clRows_modify _ _ _ c, cl_take _ _ c, ← clRows_set _ _ _ c, cl_len, List.length_take, Nat.min_eq_left (by omega)]
    rw [show H.length + (2 * i + 1 + 1 + 1 + 1) + 1 = H.length + (5 + 2 * i) by omega]
    simp [cRows, cRow]
  · have c' : ¬ (i : Int) < rows.length := by omega
    have hi : i = rows.length := by omega
    subst hi
    simp [e1, e2, e3, e11, e12, e13, c', cRows, vmove, vstore, cellsOf?, Ent.wrO, wr, clH]
    simp [qa]
end Go.Proofs.YteaeigpeaneicaaF
end

section
set_option maxRecDepth 4096
namespace Go.Proofs.YteaeigpeaneicaaF
open Go Go.Proofs.Vm

def scell (seed : Int) (key : ByteArray) (i n : Int) : Int := hcell (hrow seed (2 * i)) key n
def ssign (seed : Int) (key : ByteArray) (i : Int) : Int := hsign (hrow seed (2 * i + 1)) key
theorem signed_place {seed : Int} {rows : List (List Int)} {key : ByteArray} {i : Nat} (h0 : 0 ≤ seed) (h1 : seed < 18446744073709551616) (hs : key.size ≤ 140737488351232) (hi : i < rows.length) (hl : rows.length ≤ 1000) (hr : rows[i].length < 9223372036854775807) :
    TV.pu 30 [.agg (cSk seed rows), cS key, cI .i64 i] = some (.tup [(false, [.v (.int .i64 (scell seed key i rows[i].length))]), (false, [.v (.int .i64 (ssign seed key i))])]) := by
  refine run30 (by simp) ?_
  have w1 : IntKind.i64.wrap (2 * (i : Int)) = 2 * (i : Int) := w64_id (by omega) (by omega)
  have w2 : IntKind.i64.wrap (2 * (i : Int) + 1) = 2 * (i : Int) + 1 := w64_id (by omega) (by omega)
  have r1 := hash_Row (s := seed) (i := 2 * (i : Int)) h0 h1 (by omega) (by omega)
  have r2 := hash_Row (s := seed) (i := 2 * (i : Int) + 1) h0 h1 (by omega) (by omega)
  have b1 := hrow_range seed (2 * (i : Int))
  have b2 := hrow_range seed (2 * (i : Int) + 1)
  have c1 := hash_Cell (seed := hrow seed (2 * (i : Int))) (s := key) (n := (rows[i].length : Int)) b1.1 (by omega) hs (by omega)
  have c2 := hash_Sign (seed := hrow seed (2 * (i : Int) + 1)) (s := key) b2.1 (by omega) hs
  simp [Try.f30, cSk, cRows, cRow, w1, w2, r1, r2, hi, c1, c2, scell, ssign]

theorem signed_Cell {seed : Int} {rows : List (List Int)} {key : ByteArray} {i : Int} (h0 : 0 ≤ seed) (h1 : seed < 18446744073709551616) (hs : key.size ≤ 140737488351232) (hl : rows.length < 9223372036854775807) (hl2 : ∀ x ∈ rows, x.length < 9223372036854775807) :
    TV.pu 18 [.agg (cSk seed rows), cS key, cI .i64 i] = some (cI .i64 (if okB rows = true ∧ 0 ≤ i then (match rows[i.toNat]? with | some r => scell seed key i r.length | none => 0) else 0)) := by
  refine run18 (by simp) ?_
  have hR := signed_Right (seed := seed) hl hl2
  by_cases h : okB rows = true
  · have hl7 : rows.length ≤ 7 := by simp [okB] at h; exact h.1.1
    simp only [cSk, cRows] at hR
    rw [h] at hR
    by_cases hi : 0 ≤ i
    · obtain ⟨j, rfl⟩ := Int.eq_ofNat_of_zero_le hi
      have hj0 : ¬ (j : Int) < 0 := by omega
      by_cases hj : j < rows.length
      · have hp := signed_place (i := j) h0 h1 hs hj (by omega) (hl2 _ (List.getElem_mem hj))
        simp only [cSk, cRows] at hp
        have hj' : ¬ (rows.length : Int) ≤ j := by omega
        have hj'' : ¬ rows.length ≤ j := by omega
        simp [Try.f18, cSk, cRows, hR, h, hj0, hj', hj, hp]
      · have hj' : (rows.length : Int) ≤ j := by omega
        have hx : rows[j]? = none := by simp; omega
        simp [Try.f18, cSk, cRows, hR, h, hj0, hj', hx]
    · have hi' : i < 0 := by omega
      simp [Try.f18, cSk, cRows, hR, h, hi', hi]
  · have h : okB rows = false := by simpa using h
    simp only [cSk, cRows] at hR
    rw [h] at hR
    simp [Try.f18, cSk, cRows, hR, h]
end Go.Proofs.YteaeigpeaneicaaF
end

section
set_option maxRecDepth 4096
namespace Go.Proofs.YteaeigpeaneicaaF
open Go Go.Proofs.Vm

theorem cl_get (rows : List (List Int)) (j : Nat) : (cl rows)[2 * j + 1]? = rows[j]?.map fun r => .clo (r.map cInt) false := by
  induction rows generalizing j with
  | nil => simp [cl]
  | cons r t ih =>
    cases j with
    | zero => simp [cl]
    | succ j =>
      have := ih j
      simp only [cl, List.map_cons, List.flatten_cons] at this ⊢
      rw [List.getElem?_append_right (by simp; omega)]
      simp only [List.length_cons, List.length_nil]
      rw [show 2 * (j + 1) + 1 - (0 + 1 + 1) = 2 * j + 1 by omega, this]
      rfl
theorem cl_set (rows : List (List Int)) (j : Nat) (x : List Int) : (cl rows).set (2 * j + 1) (.clo (x.map cInt) false) = cl (rows.set j x) := by
  induction rows generalizing j with
  | nil => simp [cl]
  | cons r t ih =>
    cases j with
    | zero => simp [cl]
    | succ j =>
      have := ih j
      simp only [cl, List.map_cons, List.flatten_cons, List.set_cons_succ] at this ⊢
      rw [List.set_append_right _ _ (by simp; omega)]
      simp only [List.length_cons, List.length_nil]
      rw [show 2 * (j + 1) + 1 - (0 + 1 + 1) = 2 * j + 1 by omega, this]

theorem mapO_all {α β : Type} {f : α → Option β} : ∀ {l : List α} {m : List β}, l.length = m.length → (∀ (j : Nat) x y, l[j]? = some x → m[j]? = some y → f x = some y) → mapO f l = some m
  | [], [], _, _ => rfl
  | [], _ :: _, h, _ => by simp at h
  | _ :: _, [], h, _ => by simp at h
  | x :: l, y :: m, h, g => by
    have h1 := g 0 x y rfl rfl
    have h2 := mapO_all (l := l) (m := m) (by simpa using h) fun j u v hu hv => g (j + 1) u v (by simpa using hu) (by simpa using hv)
    simp [mapO, h1, h2]

theorem fz_rows {h : Hp} {id b : Nat} {rows cur : List (List Int)} (hlen : cur.length = rows.length) (h6 : h[id]? = some (.opn (clRows b rows rows.length) false))
    (hc : ∀ j (hj : j < rows.length) (hj2 : j < cur.length), h[b + (5 + 2 * j)]? = some (.clo (cur[j].map cInt) false) ∧ cur[j].length = rows[j].length) (n : Nat) :
    fzc (n + 2) h (.sl id 0 rows.length rows.length) = some (cRows cur) := by
  have hm : mapO (mapO (fzc (n + 1) h)) (clRows b rows rows.length) = some (cur.map fun r => [cRow r]) := by
    refine mapO_all (by simp [clRows, hlen]) fun j x y hx hy => ?_
    simp only [clRows, List.getElem?_mapIdx, List.getElem?_map] at hx hy
    have hj2 : j < cur.length := by
      rcases Nat.lt_or_ge j cur.length with h | h
      · exact h
      · rw [List.getElem?_eq_none h] at hy; cases hy
    have hj : j < rows.length := by omega
    rw [List.getElem?_eq_getElem hj] at hx
    rw [List.getElem?_eq_getElem hj2] at hy
    simp only [Option.map_some, Option.some.injEq, hj, if_true] at hx hy
    subst hx hy
    obtain ⟨g1, g2⟩ := hc j hj hj2
    simp only [mapO, fzc, g1, List.length_map, g2, if_true, List.drop_zero]
    rw [List.take_of_length_le (by simp [g2])]
    rfl
  have hl : (clRows b rows rows.length).length = rows.length := clRows_len ..
  unfold fzc
  simp only [h6, hl, if_true, List.drop_zero]
  rw [List.take_of_length_le (by omega), hm]
  rfl

def newV (seed : Int) (key : ByteArray) (n : Int) (i : Int) (r : List Int) : Int := r.getD (scell seed key i r.length).toNat 0 + ssign seed key i * n
def updRow (seed : Int) (key : ByteArray) (n : Int) (i : Int) (r : List Int) : List Int := r.set (scell seed key i r.length).toNat (newV seed key n i r)
def updTo (seed : Int) (key : ByteArray) (n : Int) (k : Nat) (rows : List (List Int)) : List (List Int) := rows.mapIdx fun j r => if j < k then updRow seed key n (j : Int) r else r
theorem updTo_zero (seed : Int) (key : ByteArray) (n : Int) (rows : List (List Int)) : updTo seed key n 0 rows = rows := by
  apply List.ext_getElem
  · simp [updTo]
  · intro j h1 h2
    simp [updTo]
theorem updTo_len (seed : Int) (key : ByteArray) (n : Int) (k : Nat) (rows : List (List Int)) : (updTo seed key n k rows).length = rows.length := by simp [updTo]
theorem updTo_at (seed : Int) (key : ByteArray) (n : Int) (k : Nat) (rows : List (List Int)) (h : k < rows.length) : (updTo seed key n k rows)[k]? = some rows[k] := by simp [updTo, h]
theorem updTo_set (seed : Int) (key : ByteArray) (n : Int) (k : Nat) (rows : List (List Int)) (h : k < rows.length) : (updTo seed key n k rows).set k (updRow seed key n (k : Int) rows[k]) = updTo seed key n (k + 1) rows := by
  apply List.ext_getElem
  · simp [updTo]
  · intro j h1 h2
    rw [List.getElem_set]
    simp only [updTo, List.getElem_mapIdx]
    by_cases hj : k = j
    · subst hj; simp
    · rw [if_neg hj]
      by_cases hj2 : j < k
      · rw [if_pos hj2, if_pos (by omega)]
      · rw [if_neg hj2, if_neg (by omega)]
theorem updTo_rowlen (seed : Int) (key : ByteArray) (n : Int) (k : Nat) (rows : List (List Int)) (j : Nat) (h : j < rows.length) (h2 : j < (updTo seed key n k rows).length) : (updTo seed key n k rows)[j].length = rows[j].length := by
  simp only [updTo, List.getElem_mapIdx]
  split
  · simp [updRow]
  · rfl
def addRows (seed : Int) (key : ByteArray) (n : Int) (rows : List (List Int)) : List (List Int) := updTo seed key n rows.length rows
end Go.Proofs.YteaeigpeaneicaaF
end
