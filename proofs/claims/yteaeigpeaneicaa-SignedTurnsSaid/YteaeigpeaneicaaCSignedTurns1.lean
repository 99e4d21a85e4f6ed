/- Steps towards: For any sketch of small rows, right or wrong, and any key of at most a hundred bytes, what the program makes of the sketch by adding so many of the key, and what it tells of it, are what the document's own answer says; conditions: none beyond what the statement itself tells of its arguments. -/
import Derived.Test.YteaeigpeaneicaaCSignedTurns0
import Derived.WalkKit
import Derived.ProofKit
import Derived.Laws.BitsAllLaws
import Derived.Test.YteaeigpeaneicaaProg
import Derived.Below
import Derived.Deep.Draws
import Derived.Deep.AppendLies
import Derived.Maps.AppendAt
import Derived.OwnWalk
import Derived.Laws.BytesArg
import Derived.Laws.MakeOwn
import Derived.Laws.OwnMore
import Derived.Deep.OwnRows
import Derived.Tactics
import Derived.Lib.ConvBytes
import Derived.Laws.Slices
import Derived.KernelRfl
import Derived.RowKit3
import Derived.Deep.LoopGhost
import Derived.Deep.QuietTactic
import Derived.BigQuiet
import Derived.WideLaws
import Derived.Deep.DeepCutAuto
import Derived.Deep.CutBlock
import Derived.Deep.RegionHeld3
import Derived.Laws.Rows
import Derived.Lib.AppendStr
import Derived.ArgAppend
import Derived.Laws.IdiomCopy
import Derived.OrdersHeld
import Derived.Laws.BitsLemmas
import Derived.RowKit
import Derived.WalkSpells
import Derived.Outline
import Derived.Shelf.Small.Strs
import Derived.Shelf.Small.Wraps
import Derived.Shelf.Sort.Plain
import Derived.Shelf.Slices.In.SortNone
import Derived.Ground.Names2Prog
section
/- Short forms of steps that the printed walks repeat. -/
namespace Go.Proofs.Yteaeigpeaneicaa.G
open Go Go.RowKit Go.Proofs.YteaeigpeaneicaaW.PrintWords Go.Proofs.YteaeigpeaneicaaW.PrintLast Go.Proofs.YteaeigpeaneicaaW.PrintMore
set_option linter.unusedVariables false
theorem pB {w w' : World} {g : Nat} {o : Obj} (h : Aside0 (w.heap[g]? = some o)) (hs : w.heap[g]? = some o → w'.heap[g]? = some o := by intro h_; (with_reducible repeat (first | refine blk_drewN ?_ _ | refine blk_drew ?_ | refine blk_alloc ?_ _)); exact h_) : w'.heap[g]? = some o := hs h.out
theorem bB {w w1 w2 : World} {g : Nat} {o : Obj} (h : Aside0 (w.heap[g]? = some o)) (hb : Below w1.heap.size w1 w2) (hs : w.heap[g]? = some o → w1.heap[g]? = some o := by intro h_; (with_reducible repeat (first | refine blk_drewN ?_ _ | refine blk_drew ?_ | refine blk_alloc ?_ _)); exact h_) : Aside0 (w2.heap[g]? = some o) := ⟨blk_below (hs h.out) hb⟩
theorem neL {w w1 : World} {g g' : Nat} {o : Obj} (h : Aside0 (w.heap[g]? = some o)) (hg : g' = w1.heap.size) (hs : w.heap[g]? = some o → w1.heap[g]? = some o := by intro h_; (with_reducible repeat (first | refine blk_drewN ?_ _ | refine blk_drew ?_ | refine blk_alloc ?_ _)); exact h_) : Aside0 (g ≠ g') := ⟨by rw [hg]; exact Nat.ne_of_lt (blk_lt (hs h.out))⟩
theorem neG {w w1 : World} {g g' : Nat} {o : Obj} (h : Aside0 (w.heap[g]? = some o)) (hg : g' = w1.heap.size) (hs : w.heap[g]? = some o → w1.heap[g]? = some o := by intro h_; (with_reducible repeat (first | refine blk_drewN ?_ _ | refine blk_drew ?_ | refine blk_alloc ?_ _)); exact h_) : Aside0 (g' ≠ g) := ⟨by rw [hg]; exact Nat.ne_of_gt (blk_lt (hs h.out))⟩
theorem pH {w W W' : World} {B : Nat} (h : Aside0 (Below B w W)) (hs : Below B w W → Below B w W' := by intro h_; repeat (first | (with_reducible first | exact h_ | apply below_alloc | apply pw_below_drewN | apply below_drew1 | refine below_set ?_ (Aside0.out (by assumption))) | exact h_)) : Below B w W' := hs h.out
theorem stB {w W W' w2 : World} (h : Aside0 (Below w.heap.size w W)) (k : Below W'.heap.size W' w2) (hs : Below w.heap.size w W → Below w.heap.size w W' := by intro h_; repeat (first | (with_reducible first | exact h_ | apply below_alloc | apply pw_below_drewN | apply below_drew1 | refine below_set ?_ (Aside0.out (by assumption))) | exact h_)) : Aside0 (Below w.heap.size w w2) := ⟨below_step (hs h.out) k⟩
theorem geN {w W W' : World} {g : Nat} (h : Aside0 (Below w.heap.size w W)) (hg : g = W'.heap.size) (hs : Below w.heap.size w W → Below w.heap.size w W' := by intro h_; repeat (first | (with_reducible first | exact h_ | apply below_alloc | apply pw_below_drewN | apply below_drew1 | refine below_set ?_ (Aside0.out (by assumption))) | exact h_)) : Aside0 (w.heap.size ≤ g) := ⟨by rw [hg]; exact below_size (hs h.out)⟩
theorem goesM_ {P : Program} {ops : Array Oper} {Q : Exit → Act → World → Prop} {rest : List Oper} {oi : Oper} {a : Act} {w : World} (N : Option Tmp) {f : FuncId} {fn : Func} {as_ : Array Operand} {ts : Array TypeId} (hf : P.funcs[f]? = some fn) (args : Array Value)
    (h : Calls P f args w fun e w' => ∃ v, e = .returned v ∧ wpList P ops Q rest (a.put N v) w') (hd : oi.dst = N := by rfl) (hg : oi.guard = none := by rfl) (hop : oi.op = .call { callee := .value (.func f), args := as_, argTypes := ts } := by rfl) (hname : (fn.name == "runtime.NumGoroutine") = false := by kernel_rfl) (hb : fn.body.isSome = true := by rfl)
    (hargs : as_.map a.eval = args := by (try simp only [List.map_toArray, List.map_cons, List.map_nil]); first | done | rfl | (simp only [List.length_drop, List.length_take]; rfl)) : wpList P ops Q (oi :: rest) a w := goesL_ N hd hg hf hname hb args hop hargs h
theorem goesN_ {P : Program} {ops : Array Oper} {Q : Exit → Act → World → Prop} {oi : Oper} {N : Option Tmp} {a : Act} {w : World} {K : Act → World → Prop} {f : FuncId} {fn : Func} {as_ : Array Operand} {ts : Array TypeId} (hf : P.funcs[f]? = some fn) (args : Array Value)
    (h : Calls P f args w fun e w' => ∃ v, e = .returned v ∧ K (a.put N v) w') (hw : Region.wanted oi (yielded ops a.tmps) = true := by rfl) (hN : oi.dst = N := by rfl) (hop : oi.op = .call { callee := .value (.func f), args := as_, argTypes := ts } := by rfl) (hname : (fn.name == "runtime.NumGoroutine") = false := by kernel_rfl) (hb : fn.body.isSome = true := by rfl)
    (hargs : as_.map a.eval = args := by (try simp only [List.map_toArray, List.map_cons, List.map_nil]); first | done | rfl | (simp only [List.length_drop, List.length_take]; rfl)) : if Region.wanted oi (yielded ops a.tmps) = true then Oper.wp P oi a w K Q else K (a.put N undef) w := goes_ hf hname hb args hw hN hop hargs h
theorem pS {α : Type} {KD : Kd α} {t base : Nat} {w w' : World} {ok : Nat → Prop} {v : Value} {xs : List α} (h : Aside0 (Kd.S KD t w base ok v xs)) (hs : Kd.S KD t w base ok v xs → Kd.S KD t w' base ok v xs := by intro h_; (with_reducible repeat (first | apply Kd.S_alloc | apply Kd.S_drewN | apply Kd.S_drew)); exact h_) : Kd.S KD t w' base ok v xs := hs h.out
theorem pV {α : Type} {KD : Kd α} {t base : Nat} {w w' : World} {ok : Nat → Prop} {v : Value} {xs : List α} (h : Aside0 (Kd.V KD t w base ok v xs)) (hs : Kd.V KD t w base ok v xs → Kd.V KD t w' base ok v xs := by intro h_; (with_reducible repeat (first | apply Kd.V_alloc | apply Kd.V_drewN | apply Kd.V_drew)); exact h_) : Kd.V KD t w' base ok v xs := hs h.out
theorem pR {α : Type} {KD : Kd α} {t base : Nat} {w w' : World} {ok : Nat → Prop} {v : Value} {xs : List α} (h : Aside0 (Kd.R KD t w base ok v xs)) (hs : Kd.R KD t w base ok v xs → Kd.R KD t w' base ok v xs := by intro h_; (with_reducible repeat (first | apply Kd.R_alloc | apply Kd.R_drewN | apply Kd.R_drew)); exact h_) : Kd.R KD t w' base ok v xs := hs h.out
def mkB (n bits : Nat) : Array Bool := ((List.range n).map (fun i => bits.testBit i)).toArray
end Go.Proofs.Yteaeigpeaneicaa.G
end

section
/- The document's hash functions as plain functions on whole numbers. -/
namespace Go.Proofs.YteaeigpeaneicaaPlain
open Go Go.RowKit Go.Proofs.YteaeigpeaneicaaW.PrintWords

def fP : Int := 2305843009213693951
/-- Four bytes as a number; noughts behind the end. -/
def hword (s : ByteArray) (i : Int) : Int := ((bt s i * 256 + bt s (i + 1)) * 256 + bt s (i + 2)) * 256 + bt s (i + 3)
/-- What is reckoned of the first n words. -/
def hpoly (a : Int) (s : ByteArray) : Nat → Int
  | 0 => (s.size : Int) % 2305843009213693951
  | n + 1 => (hpoly a s n * a + (hword s (4 * (n : Int)) + 1)) % 2305843009213693951
def nwords (s : ByteArray) : Nat := (s.size + 3) / 4
def hsum (seed : Int) (s : ByteArray) : Int := (hpoly ((seed + 2) % 2305843009213693951) s (nwords s) * ((seed + 2) % 2305843009213693951) % 2305843009213693951) ^ 17 % 2305843009213693951
def hrow (seed i : Int) : Int := (((seed + 3) * ((if i < 0 then 0 else i) + 2) + 5) % 2305843009213693951) ^ 2 % 2305843009213693951
def hcell (seed : Int) (s : ByteArray) (n : Int) : Int := if n < 1 then 0 else hsum seed s % n
def hsign (seed : Int) (s : ByteArray) : Int := hsum seed s % 2 * 2 - 1

theorem hsum_range (seed : Int) (s : ByteArray) : 0 ≤ hsum seed s ∧ hsum seed s < 2305843009213693951 := by
  unfold hsum; omega
theorem hrow_range (seed i : Int) : 0 ≤ hrow seed i ∧ hrow seed i < 2305843009213693951 := by
  unfold hrow; omega
theorem hcell_range (seed : Int) (s : ByteArray) (n : Int) (h : 1 ≤ n) : 0 ≤ hcell seed s n ∧ hcell seed s n < n := by
  unfold hcell
  rw [if_neg (by omega)]
  exact ⟨Int.emod_nonneg _ (by omega), Int.emod_lt_of_pos _ (by omega)⟩
theorem hsign_or (seed : Int) (s : ByteArray) : hsign seed s = 1 ∨ hsign seed s = -1 := by
  unfold hsign; omega
theorem hword_range (s : ByteArray) (i : Int) : 0 ≤ hword s i ∧ hword s i < 4294967296 := by
  have a := bt_range s i; have b := bt_range s (i + 1); have c := bt_range s (i + 2); have d := bt_range s (i + 3)
  unfold hword; omega
theorem hpoly_range (a : Int) (s : ByteArray) (n : Nat) : 0 ≤ hpoly a s n ∧ hpoly a s n < 2305843009213693951 := by
  cases n with
  | zero => unfold hpoly; omega
  | succ n => unfold hpoly; omega

/-! numbers of 64 bits -/
theorem u64w (x : Int) : IntKind.u64.wrap x = x % 18446744073709551616 := by simp [IntKind.wrap, IntKind.bits, IntKind.signed]
theorem u64_id {x : Int} (h0 : 0 ≤ x) (h1 : x < 18446744073709551616) : IntKind.u64.wrap x = x := by rw [u64w]; omega
theorem w64_id {x : Int} (h0 : -9223372036854775808 ≤ x) (h1 : x < 9223372036854775808) : wrap64 x = x := by unfold wrap64; omega
theorem and_low (x : Int) (n : Nat) (hn : n ≤ 63) (h0 : 0 ≤ x) (h1 : x < 18446744073709551616) : Go.bits .and .u64 x ((2 ^ n - 1 : Nat) : Int) = x % ((2 ^ n : Nat) : Int) := by
  have hp : 2 ^ n ≤ 2 ^ 63 := Nat.pow_le_pow_right (by omega) hn
  have hq : 2 ^ 63 = 9223372036854775808 := by decide
  rw [u64_and x _ h0 h1 (by omega) (by omega)]
  rw [show ((2 ^ n - 1 : Nat) : Int).toNat = 2 ^ n - 1 by omega, Nat.and_two_pow_sub_one_eq_mod]
  obtain ⟨m, rfl⟩ := Int.eq_ofNat_of_zero_le h0
  simp
theorem and_P (x : Int) (h0 : 0 ≤ x) (h1 : x < 18446744073709551616) : Go.bits .and .u64 x 2305843009213693951 = x % 2305843009213693952 := and_low x 61 (by omega) h0 h1
theorem and_32 (x : Int) (h0 : 0 ≤ x) (h1 : x < 18446744073709551616) : Go.bits .and .u64 x 4294967295 = x % 4294967296 := and_low x 32 (by omega) h0 h1
theorem and_1 (x : Int) (h0 : 0 ≤ x) (h1 : x < 18446744073709551616) : Go.bits .and .u64 x 1 = x % 2 := and_low x 1 (by omega) h0 h1
theorem or_join (x y : Int) (n : Nat) (hx0 : 0 ≤ x) (hx1 : x < 18446744073709551616) (hx : x % ((2 ^ n : Nat) : Int) = 0) (hy0 : 0 ≤ y) (hy1 : y < ((2 ^ n : Nat) : Int)) (hy2 : y < 18446744073709551616) : Go.bits .or .u64 x y = x + y := by
  rw [u64_or x y hx0 hx1 hy0 hy2]
  obtain ⟨a, rfl⟩ := Int.eq_ofNat_of_zero_le hx0
  obtain ⟨b, rfl⟩ := Int.eq_ofNat_of_zero_le hy0
  have h := nat_join n a b (by omega) (by omega)
  simp only [Int.toNat_natCast]
  rw [h]
  simp
theorem or_join' (x y : Int) (n : Nat) (hx0 : 0 ≤ x) (hx1 : x < 18446744073709551616) (hx : x % ((2 ^ n : Nat) : Int) = 0) (hy0 : 0 ≤ y) (hy1 : y < ((2 ^ n : Nat) : Int)) (hy2 : y < 18446744073709551616) : Go.bits .or .u64 y x = y + x := by
  rw [u64_or y x hy0 hy2 hx0 hx1]
  obtain ⟨a, rfl⟩ := Int.eq_ofNat_of_zero_le hx0
  obtain ⟨b, rfl⟩ := Int.eq_ofNat_of_zero_le hy0
  have h := nat_join n a b (by omega) (by omega)
  simp only [Int.toNat_natCast]
  rw [Nat.or_comm, h]
  simp; omega
theorem int_sq (x : Int) : x ^ 2 = x * x := by rw [Int.pow_succ, Int.pow_succ, Int.pow_zero, Int.one_mul]
theorem emod_pow (a n : Int) (k : Nat) : (a % n) ^ k % n = a ^ k % n := by
  induction k with
  | zero => simp
  | succ k ih => rw [Int.pow_succ, Int.pow_succ, Int.mul_emod, ih, Int.emod_emod_of_dvd _ (Int.dvd_refl n), ← Int.mul_emod]
end Go.Proofs.YteaeigpeaneicaaPlain
end

section
-- Printed by gprint.py: a program of this session over the kit's print. Not trusted: Lean checks it.
namespace Go.Proofs.Yteaeigpeaneicaa.G
open Go.RowKit Go.Proofs.YteaeigpeaneicaaW.PrintWords Go.Proofs.YteaeigpeaneicaaW.PrintLast Go.Proofs.YteaeigpeaneicaaW.PrintMore
attribute [local go_sem] max2_int min2_int max_two min_two max_three min_three max_four min_four   -- for this text's walks alone
set_option linter.unusedVariables false
set_option linter.unusedSimpArgs false



def errW : Option Int → Value
  | none => .nilIface
  | some c => .iface 0 (.int .i64 c)
theorem errW_none : errW none = .nilIface := rfl
theorem errW_some (c : Int) : errW (some c) = .iface 0 (.int .i64 c) := rfl

theorem info3 : (Try.prog.info? 3).map (fun i => (i.zero, i.size, i.bytes)) = some (some (.int .i64 0), 1, 8) := by kernel_rfl
theorem info5 : (Try.prog.info? 5).map (fun i => (i.zero, i.size, i.bytes)) = some (some (.int .u8 0), 1, 1) := by kernel_rfl
theorem info22 : (Try.prog.info? 22).map (fun i => (i.zero, i.size, i.bytes)) = some (some (.int .u64 0), 1, 8) := by kernel_rfl
theorem info33 : (Try.prog.info? 33).map (fun i => (i.zero, i.size, i.bytes)) = some (some (.slice none 0 0), 1, 24) := by kernel_rfl
theorem info52 : (Try.prog.info? 52).map (fun i => (i.zero, i.size, i.bytes)) = some (some (.agg #[(.string ⟨#[]⟩), (.int .i64 0)]), 2, 24) := by kernel_rfl
-- the values' own types
def rd_L1 (xs : List (List Int)) (i : Int) : (List Int) := xs.getD i.toNat ([] : List Int)
theorem at_L1 {w : World} {A : Option Addr} {n : Nat} {xs : List (List Int)} (h : Kd.C (Kd.slice 3 (Kd.int .i64)) w A n xs) (i : Int) (h0 : 0 ≤ i) (h1 : i < n) : ∃ ad A0 c0, A = some ad ∧ w.cell? (ad.add i.toNat) = some (.slice A0 (rd_L1 xs i).length c0) ∧ (rd_L1 xs i).length ≤ c0 ∧ (Kd.int .i64).C w A0 (rd_L1 xs i).length (rd_L1 xs i) := by
  obtain ⟨ad, c, e, _, hK, hc0⟩ := Kd.C_get h ([] : List Int) i h0 h1
  have hc : ∀ j u, c[j]? = some u → w.cell? (ad.add (i.toNat * 1 + j)) = some u := hc0
  obtain ⟨A0, c0, rfl, l0, g0⟩ := hK
  exact ⟨ad, A0, c0, e, by have hq := hc 0 _ rfl; rwa [Nat.mul_one, Nat.add_zero] at hq, l0, g0⟩

def rd_L2 (xs : List (List (List Int))) (i : Int) : (List (List Int)) := xs.getD i.toNat ([] : List (List Int))
theorem at_L2 {w : World} {A : Option Addr} {n : Nat} {xs : List (List (List Int))} (h : Kd.C (Kd.slice 33 (Kd.slice 3 (Kd.int .i64))) w A n xs) (i : Int) (h0 : 0 ≤ i) (h1 : i < n) : ∃ ad A0 c0, A = some ad ∧ w.cell? (ad.add i.toNat) = some (.slice A0 (rd_L2 xs i).length c0) ∧ (rd_L2 xs i).length ≤ c0 ∧ (Kd.slice 3 (Kd.int .i64)).C w A0 (rd_L2 xs i).length (rd_L2 xs i) := by
  obtain ⟨ad, c, e, _, hK, hc0⟩ := Kd.C_get h ([] : List (List Int)) i h0 h1
  have hc : ∀ j u, c[j]? = some u → w.cell? (ad.add (i.toNat * 1 + j)) = some u := hc0
  obtain ⟨A0, c0, rfl, l0, g0⟩ := hK
  exact ⟨ad, A0, c0, e, by have hq := hc 0 _ rfl; rwa [Nat.mul_one, Nat.add_zero] at hq, l0, g0⟩

/-! #### struct type 25 -/
structure S25 where
  f0 : Int
  f1 : (List (List Int))
def z25 : S25 := ⟨(0 : Int), ([] : List (List Int))⟩
def k25 : Kd S25 := Kd.iso (Kd.pair (Kd.int .u64) (Kd.slice 33 (Kd.slice 3 (Kd.int .i64)))) (fun x : S25 => (x.f0, x.f1))
theorem k25_heap : Kd.Heap k25 := Kd.heap_iso _ (Kd.heap_pair (Kd.heap_int .u64) (Kd.heap_slice 33 (Kd.heap_slice 3 (Kd.heap_int .i64))))
theorem k25_open {w : World} {x : S25} {cs : List Value} (h : k25.K w x cs) : ∃ A1 c1, cs = [.int .u64 x.f0, .slice A1 x.f1.length c1] ∧ x.f1.length ≤ c1 ∧ (Kd.slice 3 (Kd.int .i64)).C w A1 x.f1.length x.f1 := by
  obtain ⟨_, _, rfl, rfl, ⟨A1, c1, rfl, l1, g1⟩⟩ := h
  exact ⟨A1, c1, rfl, l1, g1⟩
theorem k25_openM {w : World} {base : Nat} {ok : Nat → Prop} {x : S25} {cs : List Value} (h : k25.M w base ok x cs) : ∃ v1, cs = [.int .u64 x.f0, v1] ∧ (Kd.slice 3 (Kd.int .i64)).R 33 w base ok v1 x.f1 := by
  obtain ⟨_, _, rfl, rfl, ⟨v1, rfl, g1⟩⟩ := h
  exact ⟨v1, rfl, g1⟩
theorem k25_mk (w : World) (x : S25) {A1 : Option Addr} {c1 : Nat} (l1 : x.f1.length ≤ c1) (g1 : (Kd.slice 3 (Kd.int .i64)).C w A1 x.f1.length x.f1) : k25.K w x [.int .u64 x.f0, .slice A1 x.f1.length c1] := ⟨[.int .u64 x.f0], [.slice A1 x.f1.length c1], rfl, rfl, ⟨A1, c1, rfl, l1, g1⟩⟩
theorem k25_mkM (w : World) (base : Nat) (ok : Nat → Prop) (x : S25) {v1 : Value} (g1 : (Kd.slice 3 (Kd.int .i64)).R 33 w base ok v1 x.f1) : k25.M w base ok x [.int .u64 x.f0, v1] := ⟨[.int .u64 x.f0], [v1], rfl, rfl, ⟨v1, rfl, g1⟩⟩
theorem k25_openF {W : World} {ok : Nat → Prop} {x : S25} {cs : List Value} (h : Kd.FK k25 W ok x cs) : ∃ A1 c1, cs = [.int .u64 x.f0, .slice A1 x.f1.length c1] ∧ x.f1.length ≤ c1 ∧ Kd.F (Kd.slice 3 (Kd.int .i64)) W ok A1 x.f1.length x.f1 := by
  obtain ⟨A1, c1, rfl, l1, _⟩ := k25_open (Kd.FK_now h)
  exact ⟨A1, c1, rfl, l1, (fun W' hW => by obtain ⟨A1_, c1_, he, l1_, g1_⟩ := k25_open (h W' hW); injection (Option.some.inj (show some (Value.slice A1 x.f1.length c1) = some (Value.slice A1_ x.f1.length c1_) from congrArg (fun l => l[1]?) he)) with ha_ _ _; rw [ha_]; exact g1_)⟩
theorem k25_mkF (W : World) (ok : Nat → Prop) (x : S25) {A1 : Option Addr} {c1 : Nat} (l1 : x.f1.length ≤ c1) (g1 : Kd.F (Kd.slice 3 (Kd.int .i64)) W ok A1 x.f1.length x.f1) : Kd.FK k25 W ok x [.int .u64 x.f0, .slice A1 x.f1.length c1] := fun W2 hW => k25_mk W2 x l1 (g1 W2 hW)
def rd_T25 (xs : List S25) (i : Int) : S25 := xs.getD i.toNat z25
theorem at_T25 {w : World} {A : Option Addr} {n : Nat} {xs : List S25} (h : Kd.C k25 w A n xs) (i : Int) (h0 : 0 ≤ i) (h1 : i < n) : ∃ ad A1 c1, A = some ad ∧ w.cell? (ad.add (i.toNat * 2)) = some (.int .u64 (rd_T25 xs i).f0) ∧ w.cell? ⟨(ad.add (i.toNat * 2)).block, (ad.add (i.toNat * 2)).off + 1, none⟩ = some (.slice A1 (rd_T25 xs i).f1.length c1) ∧ (rd_T25 xs i).f1.length ≤ c1 ∧ (Kd.slice 3 (Kd.int .i64)).C w A1 (rd_T25 xs i).f1.length (rd_T25 xs i).f1 := by
  obtain ⟨ad, c, e, _, hK, hc0⟩ := Kd.C_get h z25 i h0 h1
  have hc : ∀ j u, c[j]? = some u → w.cell? (ad.add (i.toNat * 2 + j)) = some u := hc0
  obtain ⟨A1, c1, rfl, l1, g1⟩ := k25_open hK
  exact ⟨ad, A1, c1, e, hc 0 _ rfl, by rw [← add_field _ _ 1 (by omega)]; exact hc 1 _ rfl, l1, g1⟩

/-! #### struct type 52 -/
structure S52 where
  f0 : ByteArray
  f1 : Int
def z52 : S52 := ⟨(⟨#[]⟩ : ByteArray), (0 : Int)⟩
def k52 : Kd S52 := Kd.iso (Kd.pair Kd.string (Kd.int .i64)) (fun x : S52 => (x.f0, x.f1))
theorem k52_heap : Kd.Heap k52 := Kd.heap_iso _ (Kd.heap_pair Kd.heap_string (Kd.heap_int .i64))
theorem k52_open {w : World} {x : S52} {cs : List Value} (h : k52.K w x cs) : cs = [.string x.f0, .int .i64 x.f1] := by
  obtain ⟨_, _, rfl, rfl, rfl⟩ := h
  exact rfl
theorem k52_openM {w : World} {base : Nat} {ok : Nat → Prop} {x : S52} {cs : List Value} (h : k52.M w base ok x cs) : cs = [.string x.f0, .int .i64 x.f1] := by
  obtain ⟨_, _, rfl, rfl, rfl⟩ := h
  exact rfl
theorem k52_mk (w : World) (x : S52)  : k52.K w x [.string x.f0, .int .i64 x.f1] := ⟨[.string x.f0], [.int .i64 x.f1], rfl, rfl, rfl⟩
theorem k52_mkM (w : World) (base : Nat) (ok : Nat → Prop) (x : S52)  : k52.M w base ok x [.string x.f0, .int .i64 x.f1] := ⟨[.string x.f0], [.int .i64 x.f1], rfl, rfl, rfl⟩
theorem k52_mkF (W : World) (ok : Nat → Prop) (x : S52) : Kd.FK k52 W ok x [.string x.f0, .int .i64 x.f1] := fun W2 _ => k52_mk W2 x
def rd_T52 (xs : List S52) (i : Int) : S52 := xs.getD i.toNat z52
theorem at_T52 {w : World} {A : Option Addr} {n : Nat} {xs : List S52} (h : Kd.C k52 w A n xs) (i : Int) (h0 : 0 ≤ i) (h1 : i < n) : ∃ ad , A = some ad ∧ w.cell? (ad.add (i.toNat * 2)) = some (.string (rd_T52 xs i).f0) ∧ w.cell? ⟨(ad.add (i.toNat * 2)).block, (ad.add (i.toNat * 2)).off + 1, none⟩ = some (.int .i64 (rd_T52 xs i).f1) := by
  obtain ⟨ad, c, e, _, hK, hc0⟩ := Kd.C_get h z52 i h0 h1
  have hc : ∀ j u, c[j]? = some u → w.cell? (ad.add (i.toNat * 2 + j)) = some u := hc0
  obtain rfl := k52_open hK
  exact ⟨ad, e, hc 0 _ rfl, by rw [← add_field _ _ 1 (by omega)]; exact hc 1 _ rfl⟩

end Go.Proofs.Yteaeigpeaneicaa.G
end

section
-- Printed by gprint.py: a program of this session over the kit's print. Not trusted: Lean checks it.
namespace Go.Proofs.Yteaeigpeaneicaa.G
open Go.RowKit Go.Proofs.YteaeigpeaneicaaW.PrintWords Go.Proofs.YteaeigpeaneicaaW.PrintLast Go.Proofs.YteaeigpeaneicaaW.PrintMore
attribute [local go_sem] max2_int min2_int max_two min_two max_three min_three max_four min_four   -- for this text's walks alone
set_option linter.unusedVariables false
set_option linter.unusedSimpArgs false

/-! ### field_Of: function 69 -/
def field_Of.f (a0 : Int) : Option (Int) := if (IntKind.u64.wrap ((Go.bits .and .u64 a0 2305843009213693951) + (a0 / 2305843009213693952))) ≥ 2305843009213693951 then (some (IntKind.u64.wrap ((IntKind.u64.wrap ((Go.bits .and .u64 a0 2305843009213693951) + (a0 / 2305843009213693952))) - 2305843009213693951))) else (some (IntKind.u64.wrap ((Go.bits .and .u64 a0 2305843009213693951) + (a0 / 2305843009213693952))))
set_option maxHeartbeats 8000000 in
set_option maxRecDepth 100000 in
theorem field_Of.calls (a0 : Int) (r : Int) (w : World) (h : field_Of.f a0 = some r) :
    Calls Try.prog 69 #[.int .u64 a0] w fun e w' => e = .returned (.int .u64 r) ∧ Drawn0 w w' := by
  have H : (if (IntKind.u64.wrap ((Go.bits .and .u64 a0 2305843009213693951) + (a0 / 2305843009213693952))) ≥ 2305843009213693951 then (some (IntKind.u64.wrap ((IntKind.u64.wrap ((Go.bits .and .u64 a0 2305843009213693951) + (a0 / 2305843009213693952))) - 2305843009213693951))) else (some (IntKind.u64.wrap ((Go.bits .and .u64 a0 2305843009213693951) + (a0 / 2305843009213693952))))) = some r := h
  clear h
  by_cases c2 : (IntKind.u64.wrap ((Go.bits .and .u64 a0 2305843009213693951) + (a0 / 2305843009213693952))) ≥ 2305843009213693951
  · rw [if_pos c2] at H
    have c2b0 : decide (2305843009213693951 ≤ (IntKind.u64.wrap ((Go.bits .and .u64 a0 2305843009213693951) + (a0 / 2305843009213693952)))) = true := decide_eq_true c2
    clear c2
    obtain rfl := Option.some.inj H
    go_enter Try.func69, Try.ntmps69
    go_wp2
    go_ret
    exact ⟨by first | rfl | (simp; done) | (simp [*]; done), by repeat (first | exact Drawn0.refl _ | apply Drawn0.step)⟩
  · rw [if_neg c2] at H
    have c2b0 : decide (2305843009213693951 ≤ (IntKind.u64.wrap ((Go.bits .and .u64 a0 2305843009213693951) + (a0 / 2305843009213693952)))) = false := decide_eq_false c2
    clear c2
    obtain rfl := Option.some.inj H
    go_enter Try.func69, Try.ntmps69
    go_wp2
    go_ret
    exact ⟨by first | rfl | (simp; done) | (simp [*]; done), by repeat (first | exact Drawn0.refl _ | apply Drawn0.step)⟩

end Go.Proofs.Yteaeigpeaneicaa.G
end

section
-- Printed by gprint.py: a program of this session over the kit's print. Not trusted: Lean checks it.
namespace Go.Proofs.Yteaeigpeaneicaa.G
open Go.RowKit Go.Proofs.YteaeigpeaneicaaW.PrintWords Go.Proofs.YteaeigpeaneicaaW.PrintLast Go.Proofs.YteaeigpeaneicaaW.PrintMore
attribute [local go_sem] max2_int min2_int max_two min_two max_three min_three max_four min_four   -- for this text's walks alone
set_option linter.unusedVariables false
set_option linter.unusedSimpArgs false

/-! ### bits_Mul64: function 70 -/
def bits_Mul64.f (a0 : Int) (a1 : Int) : Option (Int × Int) := some (IntKind.u64.wrap ((IntKind.u64.wrap ((IntKind.u64.wrap ((a0 / 4294967296) * (a1 / 4294967296))) + ((IntKind.u64.wrap ((IntKind.u64.wrap ((a0 / 4294967296) * (Go.bits .and .u64 a1 4294967295))) + ((IntKind.u64.wrap ((Go.bits .and .u64 a0 4294967295) * (Go.bits .and .u64 a1 4294967295))) / 4294967296))) / 4294967296))) + ((IntKind.u64.wrap ((Go.bits .and .u64 (IntKind.u64.wrap ((IntKind.u64.wrap ((a0 / 4294967296) * (Go.bits .and .u64 a1 4294967295))) + ((IntKind.u64.wrap ((Go.bits .and .u64 a0 4294967295) * (Go.bits .and .u64 a1 4294967295))) / 4294967296))) 4294967295) + (IntKind.u64.wrap ((Go.bits .and .u64 a0 4294967295) * (a1 / 4294967296))))) / 4294967296)), IntKind.u64.wrap (a0 * a1))
set_option maxHeartbeats 8000000 in
set_option maxRecDepth 100000 in
theorem bits_Mul64.calls (a0 : Int) (a1 : Int) (r1 : Int) (r2 : Int) (w : World) (h : bits_Mul64.f a0 a1 = some (r1, r2)) :
    Calls Try.prog 70 #[.int .u64 a0, .int .u64 a1] w fun e w' => e = .returned (.tuple #[.int .u64 r1, .int .u64 r2]) ∧ Drawn0 w w' := by
  have H : (some (IntKind.u64.wrap ((IntKind.u64.wrap ((IntKind.u64.wrap ((a0 / 4294967296) * (a1 / 4294967296))) + ((IntKind.u64.wrap ((IntKind.u64.wrap ((a0 / 4294967296) * (Go.bits .and .u64 a1 4294967295))) + ((IntKind.u64.wrap ((Go.bits .and .u64 a0 4294967295) * (Go.bits .and .u64 a1 4294967295))) / 4294967296))) / 4294967296))) + ((IntKind.u64.wrap ((Go.bits .and .u64 (IntKind.u64.wrap ((IntKind.u64.wrap ((a0 / 4294967296) * (Go.bits .and .u64 a1 4294967295))) + ((IntKind.u64.wrap ((Go.bits .and .u64 a0 4294967295) * (Go.bits .and .u64 a1 4294967295))) / 4294967296))) 4294967295) + (IntKind.u64.wrap ((Go.bits .and .u64 a0 4294967295) * (a1 / 4294967296))))) / 4294967296)), IntKind.u64.wrap (a0 * a1))) = some (r1, r2) := h
  clear h
  simp only [Option.some.injEq, Prod.mk.injEq] at H
  obtain ⟨rfl, rfl⟩ := H
  go_enter Try.func70, Try.ntmps70
  go_wp2
  go_ret2
  exact ⟨by first | rfl | (simp; done) | (simp [*]; done), by repeat (first | exact Drawn0.refl _ | apply Drawn0.step)⟩

end Go.Proofs.Yteaeigpeaneicaa.G
end

section
-- Printed by gprint.py: a program of this session over the kit's print. Not trusted: Lean checks it.
namespace Go.Proofs.Yteaeigpeaneicaa.G
open Go.RowKit Go.Proofs.YteaeigpeaneicaaW.PrintWords Go.Proofs.YteaeigpeaneicaaW.PrintLast Go.Proofs.YteaeigpeaneicaaW.PrintMore
attribute [local go_sem] max2_int min2_int max_two min_two max_three min_three max_four min_four   -- for this text's walks alone
set_option linter.unusedVariables false
set_option linter.unusedSimpArgs false

/-! ### field_Mul: function 54 -/
def field_Mul.f (a0 : Int) (a1 : Int) : Option (Int) := (field_Of.f a0).bind fun t134 => ((field_Of.f a1).bind fun t135 => ((bits_Mul64.f t134 t135).bind fun bt136 => ((field_Of.f (IntKind.u64.wrap ((Go.bits .and .u64 bt136.2 2305843009213693951) + (Go.bits .or .u64 (bt136.2 / 2305843009213693952) (IntKind.u64.wrap (bt136.1 * 8)))))).bind fun t138 => (some t138))))
set_option maxHeartbeats 8000000 in
set_option maxRecDepth 100000 in
theorem field_Mul.calls (a0 : Int) (a1 : Int) (r : Int) (w : World) (h : field_Mul.f a0 a1 = some r) :
    Calls Try.prog 54 #[.int .u64 a0, .int .u64 a1] w fun e w' => e = .returned (.int .u64 r) ∧ Drawn0 w w' := by
  have H : ((field_Of.f a0).bind fun t134 => ((field_Of.f a1).bind fun t135 => ((bits_Mul64.f t134 t135).bind fun bt136 => ((field_Of.f (IntKind.u64.wrap ((Go.bits .and .u64 bt136.2 2305843009213693951) + (Go.bits .or .u64 (bt136.2 / 2305843009213693952) (IntKind.u64.wrap (bt136.1 * 8)))))).bind fun t138 => (some t138))))) = some r := h
  clear h
  replace H := Option.bind_eq_some_iff.mp H
  obtain ⟨t134, A30, H⟩ := H
  replace H : ((field_Of.f a1).bind fun t135 => ((bits_Mul64.f t134 t135).bind fun bt136 => ((field_Of.f (IntKind.u64.wrap ((Go.bits .and .u64 bt136.2 2305843009213693951) + (Go.bits .or .u64 (bt136.2 / 2305843009213693952) (IntKind.u64.wrap (bt136.1 * 8)))))).bind fun t138 => (some t138)))) = some r := H
  have A3 := Aside0.mk A30
  clear A30
  replace H := Option.bind_eq_some_iff.mp H
  obtain ⟨t135, A40, H⟩ := H
  replace H : ((bits_Mul64.f t134 t135).bind fun bt136 => ((field_Of.f (IntKind.u64.wrap ((Go.bits .and .u64 bt136.2 2305843009213693951) + (Go.bits .or .u64 (bt136.2 / 2305843009213693952) (IntKind.u64.wrap (bt136.1 * 8)))))).bind fun t138 => (some t138))) = some r := H
  have A4 := Aside0.mk A40
  clear A40
  replace H := Option.bind_eq_some_iff.mp H
  obtain ⟨⟨t136, t137⟩, A50, H⟩ := H
  replace H : ((field_Of.f (IntKind.u64.wrap ((Go.bits .and .u64 t137 2305843009213693951) + (Go.bits .or .u64 (t137 / 2305843009213693952) (IntKind.u64.wrap (t136 * 8)))))).bind fun t138 => (some t138)) = some r := H
  have A5 := Aside0.mk A50
  clear A50
  replace H := Option.bind_eq_some_iff.mp H
  obtain ⟨t138, A60, H⟩ := H
  replace H : (some t138) = some r := H
  have A6 := Aside0.mk A60
  clear A60
  obtain rfl := Option.some.inj H
  go_enter Try.func54, Try.ntmps54
  go_wp2_with (first | ((with_reducible refine gate_callee (f := 69) rfl ?_); refine goesL_ (some 9) rfl rfl Try.func69 (by kernel_rfl) rfl #[.int .u64 a0] rfl (by (try simp only [List.map_toArray, List.map_cons, List.map_nil]); first | done | rfl | (simp only [List.length_drop, List.length_take]; rfl)) ?_; (with_reducible refine (field_Of.calls a0 t134 _ A3.out).mono ?_); rintro e w' ⟨rfl, ⟨nd, rfl⟩⟩; refine ⟨_, rfl, ?_⟩) | ((with_reducible refine gate_callee (f := 69) rfl ?_); refine goesL_ (some 11) rfl rfl Try.func69 (by kernel_rfl) rfl #[.int .u64 a1] rfl (by (try simp only [List.map_toArray, List.map_cons, List.map_nil]); first | done | rfl | (simp only [List.length_drop, List.length_take]; rfl)) ?_; (with_reducible refine (field_Of.calls a1 t135 _ A4.out).mono ?_); rintro e w' ⟨rfl, ⟨nd, rfl⟩⟩; refine ⟨_, rfl, ?_⟩) | ((with_reducible refine gate_callee (f := 70) rfl ?_); refine goesL_ (some 12) rfl rfl Try.func70 (by kernel_rfl) rfl #[.int .u64 t134, .int .u64 t135] rfl (by (try simp only [List.map_toArray, List.map_cons, List.map_nil]); first | done | rfl | (simp only [List.length_drop, List.length_take]; rfl)) ?_; (with_reducible refine (bits_Mul64.calls t134 t135 t136 t137 _ A5.out).mono ?_); rintro e w' ⟨rfl, ⟨nd, rfl⟩⟩; refine ⟨_, rfl, ?_⟩) | ((with_reducible refine gate_callee (f := 69) rfl ?_); refine goesL_ (some 23) rfl rfl Try.func69 (by kernel_rfl) rfl #[.int .u64 (IntKind.u64.wrap ((Go.bits .and .u64 t137 2305843009213693951) + (Go.bits .or .u64 (t137 / 2305843009213693952) (IntKind.u64.wrap (t136 * 8)))))] rfl (by (try simp only [List.map_toArray, List.map_cons, List.map_nil]); first | done | rfl | (simp only [List.length_drop, List.length_take]; rfl)) ?_; (with_reducible refine (field_Of.calls (IntKind.u64.wrap ((Go.bits .and .u64 t137 2305843009213693951) + (Go.bits .or .u64 (t137 / 2305843009213693952) (IntKind.u64.wrap (t136 * 8))))) t138 _ A6.out).mono ?_); rintro e w' ⟨rfl, ⟨nd, rfl⟩⟩; refine ⟨_, rfl, ?_⟩))
  go_ret
  exact ⟨by first | rfl | (simp; done) | (simp [*]; done), by repeat (first | exact Drawn0.refl _ | apply Drawn0.step)⟩

end Go.Proofs.Yteaeigpeaneicaa.G
end

section
-- Printed by gprint.py: a program of this session over the kit's print. Not trusted: Lean checks it.
namespace Go.Proofs.Yteaeigpeaneicaa.G
open Go.RowKit Go.Proofs.YteaeigpeaneicaaW.PrintWords Go.Proofs.YteaeigpeaneicaaW.PrintLast Go.Proofs.YteaeigpeaneicaaW.PrintMore
attribute [local go_sem] max2_int min2_int max_two min_two max_three min_three max_four min_four   -- for this text's walks alone
set_option linter.unusedVariables false
set_option linter.unusedSimpArgs false

/-! ### field_Pow: function 68 -/
def field_Pow.l0 : Nat → Int → Int → Int → Option (Int)
  | 0, _, _, _ => none
  | k + 1, x0, x1, x5 => if x1 > 0 then (if (Go.bits .and .u64 x1 1) = 1 then ((field_Mul.f x5 x0).bind fun t140 => ((field_Mul.f x0 x0).bind fun t141 => (field_Pow.l0 k t141 (x1 / 2) t140))) else ((field_Mul.f x0 x0).bind fun t142 => (field_Pow.l0 k t142 (x1 / 2) x5))) else (some x5)
def field_Pow.f (k : Nat) (a0 : Int) (a1 : Int) : Option (Int) := (field_Of.f a0).bind fun t139 => (field_Pow.l0 k t139 a1 1)
theorem field_Pow.mono_l : ∀ k, (∀ y0 y1 y2, LeO (field_Pow.l0 k y0 y1 y2) (field_Pow.l0 (k + 1) y0 y1 y2))
  | 0 => fun _ _ _ r h => by simp [field_Pow.l0] at h
  | k + 1 => by
    have ih0 := field_Pow.mono_l k
    · intro y0 y1 y2
      unfold field_Pow.l0
      repeat' first
      | (with_reducible exact ih0 _ _ _)
      | (with_reducible exact LeO.refl _)
      | (with_reducible exact LeO.none _)
      | (with_reducible refine LeO.ite ?_ ?_)
      | (with_reducible refine LeO.bind ?_ (fun _ => ?_))
      | exact ih0 _ _ _
      | exact LeO.none _
      | refine LeO.ite ?_ ?_
      | refine LeO.bind ?_ (fun _ => ?_)
theorem field_Pow.mono : ∀ a0 a1 k, LeO (field_Pow.f k a0 a1) (field_Pow.f (k + 1) a0 a1) := by
  intro a0 a1 k
  have ih0 := field_Pow.mono_l k
  unfold field_Pow.f
  repeat' first
      | (with_reducible exact ih0 _ _ _)
      | (with_reducible exact LeO.refl _)
      | (with_reducible exact LeO.none _)
      | (with_reducible refine LeO.ite ?_ ?_)
      | (with_reducible refine LeO.bind ?_ (fun _ => ?_))
      | exact ih0 _ _ _
      | exact LeO.none _
      | refine LeO.ite ?_ ?_
      | refine LeO.bind ?_ (fun _ => ?_)
set_option maxHeartbeats 8000000 in
set_option maxRecDepth 100000 in
theorem field_Pow.calls (k : Nat) (a0 : Int) (a1 : Int) (r : Int) (w : World) (h : field_Pow.f k a0 a1 = some r) :
    Calls Try.prog 68 #[.int .u64 a0, .int .u64 a1] w fun e w' => e = .returned (.int .u64 r) ∧ Drawn0 w w' := by
  have H : ((field_Of.f a0).bind fun t139 => (field_Pow.l0 k t139 a1 1)) = some r := h
  clear h
  replace H := Option.bind_eq_some_iff.mp H
  obtain ⟨t139, A30, H⟩ := H
  replace H : (field_Pow.l0 k t139 a1 1) = some r := H
  have A3 := Aside0.mk A30
  clear A30
  have H' := Aside0.mk H
  clear H
  go_enter Try.func68, Try.ntmps68
  go_wp2_with (first | ((with_reducible refine gate_callee (f := 69) rfl ?_); refine goesL_ (some 7) rfl rfl Try.func69 (by kernel_rfl) rfl #[.int .u64 a0] rfl (by (try simp only [List.map_toArray, List.map_cons, List.map_nil]); first | done | rfl | (simp only [List.length_drop, List.length_take]; rfl)) ?_; (with_reducible refine (field_Of.calls a0 t139 _ A3.out).mono ?_); rintro e w' ⟨rfl, ⟨nd, rfl⟩⟩; refine ⟨_, rfl, ?_⟩))
  go_loopg [0, 1, 5] k (fun kq v0 v1 v5 w' => ∃ (x0_1 : Int) (x1_1 : Int) (x5_1 : Int), v0 = .int .u64 x0_1 ∧ v1 = .int .u64 x1_1 ∧ v5 = .int .u64 x5_1 ∧ Aside0 (field_Pow.l0 kq x0_1 x1_1 x5_1 = some r) ∧ Aside0 (kq ≤ k) ∧ Drawn0 w w')
  case atStart => exact ⟨(t139), (a1), (1), (by first | rfl | (simp; done) | (simp [*]; done)), (by first | rfl | (simp; done) | (simp [*]; done)), (by first | rfl | (simp; done) | (simp [*]; done)), H', ⟨Nat.le_refl _⟩, by repeat (first | exact Drawn0.refl _ | apply Drawn0.step)⟩
  case round =>
    clear H'
    try clear p2
    obtain ⟨x0_1, x1_1, x5_1, rfl, rfl, rfl, HA, HK1, ⟨m1, rfl⟩⟩ := hrel
    cases gk with
    | zero => exact absurd HA.out (by simp [field_Pow.l0])
    | succ k1 =>
      have H := HA.out
      clear HA
      simp only [field_Pow.l0] at H
      by_cases c4 : x1_1 > 0
      · rw [if_pos c4] at H
        have c4b0 : decide (0 < x1_1) = true := decide_eq_true c4
        clear c4
        by_cases c5 : (Go.bits .and .u64 x1_1 1) = 1
        · rw [if_pos c5] at H
          have c5b0 : ((Go.bits .and .u64 x1_1 1) == 1) = true := beq_iff_eq.mpr c5
          have c5b1 : ((Go.bits .and .u64 x1_1 1) != 1) = false := bne_eq_false_iff_eq.mpr c5
          clear c5
          replace H := Option.bind_eq_some_iff.mp H
          obtain ⟨t140, A60, H⟩ := H
          replace H : ((field_Mul.f x0_1 x0_1).bind fun t141 => (field_Pow.l0 k1 t141 (x1_1 / 2) t140)) = some r := H
          have A6 := Aside0.mk A60
          clear A60
          replace H := Option.bind_eq_some_iff.mp H
          obtain ⟨t141, A70, H⟩ := H
          replace H : (field_Pow.l0 k1 t141 (x1_1 / 2) t140) = some r := H
          have A7 := Aside0.mk A70
          clear A70
          have H' := Aside0.mk H
          clear H
          go_wp2_with (first | ((with_reducible refine gate_callee (f := 54) rfl ?_); refine goesL_ (some 17) rfl rfl Try.func54 (by kernel_rfl) rfl #[.int .u64 x5_1, .int .u64 x0_1] rfl (by (try simp only [List.map_toArray, List.map_cons, List.map_nil]); first | done | rfl | (simp only [List.length_drop, List.length_take]; rfl)) ?_; (with_reducible refine (field_Mul.calls x5_1 x0_1 t140 _ A6.out).mono ?_); rintro e w' ⟨rfl, ⟨nd, rfl⟩⟩; refine ⟨_, rfl, ?_⟩) | ((with_reducible refine gate_callee (f := 54) rfl ?_); refine goesL_ (some 20) rfl rfl Try.func54 (by kernel_rfl) rfl #[.int .u64 x0_1, .int .u64 x0_1] rfl (by (try simp only [List.map_toArray, List.map_cons, List.map_nil]); first | done | rfl | (simp only [List.length_drop, List.length_take]; rfl)) ?_; (with_reducible refine (field_Mul.calls x0_1 x0_1 t141 _ A7.out).mono ?_); rintro e w' ⟨rfl, ⟨nd, rfl⟩⟩; refine ⟨_, rfl, ?_⟩))
          go_roundg k1
          case measure => have := HK1.out; omega
          case rel => exact ⟨(t141), (x1_1 / 2), (t140), (by first | rfl | (simp; done) | (simp [*]; done)), (by first | rfl | (simp; done) | (simp [*]; done)), (by first | rfl | (simp; done) | (simp [*]; done)), H', ⟨by have := HK1.out; omega⟩, by repeat (first | exact Drawn0.refl _ | apply Drawn0.step)⟩
        · rw [if_neg c5] at H
          have c5b0 : ((Go.bits .and .u64 x1_1 1) == 1) = false := beq_eq_false_iff_ne.mpr c5
          have c5b1 : ((Go.bits .and .u64 x1_1 1) != 1) = true := bne_iff_ne.mpr c5
          replace H := Option.bind_eq_some_iff.mp H
          obtain ⟨t142, A80, H⟩ := H
          replace H : (field_Pow.l0 k1 t142 (x1_1 / 2) x5_1) = some r := H
          have A8 := Aside0.mk A80
          clear A80
          have H' := Aside0.mk H
          clear H
          go_wp2_with (first | ((with_reducible refine gate_callee (f := 54) rfl ?_); refine goesL_ (some 20) rfl rfl Try.func54 (by kernel_rfl) rfl #[.int .u64 x0_1, .int .u64 x0_1] rfl (by (try simp only [List.map_toArray, List.map_cons, List.map_nil]); first | done | rfl | (simp only [List.length_drop, List.length_take]; rfl)) ?_; (with_reducible refine (field_Mul.calls x0_1 x0_1 t142 _ A8.out).mono ?_); rintro e w' ⟨rfl, ⟨nd, rfl⟩⟩; refine ⟨_, rfl, ?_⟩))
          go_roundg k1
          case measure => have := HK1.out; omega
          case rel => exact ⟨(t142), (x1_1 / 2), (x5_1), (by first | rfl | (simp; done) | (simp [*]; done)), (by first | rfl | (simp; done) | (simp [*]; done)), (by first | rfl | (simp; done) | (simp [*]; done)), H', ⟨by have := HK1.out; omega⟩, by repeat (first | exact Drawn0.refl _ | apply Drawn0.step)⟩
      · rw [if_neg c4] at H
        have c4b0 : decide (0 < x1_1) = false := decide_eq_false c4
        clear c4
        obtain rfl := Option.some.inj H
        go_wp2
        go_ret
        exact ⟨by first | rfl | (simp; done) | (simp [*]; done), by repeat (first | exact Drawn0.refl _ | apply Drawn0.step)⟩

end Go.Proofs.Yteaeigpeaneicaa.G
end

section
-- Printed by gprint.py: a program of this session over the kit's print. Not trusted: Lean checks it.
namespace Go.Proofs.Yteaeigpeaneicaa.G
open Go.RowKit Go.Proofs.YteaeigpeaneicaaW.PrintWords Go.Proofs.YteaeigpeaneicaaW.PrintLast Go.Proofs.YteaeigpeaneicaaW.PrintMore
attribute [local go_sem] max2_int min2_int max_two min_two max_three min_three max_four min_four   -- for this text's walks alone
set_option linter.unusedVariables false
set_option linter.unusedSimpArgs false

/-! ### field_Add: function 53 -/
def field_Add.f (a0 : Int) (a1 : Int) : Option (Int) := (field_Of.f a0).bind fun t131 => ((field_Of.f a1).bind fun t132 => ((field_Of.f (IntKind.u64.wrap (t131 + t132))).bind fun t133 => (some t133)))
set_option maxHeartbeats 8000000 in
set_option maxRecDepth 100000 in
theorem field_Add.calls (a0 : Int) (a1 : Int) (r : Int) (w : World) (h : field_Add.f a0 a1 = some r) :
    Calls Try.prog 53 #[.int .u64 a0, .int .u64 a1] w fun e w' => e = .returned (.int .u64 r) ∧ Drawn0 w w' := by
  have H : ((field_Of.f a0).bind fun t131 => ((field_Of.f a1).bind fun t132 => ((field_Of.f (IntKind.u64.wrap (t131 + t132))).bind fun t133 => (some t133)))) = some r := h
  clear h
  replace H := Option.bind_eq_some_iff.mp H
  obtain ⟨t131, A30, H⟩ := H
  replace H : ((field_Of.f a1).bind fun t132 => ((field_Of.f (IntKind.u64.wrap (t131 + t132))).bind fun t133 => (some t133))) = some r := H
  have A3 := Aside0.mk A30
  clear A30
  replace H := Option.bind_eq_some_iff.mp H
  obtain ⟨t132, A40, H⟩ := H
  replace H : ((field_Of.f (IntKind.u64.wrap (t131 + t132))).bind fun t133 => (some t133)) = some r := H
  have A4 := Aside0.mk A40
  clear A40
  replace H := Option.bind_eq_some_iff.mp H
  obtain ⟨t133, A50, H⟩ := H
  replace H : (some t133) = some r := H
  have A5 := Aside0.mk A50
  clear A50
  obtain rfl := Option.some.inj H
  go_enter Try.func53, Try.ntmps53
  go_wp2_with (first | ((with_reducible refine gate_callee (f := 69) rfl ?_); refine goesL_ (some 6) rfl rfl Try.func69 (by kernel_rfl) rfl #[.int .u64 a0] rfl (by (try simp only [List.map_toArray, List.map_cons, List.map_nil]); first | done | rfl | (simp only [List.length_drop, List.length_take]; rfl)) ?_; (with_reducible refine (field_Of.calls a0 t131 _ A3.out).mono ?_); rintro e w' ⟨rfl, ⟨nd, rfl⟩⟩; refine ⟨_, rfl, ?_⟩) | ((with_reducible refine gate_callee (f := 69) rfl ?_); refine goesL_ (some 8) rfl rfl Try.func69 (by kernel_rfl) rfl #[.int .u64 a1] rfl (by (try simp only [List.map_toArray, List.map_cons, List.map_nil]); first | done | rfl | (simp only [List.length_drop, List.length_take]; rfl)) ?_; (with_reducible refine (field_Of.calls a1 t132 _ A4.out).mono ?_); rintro e w' ⟨rfl, ⟨nd, rfl⟩⟩; refine ⟨_, rfl, ?_⟩) | ((with_reducible refine gate_callee (f := 69) rfl ?_); refine goesL_ (some 10) rfl rfl Try.func69 (by kernel_rfl) rfl #[.int .u64 (IntKind.u64.wrap (t131 + t132))] rfl (by (try simp only [List.map_toArray, List.map_cons, List.map_nil]); first | done | rfl | (simp only [List.length_drop, List.length_take]; rfl)) ?_; (with_reducible refine (field_Of.calls (IntKind.u64.wrap (t131 + t132)) t133 _ A5.out).mono ?_); rintro e w' ⟨rfl, ⟨nd, rfl⟩⟩; refine ⟨_, rfl, ?_⟩))
  go_ret
  exact ⟨by first | rfl | (simp; done) | (simp [*]; done), by repeat (first | exact Drawn0.refl _ | apply Drawn0.step)⟩

end Go.Proofs.Yteaeigpeaneicaa.G
end

section
-- Printed by gprint.py: a program of this session over the kit's print. Not trusted: Lean checks it.
namespace Go.Proofs.Yteaeigpeaneicaa.G
open Go.RowKit Go.Proofs.YteaeigpeaneicaaW.PrintWords Go.Proofs.YteaeigpeaneicaaW.PrintLast Go.Proofs.YteaeigpeaneicaaW.PrintMore
attribute [local go_sem] max2_int min2_int max_two min_two max_three min_three max_four min_four   -- for this text's walks alone
set_option linter.unusedVariables false
set_option linter.unusedSimpArgs false

/-! ### hash_Row: function 41 -/
def hash_Row.f (a0 : Int) (a1 : Int) : Option (Int) := (field_Add.f a0 3).bind fun t149 => ((field_Add.f (IntKind.u64.wrap (mx a1 0)) 2).bind fun t150 => ((field_Mul.f t149 t150).bind fun t151 => ((field_Add.f t151 5).bind fun t152 => ((field_Mul.f t152 t152).bind fun t153 => (some t153)))))
set_option maxHeartbeats 8000000 in
set_option maxRecDepth 100000 in
theorem hash_Row.calls (a0 : Int) (a1 : Int) (r : Int) (w : World) (h : hash_Row.f a0 a1 = some r) :
    Calls Try.prog 41 #[.int .u64 a0, .int .i64 a1] w fun e w' => e = .returned (.int .u64 r) ∧ Below w.heap.size w w' := by
  have HB := Aside0.mk (Below.refl w.heap.size w)
  have H : ((field_Add.f a0 3).bind fun t149 => ((field_Add.f (IntKind.u64.wrap (mx a1 0)) 2).bind fun t150 => ((field_Mul.f t149 t150).bind fun t151 => ((field_Add.f t151 5).bind fun t152 => ((field_Mul.f t152 t152).bind fun t153 => (some t153)))))) = some r := h
  clear h
  replace H := Option.bind_eq_some_iff.mp H
  obtain ⟨t149, A30, H⟩ := H
  replace H : ((field_Add.f (IntKind.u64.wrap (mx a1 0)) 2).bind fun t150 => ((field_Mul.f t149 t150).bind fun t151 => ((field_Add.f t151 5).bind fun t152 => ((field_Mul.f t152 t152).bind fun t153 => (some t153))))) = some r := H
  have A3 := Aside0.mk A30
  clear A30
  obtain ⟨ji4, hji4⟩ : ∃ j_ : Int, (mx a1 0) = j_ := ⟨_, rfl⟩
  replace H : ((field_Add.f (IntKind.u64.wrap (ji4)) 2).bind fun t150 => ((field_Mul.f t149 t150).bind fun t151 => ((field_Add.f t151 5).bind fun t152 => ((field_Mul.f t152 t152).bind fun t153 => (some t153))))) = some r := by first | (rw [hji4] at H; exact H) | (simp only [hji4] at H ⊢; exact H)
  (try rw [hji4] at A3)
  (try (have hji4l : 0 ≤ ji4 := by (rw [← hji4]; unfold mx; (repeat' split) <;> omega)))
  (try (have hji4m : 0 ≤ ji4 := by omega))
  have hji4_ : (if a1 < 0 then 0 else a1) = ji4 := hji4
  replace H := Option.bind_eq_some_iff.mp H
  obtain ⟨t150, A50, H⟩ := H
  replace H : ((field_Mul.f t149 t150).bind fun t151 => ((field_Add.f t151 5).bind fun t152 => ((field_Mul.f t152 t152).bind fun t153 => (some t153)))) = some r := H
  have A5 := Aside0.mk A50
  clear A50
  replace H := Option.bind_eq_some_iff.mp H
  obtain ⟨t151, A60, H⟩ := H
  replace H : ((field_Add.f t151 5).bind fun t152 => ((field_Mul.f t152 t152).bind fun t153 => (some t153))) = some r := H
  have A6 := Aside0.mk A60
  clear A60
  replace H := Option.bind_eq_some_iff.mp H
  obtain ⟨t152, A70, H⟩ := H
  replace H : ((field_Mul.f t152 t152).bind fun t153 => (some t153)) = some r := H
  have A7 := Aside0.mk A70
  clear A70
  replace H := Option.bind_eq_some_iff.mp H
  obtain ⟨t153, A80, H⟩ := H
  replace H : (some t153) = some r := H
  have A8 := Aside0.mk A80
  clear A80
  obtain rfl := Option.some.inj H
  go_enter Try.func41, Try.ntmps41
  go_wp2_with (first | ((with_reducible refine gate_callee (f := 53) rfl ?_); refine goesL_ (some 7) rfl rfl Try.func53 (by kernel_rfl) rfl #[.int .u64 a0, .int .u64 3] rfl (by (try simp only [List.map_toArray, List.map_cons, List.map_nil]); first | done | rfl | (simp only [List.length_drop, List.length_take]; rfl)) ?_; (with_reducible refine (field_Add.calls a0 3 t149 _ A3.out).mono ?_); rintro e w' ⟨rfl, ⟨nd, rfl⟩⟩; refine ⟨_, rfl, ?_⟩) | ((with_reducible refine gate_callee (f := 53) rfl ?_); refine goesL_ (some 11) rfl rfl Try.func53 (by kernel_rfl) rfl #[.int .u64 (IntKind.u64.wrap (ji4)), .int .u64 2] rfl (by (try simp only [List.map_toArray, List.map_cons, List.map_nil]); first | done | (simp only [hji4]; rfl) | rfl | (simp only [List.length_drop, List.length_take]; rfl)) ?_; (with_reducible refine (field_Add.calls (IntKind.u64.wrap (ji4)) 2 t150 _ A5.out).mono ?_); rintro e w' ⟨rfl, ⟨nd, rfl⟩⟩; refine ⟨_, rfl, ?_⟩) | ((with_reducible refine gate_callee (f := 54) rfl ?_); refine goesL_ (some 12) rfl rfl Try.func54 (by kernel_rfl) rfl #[.int .u64 t149, .int .u64 t150] rfl (by (try simp only [List.map_toArray, List.map_cons, List.map_nil]); first | done | rfl | (simp only [List.length_drop, List.length_take]; rfl)) ?_; (with_reducible refine (field_Mul.calls t149 t150 t151 _ A6.out).mono ?_); rintro e w' ⟨rfl, ⟨nd, rfl⟩⟩; refine ⟨_, rfl, ?_⟩) | ((with_reducible refine gate_callee (f := 53) rfl ?_); refine goesL_ (some 13) rfl rfl Try.func53 (by kernel_rfl) rfl #[.int .u64 t151, .int .u64 5] rfl (by (try simp only [List.map_toArray, List.map_cons, List.map_nil]); first | done | rfl | (simp only [List.length_drop, List.length_take]; rfl)) ?_; (with_reducible refine (field_Add.calls t151 5 t152 _ A7.out).mono ?_); rintro e w' ⟨rfl, ⟨nd, rfl⟩⟩; refine ⟨_, rfl, ?_⟩) | ((with_reducible refine gate_callee (f := 54) rfl ?_); refine goesL_ (some 16) rfl rfl Try.func54 (by kernel_rfl) rfl #[.int .u64 t152, .int .u64 t152] rfl (by (try simp only [List.map_toArray, List.map_cons, List.map_nil]); first | done | rfl | (simp only [List.length_drop, List.length_take]; rfl)) ?_; (with_reducible refine (field_Mul.calls t152 t152 t153 _ A8.out).mono ?_); rintro e w' ⟨rfl, ⟨nd, rfl⟩⟩; refine ⟨_, rfl, ?_⟩))
  go_ret
  exact ⟨by first | rfl | (simp [errW_none, errW_some] <;> rfl) | (simp only [← hji4]; first | rfl | (simp [errW_none, errW_some] <;> rfl)) | (simp [*, errW_none, errW_some] <;> rfl), by repeat (first | (with_reducible first | exact HB.out | apply below_alloc | apply pw_below_drewN | apply below_drew1) | exact HB.out)⟩

end Go.Proofs.Yteaeigpeaneicaa.G
end

section
/- What the program's field and hash functions come to, as printed. -/
namespace Go.Proofs.Yteaeigpeaneicaa.G
open Go Go.RowKit Go.Proofs.YteaeigpeaneicaaW.PrintWords Go.Proofs.YteaeigpeaneicaaPlain

theorem field_Of_f (a : Int) (h0 : 0 ≤ a) (h1 : a < 18446744073709551616) : field_Of.f a = some (a % 2305843009213693951) := by
  unfold field_Of.f
  rw [and_P a h0 h1]
  have hs : IntKind.u64.wrap (a % 2305843009213693952 + a / 2305843009213693952) = a % 2305843009213693952 + a / 2305843009213693952 := u64_id (by omega) (by omega)
  rw [hs]
  by_cases h : a % 2305843009213693952 + a / 2305843009213693952 ≥ 2305843009213693951
  · rw [if_pos h, u64_id (by omega) (by omega)]; congr 1; omega
  · rw [if_neg h]; congr 1; omega
theorem field_Add_f (a b : Int) (h0 : 0 ≤ a) (h1 : a < 18446744073709551616) (h2 : 0 ≤ b) (h3 : b < 18446744073709551616) : field_Add.f a b = some ((a + b) % 2305843009213693951) := by
  unfold field_Add.f
  rw [field_Of_f a h0 h1, field_Of_f b h2 h3]
  simp only [Option.bind_some]
  rw [u64_id (by omega) (by omega), field_Of_f _ (by omega) (by omega)]
  simp only [Option.bind_some]
  congr 1; omega
theorem mul_bound {x y : Int} (n : Int) (h0 : 0 ≤ x) (h1 : x ≤ n) (h2 : 0 ≤ y) (h3 : y ≤ n) : 0 ≤ x * y ∧ x * y ≤ n * n :=
  ⟨Int.mul_nonneg h0 h2, Int.mul_le_mul h1 h3 h2 (by omega)⟩
theorem bits_Mul64_f (x y : Int) (h0 : 0 ≤ x) (h1 : x < 18446744073709551616) (h2 : 0 ≤ y) (h3 : y < 18446744073709551616) :
    bits_Mul64.f x y = some (x * y / 18446744073709551616, x * y % 18446744073709551616) := by
  unfold bits_Mul64.f
  rw [and_32 x h0 h1, and_32 y h2 h3]
  obtain ⟨x1, hx1⟩ : ∃ z, z = x / 4294967296 := ⟨_, rfl⟩
  obtain ⟨x0, hx0⟩ : ∃ z, z = x % 4294967296 := ⟨_, rfl⟩
  obtain ⟨y1, hy1⟩ : ∃ z, z = y / 4294967296 := ⟨_, rfl⟩
  obtain ⟨y0, hy0⟩ : ∃ z, z = y % 4294967296 := ⟨_, rfl⟩
  rw [← hx1, ← hx0, ← hy1, ← hy0]
  have ex : x = x1 * 4294967296 + x0 := by omega
  have ey : y = y1 * 4294967296 + y0 := by omega
  have b11 := mul_bound (x := x1) (y := y1) 4294967295 (by omega) (by omega) (by omega) (by omega)
  have b10 := mul_bound (x := x1) (y := y0) 4294967295 (by omega) (by omega) (by omega) (by omega)
  have b01 := mul_bound (x := x0) (y := y1) 4294967295 (by omega) (by omega) (by omega) (by omega)
  have b00 := mul_bound (x := x0) (y := y0) 4294967295 (by omega) (by omega) (by omega) (by omega)
  have exy : x * y = x1 * y1 * 18446744073709551616 + (x1 * y0 + x0 * y1) * 4294967296 + x0 * y0 := by rw [ex, ey]; grind
  rw [exy]
  generalize x1 * y1 = p11 at *
  generalize x1 * y0 = p10 at *
  generalize x0 * y1 = p01 at *
  generalize x0 * y0 = p00 at *
  clear hx1 hx0 hy1 hy0 ex ey exy h0 h1 h2 h3
  rw [u64_id (x := p11) (by omega) (by omega), u64_id (x := p10) (by omega) (by omega), u64_id (x := p01) (by omega) (by omega), u64_id (x := p00) (by omega) (by omega)]
  rw [u64_id (x := p10 + p00 / 4294967296) (by omega) (by omega)]
  rw [and_32 _ (by omega) (by omega)]
  rw [u64_id (x := (p10 + p00 / 4294967296) % 4294967296 + p01) (by omega) (by omega)]
  rw [u64_id (x := p11 + (p10 + p00 / 4294967296) / 4294967296) (by omega) (by omega)]
  rw [u64_id (x := p11 + (p10 + p00 / 4294967296) / 4294967296 + ((p10 + p00 / 4294967296) % 4294967296 + p01) / 4294967296) (by omega) (by omega)]
  rw [u64w]
  congr 1
  refine Prod.ext ?_ ?_
  · show p11 + (p10 + p00 / 4294967296) / 4294967296 + ((p10 + p00 / 4294967296) % 4294967296 + p01) / 4294967296 = _
    omega
  · rfl
theorem field_Mul_f (a b : Int) (h0 : 0 ≤ a) (h1 : a < 18446744073709551616) (h2 : 0 ≤ b) (h3 : b < 18446744073709551616) : field_Mul.f a b = some (a * b % 2305843009213693951) := by
  unfold field_Mul.f
  rw [field_Of_f a h0 h1, field_Of_f b h2 h3]
  simp only [Option.bind_some]
  rw [bits_Mul64_f _ _ (by omega) (by omega) (by omega) (by omega)]
  simp only [Option.bind_some]
  have hb := mul_bound (x := a % 2305843009213693951) (y := b % 2305843009213693951) 2305843009213693950 (by omega) (by omega) (by omega) (by omega)
  rw [Int.mul_emod a b]
  generalize a % 2305843009213693951 * (b % 2305843009213693951) = N at hb ⊢
  rw [and_P _ (by omega) (by omega)]
  rw [u64_id (x := N / 18446744073709551616 * 8) (by omega) (by omega)]
  rw [or_join' (N / 18446744073709551616 * 8) (N % 18446744073709551616 / 2305843009213693952) 3 (by omega) (by omega) (by omega) (by omega) (by omega) (by omega)]
  rw [u64_id (by omega) (by omega), field_Of_f _ (by omega) (by omega)]
  simp only [Option.bind_some]
  congr 1; omega
theorem field_Pow_l0 (n : Nat) : ∀ (x out : Int), 0 ≤ x → x < 2305843009213693951 → 0 ≤ out → out < 2305843009213693951 → (n : Int) < 18446744073709551616 → Ev (fun k => field_Pow.l0 k x (n : Int) out) (out * x ^ n % 2305843009213693951) := by
  induction n using Nat.strongRecOn with
  | _ n ih =>
    intro x out hx0 hx1 ho0 ho1 hn
    by_cases hz : n = 0
    · subst hz
      refine Ev.step (f := fun _ => some out) (fun k => ?_) ?_
      · simp only [field_Pow.l0]; rw [if_neg (by omega)]
      · rw [Int.pow_zero, Int.mul_one, Int.emod_eq_of_lt ho0 ho1]; exact Ev.now _
    · have hdiv : ((n : Int) / 2) = ((n / 2 : Nat) : Int) := by omega
      have key : ∀ o : Int, (o * (x * x % 2305843009213693951) ^ (n / 2)) % 2305843009213693951 = (o * x ^ (2 * (n / 2))) % 2305843009213693951 := by
        intro o
        rw [Int.mul_emod, emod_pow, ← Int.mul_emod, ← int_sq, ← Int.pow_mul]
      have hsq : 0 ≤ x * x % 2305843009213693951 ∧ x * x % 2305843009213693951 < 2305843009213693951 := by omega
      by_cases hodd : (n : Int) % 2 = 1
      · have h1 := ih (n / 2) (by omega) (x * x % 2305843009213693951) (out * x % 2305843009213693951) hsq.1 hsq.2 (by omega) (by omega) (by omega)
        rw [key] at h1
        have e1 : out * x % 2305843009213693951 * x ^ (2 * (n / 2)) % 2305843009213693951 = out * x ^ n % 2305843009213693951 := by
          have e2 : x ^ n = x * x ^ (2 * (n / 2)) := by
            rw [Int.mul_comm, ← Int.pow_succ]; congr 1; omega
          rw [e2, ← Int.mul_assoc, Int.mul_emod, Int.emod_emod_of_dvd _ (Int.dvd_refl _), ← Int.mul_emod]
        rw [e1] at h1
        refine Ev.step (f := fun k => field_Pow.l0 k (x * x % 2305843009213693951) ((n / 2 : Nat) : Int) (out * x % 2305843009213693951)) (fun k => ?_) h1
        simp only [field_Pow.l0]
        rw [if_pos (by omega), and_1 _ (by omega) (by omega), if_pos hodd, field_Mul_f out x ho0 (by omega) hx0 (by omega), field_Mul_f x x hx0 (by omega) hx0 (by omega)]
        simp only [Option.bind_some]
        rw [hdiv]
      · have h1 := ih (n / 2) (by omega) (x * x % 2305843009213693951) out hsq.1 hsq.2 ho0 ho1 (by omega)
        rw [key] at h1
        have e1 : out * x ^ (2 * (n / 2)) % 2305843009213693951 = out * x ^ n % 2305843009213693951 := by
          rw [show 2 * (n / 2) = n by omega]
        rw [e1] at h1
        refine Ev.step (f := fun k => field_Pow.l0 k (x * x % 2305843009213693951) ((n / 2 : Nat) : Int) out) (fun k => ?_) h1
        simp only [field_Pow.l0]
        rw [if_pos (by omega), and_1 _ (by omega) (by omega), if_neg hodd, field_Mul_f x x hx0 (by omega) hx0 (by omega)]
        simp only [Option.bind_some]
        rw [hdiv]
theorem field_Pow_ev (x : Int) (n : Nat) (h0 : 0 ≤ x) (h1 : x < 18446744073709551616) (hn : (n : Int) < 18446744073709551616) : Ev (fun k => field_Pow.f k x (n : Int)) (x ^ n % 2305843009213693951) := by
  have h := field_Pow_l0 n (x % 2305843009213693951) 1 (by omega) (by omega) (by omega) (by omega) hn
  rw [Int.one_mul, emod_pow] at h
  refine Ev.congr (fun k => ?_) h
  unfold field_Pow.f
  rw [field_Of_f x h0 h1]
  simp only [Option.bind_some]
theorem hash_Row_f (s i : Int) (h0 : 0 ≤ s) (h1 : s < 18446744073709551616) (h2 : i < 9223372036854775808) : hash_Row.f s i = some (hrow s i) := by
  have hm : mx i 0 = if i < 0 then 0 else i := rfl
  unfold hash_Row.f hrow
  rw [hm]
  generalize hj : (if i < 0 then 0 else i) = j
  have hj0 : 0 ≤ j ∧ j < 9223372036854775808 := by subst hj; split <;> omega
  rw [field_Add_f s 3 h0 h1 (by omega) (by omega), u64_id hj0.1 (by omega), field_Add_f j 2 hj0.1 (by omega) (by omega) (by omega)]
  simp only [Option.bind_some]
  rw [field_Mul_f _ _ (by omega) (by omega) (by omega) (by omega)]
  simp only [Option.bind_some]
  rw [field_Add_f _ 5 (by omega) (by omega) (by omega) (by omega)]
  simp only [Option.bind_some]
  rw [field_Mul_f _ _ (by omega) (by omega) (by omega) (by omega)]
  simp only [Option.bind_some]
  congr 1
  have e : ((s + 3) % 2305843009213693951 * ((j + 2) % 2305843009213693951) % 2305843009213693951 + 5) % 2305843009213693951 = ((s + 3) * (j + 2) + 5) % 2305843009213693951 := by
    rw [← Int.mul_emod]; omega
  rw [e, int_sq]
end Go.Proofs.Yteaeigpeaneicaa.G
end

section
-- Printed by gprint.py: a program of this session over the kit's print. Not trusted: Lean checks it.
namespace Go.Proofs.Yteaeigpeaneicaa.G
open Go.RowKit Go.Proofs.YteaeigpeaneicaaW.PrintWords Go.Proofs.YteaeigpeaneicaaW.PrintLast Go.Proofs.YteaeigpeaneicaaW.PrintMore
attribute [local go_sem] max2_int min2_int max_two min_two max_three min_three max_four min_four   -- for this text's walks alone
set_option linter.unusedVariables false
set_option linter.unusedSimpArgs false

/-! ### hash_Sum: function 52 -/
mutual
def hash_Sum.l0 : Nat → ByteArray → Int → Int → Int → Option (Int)
 | 0, _, _, _, _ => none
 | k + 1, x1, x5, x6, x7 => if x7 < (x1.size : Int) then (hash_Sum.l1 k x1 x5 x6 x7 0 0) else ((field_Mul.f x6 x5).bind fun t144 => ((field_Pow.f k t144 17).bind fun t145 => (some t145)))
def hash_Sum.l1 : Nat → ByteArray → Int → Int → Int → Int → Int → Option (Int)
 | 0, _, _, _, _, _, _ => none
 | k + 1, x1, x5, x6, x7, x8, x21 => if x21 < 4 then (if (wrap64 (x7 + x21)) < (x1.size : Int) then (if 0 ≤ (wrap64 (x7 + x21)) then (hash_Sum.l1 k x1 x5 x6 x7 (Go.bits .or .u64 (IntKind.u64.wrap (x8 * 256)) (IntKind.u64.wrap (bt x1 (wrap64 (x7 + x21))))) (wrap64 (x21 + 1))) else (none)) else (hash_Sum.l1 k x1 x5 x6 x7 (IntKind.u64.wrap (x8 * 256)) (wrap64 (x21 + 1)))) else ((field_Mul.f x6 x5).bind fun t146 => ((field_Add.f t146 (IntKind.u64.wrap (x8 + 1))).bind fun t147 => (hash_Sum.l0 k x1 x5 t147 (wrap64 (x7 + 4)))))
end
def hash_Sum.f (k : Nat) (a0 : Int) (a1 : ByteArray) : Option (Int) := (field_Add.f a0 2).bind fun t143 => (hash_Sum.l0 k a1 t143 (IntKind.u64.wrap ((a1.size : Int))) 0)
theorem hash_Sum.mono_l : ∀ k, (∀ y0 y1 y2 y3, LeO (hash_Sum.l0 k y0 y1 y2 y3) (hash_Sum.l0 (k + 1) y0 y1 y2 y3)) ∧ (∀ y0 y1 y2 y3 y4 y5, LeO (hash_Sum.l1 k y0 y1 y2 y3 y4 y5) (hash_Sum.l1 (k + 1) y0 y1 y2 y3 y4 y5))
 | 0 => ⟨fun _ _ _ _ r h => by simp [hash_Sum.l0] at h, fun _ _ _ _ _ _ r h => by simp [hash_Sum.l1] at h⟩
 | k + 1 => by
  obtain ⟨ih0, ih1⟩ := hash_Sum.mono_l k
  refine ⟨?_, ?_⟩
  ·
   intro y0 y1 y2 y3
   unfold hash_Sum.l0
   repeat' first
   | (with_reducible exact ih0 _ _ _ _)
   | (with_reducible exact ih1 _ _ _ _ _ _)
   | (with_reducible exact field_Pow.mono _ _ _)
   | (with_reducible exact LeO.refl _)
   | (with_reducible exact LeO.none _)
   | (with_reducible refine LeO.ite ?_ ?_)
   | (with_reducible refine LeO.bind ?_ (fun _ => ?_))
   | exact ih0 _ _ _ _
   | exact ih1 _ _ _ _ _ _
   | exact field_Pow.mono _ _ _
   | exact LeO.none _
   | refine LeO.ite ?_ ?_
   | refine LeO.bind ?_ (fun _ => ?_)
  ·
   intro y0 y1 y2 y3 y4 y5
   unfold hash_Sum.l1
   repeat' first
   | (with_reducible exact ih0 _ _ _ _)
   | (with_reducible exact ih1 _ _ _ _ _ _)
   | (with_reducible exact field_Pow.mono _ _ _)
   | (with_reducible exact LeO.refl _)
   | (with_reducible exact LeO.none _)
   | (with_reducible refine LeO.ite ?_ ?_)
   | (with_reducible refine LeO.bind ?_ (fun _ => ?_))
   | exact ih0 _ _ _ _
   | exact ih1 _ _ _ _ _ _
   | exact field_Pow.mono _ _ _
   | exact LeO.none _
   | refine LeO.ite ?_ ?_
   | refine LeO.bind ?_ (fun _ => ?_)
theorem hash_Sum.mono : ∀ a0 a1 k, LeO (hash_Sum.f k a0 a1) (hash_Sum.f (k + 1) a0 a1) := by
 intro a0 a1 k
 obtain ⟨ih0, ih1⟩ := hash_Sum.mono_l k
 unfold hash_Sum.f
 repeat' first
   | (with_reducible exact ih0 _ _ _ _)
   | (with_reducible exact ih1 _ _ _ _ _ _)
   | (with_reducible exact field_Pow.mono _ _ _)
   | (with_reducible exact LeO.refl _)
   | (with_reducible exact LeO.none _)
   | (with_reducible refine LeO.ite ?_ ?_)
   | (with_reducible refine LeO.bind ?_ (fun _ => ?_))
   | exact ih0 _ _ _ _
   | exact ih1 _ _ _ _ _ _
   | exact field_Pow.mono _ _ _
   | exact LeO.none _
   | refine LeO.ite ?_ ?_
   | refine LeO.bind ?_ (fun _ => ?_)
set_option maxHeartbeats 8000000 in
set_option maxRecDepth 100000 in
theorem hash_Sum.calls (k : Nat) (a0 : Int) (a1 : ByteArray) (r : Int) (w : World) (h : hash_Sum.f k a0 a1 = some r) :
  Calls Try.prog 52 #[.int .u64 a0, .string a1] w fun e w' => e = .returned (.int .u64 r) ∧ Drawn0 w w' := by
 have H : ((field_Add.f a0 2).bind fun t143 => (hash_Sum.l0 k a1 t143 (IntKind.u64.wrap ((a1.size : Int))) 0)) = some r := h
 clear h
 replace H := Option.bind_eq_some_iff.mp H
 obtain ⟨t143, A30, H⟩ := H
 replace H : (hash_Sum.l0 k a1 t143 (IntKind.u64.wrap ((a1.size : Int))) 0) = some r := H
 have A3 := Aside0.mk A30
 clear A30
 have H' := Aside0.mk H
 clear H
 go_enter Try.func52, Try.ntmps52
 go_wp2_with (first | ((with_reducible refine gate_callee (f := 53) rfl ?_); refine goesM_ (some 11) Try.func53 #[.int .u64 a0, .int .u64 2] ?_; (with_reducible refine (field_Add.calls a0 2 t143 _ A3.out).mono ?_); rintro e w' ⟨rfl, ⟨nd, rfl⟩⟩; refine ⟨_, rfl, ?_⟩))
 go_loopg [6, 7] k (fun kq v6 v7 w' => ∃ (x6_1 : Int) (x7_1 : Int), v6 = .int .u64 x6_1 ∧ v7 = .int .i64 x7_1 ∧ Aside0 (hash_Sum.l0 kq a1 t143 x6_1 x7_1 = some r) ∧ Aside0 (kq ≤ k) ∧ Drawn0 w w')
 case atStart => exact ⟨(IntKind.u64.wrap ((a1.size : Int))), (0), (by first | rfl | (simp; done) | (simp [*]; done)), (by first | rfl | (simp; done) | (simp [*]; done)), H', ⟨Nat.le_refl _⟩, by repeat (first | exact Drawn0.refl _ | apply Drawn0.step)⟩
 case round =>
  clear H'
  try clear p2
  obtain ⟨x6_1, x7_1, rfl, rfl, HA, HK1, ⟨m1, rfl⟩⟩ := hrel
  cases gk with
  | zero => exact absurd HA.out (by simp [hash_Sum.l0])
  | succ k1 =>
   have H := HA.out
   clear HA
   simp only [hash_Sum.l0] at H
   by_cases c4 : x7_1 < (a1.size : Int)
   ·
    rw [if_pos c4] at H
    have c4b0 : decide (x7_1 < (a1.size : Int)) = true := decide_eq_true c4
    clear c4
    have H' := Aside0.mk H
    clear H
    go_wp2
    go_loopg [8, 21] k1 (fun kq v8 v21 w' => ∃ (x8_2 : Int) (x21_2 : Int), v8 = .int .u64 x8_2 ∧ v21 = .int .i64 x21_2 ∧ Aside0 (hash_Sum.l1 kq a1 t143 x6_1 x7_1 x8_2 x21_2 = some r) ∧ Aside0 (kq ≤ k1) ∧ Drawn0 w w')
    case atStart => exact ⟨(0), (0), (by first | rfl | (simp; done) | (simp [*]; done)), (by first | rfl | (simp; done) | (simp [*]; done)), H', ⟨Nat.le_refl _⟩, by repeat (first | exact Drawn0.refl _ | apply Drawn0.step)⟩
    case round =>
     clear H'
     try clear p2
     try clear c4
     try clear c4b0
     try clear p2
     obtain ⟨x8_2, x21_2, rfl, rfl, HA, HK2, ⟨m2, rfl⟩⟩ := hrel
     cases gk with
     | zero => exact absurd HA.out (by simp [hash_Sum.l1])
     | succ k2 =>
      have H := HA.out
      clear HA
      simp only [hash_Sum.l1] at H
      by_cases c5 : x21_2 < 4
      ·
       rw [if_pos c5] at H
       have c5b0 : decide (x21_2 < 4) = true := decide_eq_true c5
       clear c5
       by_cases c6 : (wrap64 (x7_1 + x21_2)) < (a1.size : Int)
       ·
        rw [if_pos c6] at H
        have c6b0 : decide ((wrap64 (x7_1 + x21_2)) < (a1.size : Int)) = true := decide_eq_true c6
        clear c6
        obtain ⟨ji7, hji7⟩ : ∃ j_ : Int, (wrap64 (x7_1 + x21_2)) = j_ := ⟨_, rfl⟩
        replace H : (if 0 ≤ (ji7) then (hash_Sum.l1 k2 a1 t143 x6_1 x7_1 (Go.bits .or .u64 (IntKind.u64.wrap (x8_2 * 256)) (IntKind.u64.wrap (bt a1 (ji7)))) (wrap64 (x21_2 + 1))) else (none)) = some r := by first | (rw [hji7] at H; exact H) | (simp only [hji7] at H ⊢; exact H)
        (try rw [hji7] at c6b0)
        have hji7w : (IntKind.i64.wrap (x7_1 + x21_2)) = ji7 := (i64_w _).trans hji7
        by_cases c8 : 0 ≤ (ji7)
        ·
         rw [if_pos c8] at H
         have c8b0 : decide (0 ≤ (ji7)) = true := decide_eq_true c8
         clear c8
         have H' := Aside0.mk H
         clear H
         have p9 : 0 ≤ ((ji7) : Int) := of_decide_eq_true (by first | (with_reducible assumption) | assumption)
         have q9 : (ji7) < (a1.size : Int) := of_decide_eq_true (by first | (with_reducible assumption) | assumption)
         have hx9 := bt_at a1 (ji7)
         replace p9 := eq_true p9
         replace q9 := eq_true q9
         go_wp2
         go_roundg k2
         case measure => have := HK1.out; have := HK2.out; omega
         case rel => exact ⟨(Go.bits .or .u64 (IntKind.u64.wrap (x8_2 * 256)) (IntKind.u64.wrap (bt a1 (ji7)))), (wrap64 (x21_2 + 1)), (by first | rfl | (simp; done) | (simp only [← hji7] <;> (first | rfl | simp)) | (simp [*]; done)), (by first | rfl | (simp; done) | (simp [*]; done)), H', ⟨by have := HK1.out; have := HK2.out; omega⟩, by repeat (first | exact Drawn0.refl _ | apply Drawn0.step)⟩
        ·
         rw [if_neg c8] at H
         exact absurd H (by simp)
       ·
        rw [if_neg c6] at H
        have c6b0 : decide ((wrap64 (x7_1 + x21_2)) < (a1.size : Int)) = false := decide_eq_false c6
        clear c6
        have H' := Aside0.mk H
        clear H
        go_wp2
        go_roundg k2
        case measure => have := HK1.out; have := HK2.out; omega
        case rel => exact ⟨(IntKind.u64.wrap (x8_2 * 256)), (wrap64 (x21_2 + 1)), (by first | rfl | (simp; done) | (simp [*]; done)), (by first | rfl | (simp; done) | (simp [*]; done)), H', ⟨by have := HK1.out; have := HK2.out; omega⟩, by repeat (first | exact Drawn0.refl _ | apply Drawn0.step)⟩
      ·
       rw [if_neg c5] at H
       have c5b0 : decide (x21_2 < 4) = false := decide_eq_false c5
       clear c5
       replace H := Option.bind_eq_some_iff.mp H
       obtain ⟨t146, A100, H⟩ := H
       replace H : ((field_Add.f t146 (IntKind.u64.wrap (x8_2 + 1))).bind fun t147 => (hash_Sum.l0 k2 a1 t143 t147 (wrap64 (x7_1 + 4)))) = some r := H
       have A10 := Aside0.mk A100
       clear A100
       replace H := Option.bind_eq_some_iff.mp H
       obtain ⟨t147, A110, H⟩ := H
       replace H : (hash_Sum.l0 k2 a1 t143 t147 (wrap64 (x7_1 + 4))) = some r := H
       have A11 := Aside0.mk A110
       clear A110
       have H' := Aside0.mk H
       clear H
       go_wp2_with (first | ((with_reducible refine gate_callee (f := 54) rfl ?_); refine goesM_ (some 43) Try.func54 #[.int .u64 x6_1, .int .u64 t143] ?_; (with_reducible refine (field_Mul.calls x6_1 t143 t146 _ A10.out).mono ?_); rintro e w' ⟨rfl, ⟨nd, rfl⟩⟩; refine ⟨_, rfl, ?_⟩) | ((with_reducible refine gate_callee (f := 53) rfl ?_); refine goesM_ (some 46) Try.func53 #[.int .u64 t146, .int .u64 (IntKind.u64.wrap (x8_2 + 1))] ?_; (with_reducible refine (field_Add.calls t146 (IntKind.u64.wrap (x8_2 + 1)) t147 _ A11.out).mono ?_); rintro e w' ⟨rfl, ⟨nd, rfl⟩⟩; refine ⟨_, rfl, ?_⟩))
       go_roundg k2
       case measure => have := HK1.out; have := HK2.out; omega
       case rel => exact ⟨(t147), (wrap64 (x7_1 + 4)), (by first | rfl | (simp; done) | (simp [*]; done)), (by first | rfl | (simp; done) | (simp [*]; done)), H', ⟨by have := HK1.out; have := HK2.out; omega⟩, by repeat (first | exact Drawn0.refl _ | apply Drawn0.step)⟩
   ·
    rw [if_neg c4] at H
    have c4b0 : decide (x7_1 < (a1.size : Int)) = false := decide_eq_false c4
    clear c4
    replace H := Option.bind_eq_some_iff.mp H
    obtain ⟨t144, A120, H⟩ := H
    replace H : ((field_Pow.f k1 t144 17).bind fun t145 => (some t145)) = some r := H
    have A12 := Aside0.mk A120
    clear A120
    replace H := Option.bind_eq_some_iff.mp H
    obtain ⟨t145, A130, H⟩ := H
    replace H : (some t145) = some r := H
    have A13 := Aside0.mk A130
    clear A130
    obtain rfl := Option.some.inj H
    go_wp2_with (first | ((with_reducible refine gate_callee (f := 54) rfl ?_); refine goesM_ (some 49) Try.func54 #[.int .u64 x6_1, .int .u64 t143] ?_; (with_reducible refine (field_Mul.calls x6_1 t143 t144 _ A12.out).mono ?_); rintro e w' ⟨rfl, ⟨nd, rfl⟩⟩; refine ⟨_, rfl, ?_⟩) | ((with_reducible refine gate_callee (f := 68) rfl ?_); refine goesM_ (some 50) Try.func68 #[.int .u64 t144, .int .u64 17] ?_; (with_reducible refine (field_Pow.calls k1 t144 17 t145 _ A13.out).mono ?_); rintro e w' ⟨rfl, ⟨nd, rfl⟩⟩; refine ⟨_, rfl, ?_⟩))
    go_ret
    exact ⟨by first | rfl | (simp; done) | (simp [*]; done), by repeat (first | exact Drawn0.refl _ | apply Drawn0.step)⟩

end Go.Proofs.Yteaeigpeaneicaa.G
end

section
-- Printed by gprint.py: a program of this session over the kit's print. Not trusted: Lean checks it.
namespace Go.Proofs.Yteaeigpeaneicaa.G
open Go.RowKit Go.Proofs.YteaeigpeaneicaaW.PrintWords Go.Proofs.YteaeigpeaneicaaW.PrintLast Go.Proofs.YteaeigpeaneicaaW.PrintMore
attribute [local go_sem] max2_int min2_int max_two min_two max_three min_three max_four min_four   -- for this text's walks alone
set_option linter.unusedVariables false
set_option linter.unusedSimpArgs false

/-! ### hash_Cell: function 40 -/
def hash_Cell.f (k : Nat) (a0 : Int) (a1 : ByteArray) (a2 : Int) : Option (Int) := if a2 < 1 then (some 0) else ((hash_Sum.f k a0 a1).bind fun t148 => (if (IntKind.u64.wrap (a2)) = 0 then (none) else (some (wrap64 (Int.tmod t148 (IntKind.u64.wrap (a2)))))))
theorem hash_Cell.mono : ∀ a0 a1 a2 k, LeO (hash_Cell.f k a0 a1 a2) (hash_Cell.f (k + 1) a0 a1 a2) := by
  intro a0 a1 a2 k
  unfold hash_Cell.f
  repeat' first
      | (with_reducible exact hash_Sum.mono _ _ _)
      | (with_reducible exact LeO.refl _)
      | (with_reducible exact LeO.none _)
      | (with_reducible refine LeO.ite ?_ ?_)
      | (with_reducible refine LeO.bind ?_ (fun _ => ?_))
      | exact hash_Sum.mono _ _ _
      | exact LeO.none _
      | refine LeO.ite ?_ ?_
      | refine LeO.bind ?_ (fun _ => ?_)
set_option maxHeartbeats 8000000 in
set_option maxRecDepth 100000 in
theorem hash_Cell.calls (k : Nat) (a0 : Int) (a1 : ByteArray) (a2 : Int) (r : Int) (w : World) (h : hash_Cell.f k a0 a1 a2 = some r) :
    Calls Try.prog 40 #[.int .u64 a0, .string a1, .int .i64 a2] w fun e w' => e = .returned (.int .i64 r) ∧ Drawn0 w w' := by
  have H : (if a2 < 1 then (some 0) else ((hash_Sum.f k a0 a1).bind fun t148 => (if (IntKind.u64.wrap (a2)) = 0 then (none) else (some (wrap64 (Int.tmod t148 (IntKind.u64.wrap (a2)))))))) = some r := h
  clear h
  by_cases c4 : a2 < 1
  · rw [if_pos c4] at H
    have c4b0 : decide (a2 < 1) = true := decide_eq_true c4
    clear c4
    obtain rfl := Option.some.inj H
    go_enter Try.func40, Try.ntmps40
    go_wp2
    go_ret
    exact ⟨by first | rfl | (simp; done) | (simp [*]; done), by repeat (first | exact Drawn0.refl _ | apply Drawn0.step)⟩
  · rw [if_neg c4] at H
    have c4b0 : decide (a2 < 1) = false := decide_eq_false c4
    clear c4
    replace H := Option.bind_eq_some_iff.mp H
    obtain ⟨t148, A50, H⟩ := H
    replace H : (if (IntKind.u64.wrap (a2)) = 0 then (none) else (some (wrap64 (Int.tmod t148 (IntKind.u64.wrap (a2)))))) = some r := H
    have A5 := Aside0.mk A50
    clear A50
    by_cases c6 : (IntKind.u64.wrap (a2)) = 0
    · rw [if_pos c6] at H
      exact absurd H (by simp)
    · rw [if_neg c6] at H
      have c6b0 : ((IntKind.u64.wrap (a2)) == 0) = false := beq_eq_false_iff_ne.mpr c6
      have c6b1 : ((IntKind.u64.wrap (a2)) != 0) = true := bne_iff_ne.mpr c6
      obtain rfl := Option.some.inj H
      go_enter Try.func40, Try.ntmps40
      go_wp2_with (first | ((with_reducible refine gate_callee (f := 52) rfl ?_); refine goesL_ (some 11) rfl rfl Try.func52 (by kernel_rfl) rfl #[.int .u64 a0, .string a1] rfl (by (try simp only [List.map_toArray, List.map_cons, List.map_nil]); first | done | rfl | (simp only [List.length_drop, List.length_take]; rfl)) ?_; (with_reducible refine (hash_Sum.calls k a0 a1 t148 _ A5.out).mono ?_); rintro e w' ⟨rfl, ⟨nd, rfl⟩⟩; refine ⟨_, rfl, ?_⟩))
      go_ret
      exact ⟨by first | rfl | (simp; done) | (simp [*]; done), by repeat (first | exact Drawn0.refl _ | apply Drawn0.step)⟩

end Go.Proofs.Yteaeigpeaneicaa.G
end

section
-- Printed by gprint.py: a program of this session over the kit's print. Not trusted: Lean checks it.
namespace Go.Proofs.Yteaeigpeaneicaa.G
open Go.RowKit Go.Proofs.YteaeigpeaneicaaW.PrintWords Go.Proofs.YteaeigpeaneicaaW.PrintLast Go.Proofs.YteaeigpeaneicaaW.PrintMore
attribute [local go_sem] max2_int min2_int max_two min_two max_three min_three max_four min_four   -- for this text's walks alone
set_option linter.unusedVariables false
set_option linter.unusedSimpArgs false

/-! ### hash_Sign: function 42 -/
def hash_Sign.f (k : Nat) (a0 : Int) (a1 : ByteArray) : Option (Int) := (hash_Sum.f k a0 a1).bind fun t154 => (some (wrap64 ((wrap64 ((wrap64 (Go.bits .and .u64 t154 1)) * 2)) - 1)))
theorem hash_Sign.mono : ∀ a0 a1 k, LeO (hash_Sign.f k a0 a1) (hash_Sign.f (k + 1) a0 a1) := by
  intro a0 a1 k
  unfold hash_Sign.f
  repeat' first
      | (with_reducible exact hash_Sum.mono _ _ _)
      | (with_reducible exact LeO.refl _)
      | (with_reducible exact LeO.none _)
      | (with_reducible refine LeO.ite ?_ ?_)
      | (with_reducible refine LeO.bind ?_ (fun _ => ?_))
      | exact hash_Sum.mono _ _ _
      | exact LeO.none _
      | refine LeO.ite ?_ ?_
      | refine LeO.bind ?_ (fun _ => ?_)
set_option maxHeartbeats 8000000 in
set_option maxRecDepth 100000 in
theorem hash_Sign.calls (k : Nat) (a0 : Int) (a1 : ByteArray) (r : Int) (w : World) (h : hash_Sign.f k a0 a1 = some r) :
    Calls Try.prog 42 #[.int .u64 a0, .string a1] w fun e w' => e = .returned (.int .i64 r) ∧ Drawn0 w w' := by
  have H : ((hash_Sum.f k a0 a1).bind fun t154 => (some (wrap64 ((wrap64 ((wrap64 (Go.bits .and .u64 t154 1)) * 2)) - 1)))) = some r := h
  clear h
  replace H := Option.bind_eq_some_iff.mp H
  obtain ⟨t154, A30, H⟩ := H
  replace H : (some (wrap64 ((wrap64 ((wrap64 (Go.bits .and .u64 t154 1)) * 2)) - 1))) = some r := H
  have A3 := Aside0.mk A30
  clear A30
  obtain rfl := Option.some.inj H
  go_enter Try.func42, Try.ntmps42
  go_wp2_with (first | ((with_reducible refine gate_callee (f := 52) rfl ?_); refine goesL_ (some 7) rfl rfl Try.func52 (by kernel_rfl) rfl #[.int .u64 a0, .string a1] rfl (by (try simp only [List.map_toArray, List.map_cons, List.map_nil]); first | done | rfl | (simp only [List.length_drop, List.length_take]; rfl)) ?_; (with_reducible refine (hash_Sum.calls k a0 a1 t154 _ A3.out).mono ?_); rintro e w' ⟨rfl, ⟨nd, rfl⟩⟩; refine ⟨_, rfl, ?_⟩))
  go_ret
  exact ⟨by first | rfl | (simp; done) | (simp [*]; done), by repeat (first | exact Drawn0.refl _ | apply Drawn0.step)⟩

end Go.Proofs.Yteaeigpeaneicaa.G
end

section
/- What the program's hash functions come to, as printed. -/
namespace Go.Proofs.Yteaeigpeaneicaa.G
open Go Go.RowKit Go.Proofs.YteaeigpeaneicaaW.PrintWords Go.Proofs.YteaeigpeaneicaaPlain

theorem bt_out (s : ByteArray) (i : Int) (h0 : 0 ≤ i) (h : (s.size : Int) ≤ i) : bt s i = 0 := by
  unfold bt; rw [dif_neg (by omega)]
/-- One byte of a word. -/
theorem hash_Sum_l1_step (s : ByteArray) (a out i w j r : Int) (hs : s.size ≤ 140737488351232) (hi0 : 0 ≤ i) (hi1 : i < s.size) (hj0 : 0 ≤ j) (hj : j < 4) (hw0 : 0 ≤ w) (hw1 : w < 16777216)
    (h : Ev (fun k => hash_Sum.l1 k s a out i (w * 256 + bt s (i + j)) (j + 1)) r) : Ev (fun k => hash_Sum.l1 k s a out i w j) r := by
  have hb := bt_range s (i + j)
  have e1 : wrap64 (i + j) = i + j := w64_id (by omega) (by omega)
  have e2 : wrap64 (j + 1) = j + 1 := w64_id (by omega) (by omega)
  have e3 : IntKind.u64.wrap (w * 256) = w * 256 := u64_id (by omega) (by omega)
  by_cases c : i + j < (s.size : Int)
  · refine Ev.step (fun k => ?_) h
    simp only [hash_Sum.l1]
    rw [if_pos hj, e1, if_pos c, if_pos (by omega), e2, e3, u64_id hb.1 (by omega)]
    rw [or_join (w * 256) (bt s (i + j)) 8 (by omega) (by omega) (by omega) (by omega) (by omega) (by omega)]
  · rw [bt_out s (i + j) (by omega) (by omega), Int.add_zero] at h
    refine Ev.step (fun k => ?_) h
    simp only [hash_Sum.l1]
    rw [if_pos hj, e1, if_neg c, e2, e3]
theorem hash_Sum_word (s : ByteArray) (a out i r : Int) (hs : s.size ≤ 140737488351232) (hi0 : 0 ≤ i) (hi1 : i < s.size) (ha0 : 0 ≤ a) (ha1 : a < 2305843009213693951) (ho0 : 0 ≤ out) (ho1 : out < 2305843009213693951)
    (h : Ev (fun k => hash_Sum.l0 k s a ((out * a + (hword s i + 1)) % 2305843009213693951) (i + 4)) r) : Ev (fun k => hash_Sum.l0 k s a out i) r := by
  have b0 := bt_range s i; have b1 := bt_range s (i + 1); have b2 := bt_range s (i + 2); have b3 := bt_range s (i + 3)
  have hw := hword_range s i
  have hword' : hword s i = ((bt s i * 256 + bt s (i + 1)) * 256 + bt s (i + 2)) * 256 + bt s (i + 3) := rfl
  refine Ev.step (f := fun k => hash_Sum.l1 k s a out i 0 0) (fun k => ?_) ?_
  · simp only [hash_Sum.l0]; rw [if_pos hi1]
  refine hash_Sum_l1_step s a out i 0 0 r hs hi0 hi1 (by omega) (by omega) (by omega) (by omega) ?_
  rw [Int.add_zero, Int.zero_mul, Int.zero_add, Int.zero_add]
  refine hash_Sum_l1_step s a out i _ 1 r hs hi0 hi1 (by omega) (by omega) (by omega) (by omega) ?_
  rw [show (1 : Int) + 1 = 2 from rfl]
  refine hash_Sum_l1_step s a out i _ 2 r hs hi0 hi1 (by omega) (by omega) (by omega) (by omega) ?_
  rw [show (2 : Int) + 1 = 3 from rfl]
  refine hash_Sum_l1_step s a out i _ 3 r hs hi0 hi1 (by omega) (by omega) (by omega) (by omega) ?_
  rw [show (3 : Int) + 1 = 4 from rfl, ← hword']
  refine Ev.step (fun k => ?_) h
  simp only [hash_Sum.l1]
  rw [if_neg (by omega), field_Mul_f out a ho0 (by omega) ha0 (by omega)]
  simp only [Option.bind_some]
  rw [u64_id (by omega) (by omega), field_Add_f _ _ (by omega) (by omega) (by omega) (by omega)]
  simp only [Option.bind_some]
  rw [w64_id (by omega) (by omega)]
  congr 1
  omega
theorem hash_Sum_l0 (s : ByteArray) (a : Int) (hs : s.size ≤ 140737488351232) (ha0 : 0 ≤ a) (ha1 : a < 2305843009213693951) (d : Nat) : ∀ n : Nat, n + d = nwords s →
    Ev (fun k => hash_Sum.l0 k s a (hpoly a s n) (4 * (n : Int))) ((hpoly a s (nwords s) * a % 2305843009213693951) ^ 17 % 2305843009213693951) := by
  induction d with
  | zero =>
    intro n hn
    have hp := hpoly_range a s n
    have hsz : ¬ 4 * (n : Int) < (s.size : Int) := by unfold nwords at hn; omega
    rw [← hn, Nat.add_zero]
    refine Ev.step (f := fun k => (field_Pow.f k (hpoly a s n * a % 2305843009213693951) 17).bind some) (fun k => ?_) (Ev.bind (field_Pow_ev _ 17 (by omega) (by omega) (by omega)) (Ev.now _))
    simp only [hash_Sum.l0]
    rw [if_neg hsz, field_Mul_f _ a hp.1 (by omega) ha0 (by omega)]
    simp only [Option.bind_some]
  | succ d ih =>
    intro n hn
    have hp := hpoly_range a s n
    have h := ih (n + 1) (by omega)
    refine hash_Sum_word s a _ _ _ hs (by omega) (by unfold nwords at hn; omega) ha0 ha1 hp.1 hp.2 ?_
    rw [show 4 * (n : Int) + 4 = 4 * ((n + 1 : Nat) : Int) by omega]
    exact h
theorem hash_Sum_ev (seed : Int) (s : ByteArray) (h0 : 0 ≤ seed) (h1 : seed < 18446744073709551616) (hs : s.size ≤ 140737488351232) : Ev (fun k => hash_Sum.f k seed s) (hsum seed s) := by
  have h := hash_Sum_l0 s ((seed + 2) % 2305843009213693951) hs (by omega) (by omega) (nwords s) 0 (by omega)
  have e0 : hpoly ((seed + 2) % 2305843009213693951) s 0 = (s.size : Int) := by
    show (s.size : Int) % 2305843009213693951 = _
    omega
  rw [e0] at h
  refine Ev.congr (fun k => ?_) h
  unfold hash_Sum.f
  rw [field_Add_f seed 2 h0 h1 (by omega) (by omega), u64_id (by omega) (by omega)]
  simp only [Option.bind_some]
  rfl
theorem hash_Cell_ev (seed : Int) (s : ByteArray) (n : Int) (h0 : 0 ≤ seed) (h1 : seed < 18446744073709551616) (hs : s.size ≤ 140737488351232) (hn : n < 9223372036854775808) : Ev (fun k => hash_Cell.f k seed s n) (hcell seed s n) := by
  by_cases c : n < 1
  · have e : hcell seed s n = 0 := by unfold hcell; rw [if_pos c]
    rw [e]
    refine Ev.congr (fun k => ?_) (Ev.now 0)
    unfold hash_Cell.f
    rw [if_pos c]
  · have hr := hsum_range seed s
    have e : hcell seed s n = hsum seed s % n := by unfold hcell; rw [if_neg c]
    rw [e]
    refine Ev.congr (f := fun k => (hash_Sum.f k seed s).bind fun t153 => (if (IntKind.u64.wrap (n)) = 0 then (none) else (some (wrap64 (Int.tmod t153 (IntKind.u64.wrap (n))))))) (fun k => ?_) (Ev.bind (hash_Sum_ev seed s h0 h1 hs) ?_)
    · unfold hash_Cell.f
      rw [if_neg c]
    · rw [u64_id (by omega) (by omega), if_neg (by omega), Int.tmod_eq_emod_of_nonneg hr.1]
      have h2 := Int.emod_nonneg (hsum seed s) (show n ≠ 0 by omega)
      have h3 := Int.emod_lt_of_pos (hsum seed s) (show 0 < n by omega)
      rw [w64_id (by omega) (by omega)]
      exact Ev.now _
theorem hash_Sign_ev (seed : Int) (s : ByteArray) (h0 : 0 ≤ seed) (h1 : seed < 18446744073709551616) (hs : s.size ≤ 140737488351232) : Ev (fun k => hash_Sign.f k seed s) (hsign seed s) := by
  have hr := hsum_range seed s
  refine Ev.bind (f := fun _ t154 => some (wrap64 ((wrap64 ((wrap64 (Go.bits .and .u64 t154 1)) * 2)) - 1))) (hash_Sum_ev seed s h0 h1 hs) ?_
  rw [and_1 _ hr.1 (by omega), w64_id (x := hsum seed s % 2) (by omega) (by omega), w64_id (x := hsum seed s % 2 * 2) (by omega) (by omega), w64_id (by omega) (by omega)]
  exact Ev.now _
end Go.Proofs.Yteaeigpeaneicaa.G
end

section
-- Printed by gprint.py: a program of this session over the kit's print. Not trusted: Lean checks it.
namespace Go.Proofs.Yteaeigpeaneicaa.G
open Go.RowKit Go.Proofs.YteaeigpeaneicaaW.PrintWords Go.Proofs.YteaeigpeaneicaaW.PrintLast Go.Proofs.YteaeigpeaneicaaW.PrintMore
attribute [local go_sem] max2_int min2_int max_two min_two max_three min_three max_four min_four   -- for this text's walks alone
set_option linter.unusedVariables false
set_option linter.unusedSimpArgs false

/-! ### rillmeterref01_Mul: function 48 -/
def rillmeterref01_Mul.l0 : Nat → Int → Int → Int → Option (Int)
  | 0, _, _, _ => none
  | k + 1, x0, x1, x5 => if x1 > 0 then (if (Int.tmod x1 2) = 1 then (rillmeterref01_Mul.l0 k (Int.tmod (IntKind.u64.wrap (x0 + x0)) 2305843009213693951) (IntKind.u64.wrap (Int.tdiv x1 2)) (Int.tmod (IntKind.u64.wrap (x5 + x0)) 2305843009213693951)) else (rillmeterref01_Mul.l0 k (Int.tmod (IntKind.u64.wrap (x0 + x0)) 2305843009213693951) (IntKind.u64.wrap (Int.tdiv x1 2)) x5)) else (some x5)
def rillmeterref01_Mul.f (k : Nat) (a0 : Int) (a1 : Int) : Option (Int) := rillmeterref01_Mul.l0 k (Int.tmod a0 2305843009213693951) (Int.tmod a1 2305843009213693951) 0
theorem rillmeterref01_Mul.mono_l : ∀ k, (∀ y0 y1 y2, LeO (rillmeterref01_Mul.l0 k y0 y1 y2) (rillmeterref01_Mul.l0 (k + 1) y0 y1 y2))
  | 0 => fun _ _ _ r h => by simp [rillmeterref01_Mul.l0] at h
  | k + 1 => by
    have ih0 := rillmeterref01_Mul.mono_l k
    · intro y0 y1 y2
      unfold rillmeterref01_Mul.l0
      repeat' first
      | (with_reducible exact ih0 _ _ _)
      | (with_reducible exact LeO.refl _)
      | (with_reducible exact LeO.none _)
      | (with_reducible refine LeO.ite ?_ ?_)
      | (with_reducible refine LeO.bind ?_ (fun _ => ?_))
      | exact ih0 _ _ _
      | exact LeO.none _
      | refine LeO.ite ?_ ?_
      | refine LeO.bind ?_ (fun _ => ?_)
theorem rillmeterref01_Mul.mono : ∀ a0 a1 k, LeO (rillmeterref01_Mul.f k a0 a1) (rillmeterref01_Mul.f (k + 1) a0 a1) := by
  intro a0 a1 k
  have ih0 := rillmeterref01_Mul.mono_l k
  unfold rillmeterref01_Mul.f
  repeat' first
      | (with_reducible exact ih0 _ _ _)
      | (with_reducible exact LeO.refl _)
      | (with_reducible exact LeO.none _)
      | (with_reducible refine LeO.ite ?_ ?_)
      | (with_reducible refine LeO.bind ?_ (fun _ => ?_))
      | exact ih0 _ _ _
      | exact LeO.none _
      | refine LeO.ite ?_ ?_
      | refine LeO.bind ?_ (fun _ => ?_)
set_option maxHeartbeats 8000000 in
set_option maxRecDepth 100000 in
theorem rillmeterref01_Mul.calls (k : Nat) (a0 : Int) (a1 : Int) (r : Int) (w : World) (h : rillmeterref01_Mul.f k a0 a1 = some r) :
    Calls Try.prog 48 #[.int .u64 a0, .int .u64 a1] w fun e w' => e = .returned (.int .u64 r) ∧ Drawn0 w w' := by
  have H : (rillmeterref01_Mul.l0 k (Int.tmod a0 2305843009213693951) (Int.tmod a1 2305843009213693951) 0) = some r := h
  clear h
  have H' := Aside0.mk H
  clear H
  go_enter Try.func48, Try.ntmps48
  go_wp2
  go_loopg [0, 1, 5] k (fun kq v0 v1 v5 w' => ∃ (x0_1 : Int) (x1_1 : Int) (x5_1 : Int), v0 = .int .u64 x0_1 ∧ v1 = .int .u64 x1_1 ∧ v5 = .int .u64 x5_1 ∧ Aside0 (rillmeterref01_Mul.l0 kq x0_1 x1_1 x5_1 = some r) ∧ Aside0 (kq ≤ k) ∧ Drawn0 w w')
  case atStart => exact ⟨(Int.tmod a0 2305843009213693951), (Int.tmod a1 2305843009213693951), (0), (by first | rfl | (simp; done) | (simp [*]; done)), (by first | rfl | (simp; done) | (simp [*]; done)), (by first | rfl | (simp; done) | (simp [*]; done)), H', ⟨Nat.le_refl _⟩, by repeat (first | exact Drawn0.refl _ | apply Drawn0.step)⟩
  case round =>
    clear H'
    try clear p2
    obtain ⟨x0_1, x1_1, x5_1, rfl, rfl, rfl, HA, HK1, ⟨m1, rfl⟩⟩ := hrel
    cases gk with
    | zero => exact absurd HA.out (by simp [rillmeterref01_Mul.l0])
    | succ k1 =>
      have H := HA.out
      clear HA
      simp only [rillmeterref01_Mul.l0] at H
      by_cases c3 : x1_1 > 0
      · rw [if_pos c3] at H
        have c3b0 : decide (0 < x1_1) = true := decide_eq_true c3
        clear c3
        by_cases c4 : (Int.tmod x1_1 2) = 1
        · rw [if_pos c4] at H
          have c4b0 : ((Int.tmod x1_1 2) == 1) = true := beq_iff_eq.mpr c4
          have c4b1 : ((Int.tmod x1_1 2) != 1) = false := bne_eq_false_iff_eq.mpr c4
          clear c4
          have H' := Aside0.mk H
          clear H
          go_wp2
          go_roundg k1
          case measure => have := HK1.out; omega
          case rel => exact ⟨(Int.tmod (IntKind.u64.wrap (x0_1 + x0_1)) 2305843009213693951), (IntKind.u64.wrap (Int.tdiv x1_1 2)), (Int.tmod (IntKind.u64.wrap (x5_1 + x0_1)) 2305843009213693951), (by first | rfl | (simp; done) | (simp [*]; done)), (by first | rfl | (simp; done) | (simp [*]; done)), (by first | rfl | (simp; done) | (simp [*]; done)), H', ⟨by have := HK1.out; omega⟩, by repeat (first | exact Drawn0.refl _ | apply Drawn0.step)⟩
        · rw [if_neg c4] at H
          have c4b0 : ((Int.tmod x1_1 2) == 1) = false := beq_eq_false_iff_ne.mpr c4
          have c4b1 : ((Int.tmod x1_1 2) != 1) = true := bne_iff_ne.mpr c4
          have H' := Aside0.mk H
          clear H
          go_wp2
          go_roundg k1
          case measure => have := HK1.out; omega
          case rel => exact ⟨(Int.tmod (IntKind.u64.wrap (x0_1 + x0_1)) 2305843009213693951), (IntKind.u64.wrap (Int.tdiv x1_1 2)), (x5_1), (by first | rfl | (simp; done) | (simp [*]; done)), (by first | rfl | (simp; done) | (simp [*]; done)), (by first | rfl | (simp; done) | (simp [*]; done)), H', ⟨by have := HK1.out; omega⟩, by repeat (first | exact Drawn0.refl _ | apply Drawn0.step)⟩
      · rw [if_neg c3] at H
        have c3b0 : decide (0 < x1_1) = false := decide_eq_false c3
        clear c3
        obtain rfl := Option.some.inj H
        go_wp2
        go_ret
        exact ⟨by first | rfl | (simp; done) | (simp [*]; done), by repeat (first | exact Drawn0.refl _ | apply Drawn0.step)⟩

end Go.Proofs.Yteaeigpeaneicaa.G
end

section
-- Printed by gprint.py: a program of this session over the kit's print. Not trusted: Lean checks it.
namespace Go.Proofs.Yteaeigpeaneicaa.G
open Go.RowKit Go.Proofs.YteaeigpeaneicaaW.PrintWords Go.Proofs.YteaeigpeaneicaaW.PrintLast Go.Proofs.YteaeigpeaneicaaW.PrintMore
attribute [local go_sem] max2_int min2_int max_two min_two max_three min_three max_four min_four   -- for this text's walks alone
set_option linter.unusedVariables false
set_option linter.unusedSimpArgs false

/-! ### rillmeterref01_Add: function 49 -/
def rillmeterref01_Add.f (a0 : Int) (a1 : Int) : Option (Int) := some (Int.tmod (IntKind.u64.wrap ((Int.tmod a0 2305843009213693951) + (Int.tmod a1 2305843009213693951))) 2305843009213693951)
set_option maxHeartbeats 8000000 in
set_option maxRecDepth 100000 in
theorem rillmeterref01_Add.calls (a0 : Int) (a1 : Int) (r : Int) (w : World) (h : rillmeterref01_Add.f a0 a1 = some r) :
    Calls Try.prog 49 #[.int .u64 a0, .int .u64 a1] w fun e w' => e = .returned (.int .u64 r) ∧ Drawn0 w w' := by
  have H : (some (Int.tmod (IntKind.u64.wrap ((Int.tmod a0 2305843009213693951) + (Int.tmod a1 2305843009213693951))) 2305843009213693951)) = some r := h
  clear h
  obtain rfl := Option.some.inj H
  go_enter Try.func49, Try.ntmps49
  go_wp2
  go_ret
  exact ⟨by first | rfl | (simp; done) | (simp [*]; done), by repeat (first | exact Drawn0.refl _ | apply Drawn0.step)⟩

end Go.Proofs.Yteaeigpeaneicaa.G
end

section
-- Printed by gprint.py: a program of this session over the kit's print. Not trusted: Lean checks it.
namespace Go.Proofs.Yteaeigpeaneicaa.G
open Go.RowKit Go.Proofs.YteaeigpeaneicaaW.PrintWords Go.Proofs.YteaeigpeaneicaaW.PrintLast Go.Proofs.YteaeigpeaneicaaW.PrintMore
attribute [local go_sem] max2_int min2_int max_two min_two max_three min_three max_four min_four   -- for this text's walks alone
set_option linter.unusedVariables false
set_option linter.unusedSimpArgs false

/-! ### rillmeterref01_Pow: function 50 -/
def rillmeterref01_Pow.f : Nat → Int → Int → Option (Int)
  | 0, _, _ => none
  | k + 1, a0, a1 => if a1 = 0 then (some 1) else ((rillmeterref01_Pow.f k a0 (IntKind.u64.wrap (Int.tdiv a1 2))).bind fun t254 => ((rillmeterref01_Mul.f k t254 t254).bind fun t255 => (if (Int.tmod a1 2) = 1 then ((rillmeterref01_Mul.f k t255 a0).bind fun t256 => (some t256)) else (some t255))))
theorem rillmeterref01_Pow.mono_l : ∀ k, (∀ y0 y1, LeO (rillmeterref01_Pow.f k y0 y1) (rillmeterref01_Pow.f (k + 1) y0 y1))
  | 0 => fun _ _ r h => by simp [rillmeterref01_Pow.f] at h
  | k + 1 => by
    have ih0 := rillmeterref01_Pow.mono_l k
    · intro y0 y1
      unfold rillmeterref01_Pow.f
      repeat' first
      | (with_reducible exact ih0 _ _)
      | (with_reducible exact rillmeterref01_Mul.mono _ _ _)
      | (with_reducible exact LeO.refl _)
      | (with_reducible exact LeO.none _)
      | (with_reducible refine LeO.ite ?_ ?_)
      | (with_reducible refine LeO.bind ?_ (fun _ => ?_))
      | exact ih0 _ _
      | exact rillmeterref01_Mul.mono _ _ _
      | exact LeO.none _
      | refine LeO.ite ?_ ?_
      | refine LeO.bind ?_ (fun _ => ?_)
theorem rillmeterref01_Pow.mono : ∀ a0 a1 k, LeO (rillmeterref01_Pow.f k a0 a1) (rillmeterref01_Pow.f (k + 1) a0 a1) := by
  intro a0 a1 k
  have ih0 := rillmeterref01_Pow.mono_l k
  exact ih0 a0 a1
set_option maxHeartbeats 8000000 in
set_option maxRecDepth 100000 in
theorem rillmeterref01_Pow.calls (k : Nat) : ∀ (a0 : Int) (a1 : Int) (r : Int) (w : World) (h : rillmeterref01_Pow.f k a0 a1 = some r),
    Calls Try.prog 50 #[.int .u64 a0, .int .u64 a1] w fun e w' => e = .returned (.int .u64 r) ∧ Drawn0 w w' := by
  induction k using Nat.strongRecOn with
  | _ k ih =>
  intro a0 a1 r w h
  cases k with
  | zero => exact absurd h (by simp [rillmeterref01_Pow.f])
  | succ k =>
  simp only [rillmeterref01_Pow.f] at h
  have H : (if a1 = 0 then (some 1) else ((rillmeterref01_Pow.f k a0 (IntKind.u64.wrap (Int.tdiv a1 2))).bind fun t254 => ((rillmeterref01_Mul.f k t254 t254).bind fun t255 => (if (Int.tmod a1 2) = 1 then ((rillmeterref01_Mul.f k t255 a0).bind fun t256 => (some t256)) else (some t255))))) = some r := h
  clear h
  by_cases c3 : a1 = 0
  · rw [if_pos c3] at H
    have c3b0 : (a1 == 0) = true := beq_iff_eq.mpr c3
    have c3b1 : (a1 != 0) = false := bne_eq_false_iff_eq.mpr c3
    clear c3
    obtain rfl := Option.some.inj H
    go_enter Try.func50, Try.ntmps50
    go_wp2
    go_ret
    exact ⟨by first | rfl | (simp; done) | (simp [*]; done), by repeat (first | exact Drawn0.refl _ | apply Drawn0.step)⟩
  · rw [if_neg c3] at H
    have c3b0 : (a1 == 0) = false := beq_eq_false_iff_ne.mpr c3
    have c3b1 : (a1 != 0) = true := bne_iff_ne.mpr c3
    replace H := Option.bind_eq_some_iff.mp H
    obtain ⟨t254, A40, H⟩ := H
    replace H : ((rillmeterref01_Mul.f k t254 t254).bind fun t255 => (if (Int.tmod a1 2) = 1 then ((rillmeterref01_Mul.f k t255 a0).bind fun t256 => (some t256)) else (some t255))) = some r := H
    have A4 := Aside0.mk A40
    clear A40
    replace H := Option.bind_eq_some_iff.mp H
    obtain ⟨t255, A50, H⟩ := H
    replace H : (if (Int.tmod a1 2) = 1 then ((rillmeterref01_Mul.f k t255 a0).bind fun t256 => (some t256)) else (some t255)) = some r := H
    have A5 := Aside0.mk A50
    clear A50
    by_cases c6 : (Int.tmod a1 2) = 1
    · rw [if_pos c6] at H
      have c6b0 : ((Int.tmod a1 2) == 1) = true := beq_iff_eq.mpr c6
      have c6b1 : ((Int.tmod a1 2) != 1) = false := bne_eq_false_iff_eq.mpr c6
      clear c6
      replace H := Option.bind_eq_some_iff.mp H
      obtain ⟨t256, A70, H⟩ := H
      replace H : (some t256) = some r := H
      have A7 := Aside0.mk A70
      clear A70
      obtain rfl := Option.some.inj H
      go_enter Try.func50, Try.ntmps50
      go_wp2_with (first | ((with_reducible refine gate_callee (f := 50) rfl ?_); refine goesL_ (some 11) rfl rfl Try.func50 (by kernel_rfl) rfl #[.int .u64 a0, .int .u64 (IntKind.u64.wrap (Int.tdiv a1 2))] rfl (by (try simp only [List.map_toArray, List.map_cons, List.map_nil]); first | done | rfl | (simp only [List.length_drop, List.length_take]; rfl)) ?_; (with_reducible refine (ih k (by omega) a0 (IntKind.u64.wrap (Int.tdiv a1 2)) t254 _ A4.out).mono ?_); rintro e w' ⟨rfl, ⟨nd, rfl⟩⟩; refine ⟨_, rfl, ?_⟩) | ((with_reducible refine gate_callee (f := 48) rfl ?_); refine goesL_ (some 14) rfl rfl Try.func48 (by kernel_rfl) rfl #[.int .u64 t254, .int .u64 t254] rfl (by (try simp only [List.map_toArray, List.map_cons, List.map_nil]); first | done | rfl | (simp only [List.length_drop, List.length_take]; rfl)) ?_; (with_reducible refine (rillmeterref01_Mul.calls k t254 t254 t255 _ A5.out).mono ?_); rintro e w' ⟨rfl, ⟨nd, rfl⟩⟩; refine ⟨_, rfl, ?_⟩) | ((with_reducible refine gate_callee (f := 48) rfl ?_); refine goesL_ (some 20) rfl rfl Try.func48 (by kernel_rfl) rfl #[.int .u64 t255, .int .u64 a0] rfl (by (try simp only [List.map_toArray, List.map_cons, List.map_nil]); first | done | rfl | (simp only [List.length_drop, List.length_take]; rfl)) ?_; (with_reducible refine (rillmeterref01_Mul.calls k t255 a0 t256 _ A7.out).mono ?_); rintro e w' ⟨rfl, ⟨nd, rfl⟩⟩; refine ⟨_, rfl, ?_⟩))
      go_ret
      exact ⟨by first | rfl | (simp; done) | (simp [*]; done), by repeat (first | exact Drawn0.refl _ | apply Drawn0.step)⟩
    · rw [if_neg c6] at H
      have c6b0 : ((Int.tmod a1 2) == 1) = false := beq_eq_false_iff_ne.mpr c6
      have c6b1 : ((Int.tmod a1 2) != 1) = true := bne_iff_ne.mpr c6
      obtain rfl := Option.some.inj H
      go_enter Try.func50, Try.ntmps50
      go_wp2_with (first | ((with_reducible refine gate_callee (f := 50) rfl ?_); refine goesL_ (some 11) rfl rfl Try.func50 (by kernel_rfl) rfl #[.int .u64 a0, .int .u64 (IntKind.u64.wrap (Int.tdiv a1 2))] rfl (by (try simp only [List.map_toArray, List.map_cons, List.map_nil]); first | done | rfl | (simp only [List.length_drop, List.length_take]; rfl)) ?_; (with_reducible refine (ih k (by omega) a0 (IntKind.u64.wrap (Int.tdiv a1 2)) t254 _ A4.out).mono ?_); rintro e w' ⟨rfl, ⟨nd, rfl⟩⟩; refine ⟨_, rfl, ?_⟩) | ((with_reducible refine gate_callee (f := 48) rfl ?_); refine goesL_ (some 14) rfl rfl Try.func48 (by kernel_rfl) rfl #[.int .u64 t254, .int .u64 t254] rfl (by (try simp only [List.map_toArray, List.map_cons, List.map_nil]); first | done | rfl | (simp only [List.length_drop, List.length_take]; rfl)) ?_; (with_reducible refine (rillmeterref01_Mul.calls k t254 t254 t255 _ A5.out).mono ?_); rintro e w' ⟨rfl, ⟨nd, rfl⟩⟩; refine ⟨_, rfl, ?_⟩))
      go_ret
      exact ⟨by first | rfl | (simp; done) | (simp [*]; done), by repeat (first | exact Drawn0.refl _ | apply Drawn0.step)⟩

end Go.Proofs.Yteaeigpeaneicaa.G
end

section
-- Printed by gprint.py: a program of this session over the kit's print. Not trusted: Lean checks it.
namespace Go.Proofs.Yteaeigpeaneicaa.G
open Go.RowKit Go.Proofs.YteaeigpeaneicaaW.PrintWords Go.Proofs.YteaeigpeaneicaaW.PrintLast Go.Proofs.YteaeigpeaneicaaW.PrintMore
attribute [local go_sem] max2_int min2_int max_two min_two max_three min_three max_four min_four   -- for this text's walks alone
set_option linter.unusedVariables false
set_option linter.unusedSimpArgs false

/-! ### rillmeterref01_Of: function 66 -/
def rillmeterref01_Of.f (a0 : Int) : Option (Int) := some (Int.tmod a0 2305843009213693951)
set_option maxHeartbeats 8000000 in
set_option maxRecDepth 100000 in
theorem rillmeterref01_Of.calls (a0 : Int) (r : Int) (w : World) (h : rillmeterref01_Of.f a0 = some r) :
    Calls Try.prog 66 #[.int .u64 a0] w fun e w' => e = .returned (.int .u64 r) ∧ Drawn0 w w' := by
  have H : (some (Int.tmod a0 2305843009213693951)) = some r := h
  clear h
  obtain rfl := Option.some.inj H
  go_enter Try.func66, Try.ntmps66
  go_wp2
  go_ret
  exact ⟨by first | rfl | (simp; done) | (simp [*]; done), by repeat (first | exact Drawn0.refl _ | apply Drawn0.step)⟩

end Go.Proofs.Yteaeigpeaneicaa.G
end

section
-- Printed by gprint.py: a program of this session over the kit's print. Not trusted: Lean checks it.
namespace Go.Proofs.Yteaeigpeaneicaa.G
open Go.RowKit Go.Proofs.YteaeigpeaneicaaW.PrintWords Go.Proofs.YteaeigpeaneicaaW.PrintLast Go.Proofs.YteaeigpeaneicaaW.PrintMore
attribute [local go_sem] max2_int min2_int max_two min_two max_three min_three max_four min_four   -- for this text's walks alone
set_option linter.unusedVariables false
set_option linter.unusedSimpArgs false

/-! ### rillmeterref02_words: function 67 -/
mutual
def rillmeterref02_words.l0 : Nat → ByteArray → Option (List Int)
 | 0, _ => none
 | k + 1, x0 => if ((x0.size : Int) % 4) = 0 then (rillmeterref02_words.l1 k x0 ([] : List Int) 0) else ((some (([0] : List Int) : List Int)).bind fun y257 => (if x0.size + (strOfNums y257).size ≤ 9223372036854775807 then (rillmeterref02_words.l0 k (x0 ++ (strOfNums y257))) else (none)))
def rillmeterref02_words.l1 : Nat → ByteArray → List Int → Int → Option (List Int)
 | 0, _, _, _ => none
 | k + 1, x0, x3, x4 => if x4 < (x0.size : Int) then (if 0 ≤ x4 then (if 0 ≤ (wrap64 (x4 + 1)) then (if (wrap64 (x4 + 1)) < (x0.size : Int) then (if 0 ≤ (wrap64 (x4 + 2)) then (if (wrap64 (x4 + 2)) < (x0.size : Int) then (if 0 ≤ (wrap64 (x4 + 3)) then (if (wrap64 (x4 + 3)) < (x0.size : Int) then (if x3.length < 17592186044416 then (rillmeterref02_words.l1 k x0 (x3 ++ [IntKind.u64.wrap ((IntKind.u64.wrap ((IntKind.u64.wrap ((IntKind.u64.wrap ((IntKind.u64.wrap (bt x0 x4)) * 16777216)) + (IntKind.u64.wrap ((IntKind.u64.wrap (bt x0 (wrap64 (x4 + 1)))) * 65536)))) + (IntKind.u64.wrap ((IntKind.u64.wrap (bt x0 (wrap64 (x4 + 2)))) * 256)))) + (IntKind.u64.wrap (bt x0 (wrap64 (x4 + 3)))))]) (wrap64 (x4 + 4))) else (none)) else (none)) else (none)) else (none)) else (none)) else (none)) else (none)) else (none)) else (some x3)
end
def rillmeterref02_words.f (k : Nat) (a0 : ByteArray) : Option (List Int) := rillmeterref02_words.l0 k a0
theorem rillmeterref02_words.mono_l : ∀ k, (∀ y0, LeO (rillmeterref02_words.l0 k y0) (rillmeterref02_words.l0 (k + 1) y0)) ∧ (∀ y0 y1 y2, LeO (rillmeterref02_words.l1 k y0 y1 y2) (rillmeterref02_words.l1 (k + 1) y0 y1 y2))
 | 0 => ⟨fun _ r h => by simp [rillmeterref02_words.l0] at h, fun _ _ _ r h => by simp [rillmeterref02_words.l1] at h⟩
 | k + 1 => by
  obtain ⟨ih0, ih1⟩ := rillmeterref02_words.mono_l k
  refine ⟨?_, ?_⟩
  ·
   intro y0
   unfold rillmeterref02_words.l0
   repeat' first
   | (with_reducible exact ih0 _)
   | (with_reducible exact ih1 _ _ _)
   | (with_reducible exact LeO.refl _)
   | (with_reducible exact LeO.none _)
   | (with_reducible refine LeO.ite ?_ ?_)
   | (with_reducible refine LeO.bind ?_ (fun _ => ?_))
   | exact ih0 _
   | exact ih1 _ _ _
   | exact LeO.none _
   | refine LeO.ite ?_ ?_
   | refine LeO.bind ?_ (fun _ => ?_)
  ·
   intro y0 y1 y2
   unfold rillmeterref02_words.l1
   repeat' first
   | (with_reducible exact ih0 _)
   | (with_reducible exact ih1 _ _ _)
   | (with_reducible exact LeO.refl _)
   | (with_reducible exact LeO.none _)
   | (with_reducible refine LeO.ite ?_ ?_)
   | (with_reducible refine LeO.bind ?_ (fun _ => ?_))
   | exact ih0 _
   | exact ih1 _ _ _
   | exact LeO.none _
   | refine LeO.ite ?_ ?_
   | refine LeO.bind ?_ (fun _ => ?_)
theorem rillmeterref02_words.mono : ∀ a0 k, LeO (rillmeterref02_words.f k a0) (rillmeterref02_words.f (k + 1) a0) := by
 intro a0 k
 obtain ⟨ih0, ih1⟩ := rillmeterref02_words.mono_l k
 unfold rillmeterref02_words.f
 repeat' first
   | (with_reducible exact ih0 _)
   | (with_reducible exact ih1 _ _ _)
   | (with_reducible exact LeO.refl _)
   | (with_reducible exact LeO.none _)
   | (with_reducible refine LeO.ite ?_ ?_)
   | (with_reducible refine LeO.bind ?_ (fun _ => ?_))
   | exact ih0 _
   | exact ih1 _ _ _
   | exact LeO.none _
   | refine LeO.ite ?_ ?_
   | refine LeO.bind ?_ (fun _ => ?_)
def rillmeterref02_words.T7 : Bool × List (List Nat × List Nat) := (true, [([], []), ([], []), ([], []), ([1, 2], [1, 2]), ([3], [3]), ([4], [4]), ([], []), ([], []), ([7], [7]), ([6, 8], [6, 8]), ([9], [9]), ([10], [10]), ([5, 11], [5, 11]), ([], []), ([], []), ([14], [14]), ([13, 15], [13, 15]), ([16], [16]), ([17], [17]), ([12, 18], [12, 18]), ([], []), ([], []), ([21], [21]), ([20, 22], [20, 22]), ([23], [23]), ([19, 24], [19, 24]), ([25], [25]), ([0, 26], [0, 26]), ([27, 27, 0, 1, 2, 3, 4, 5, 6, 7, 8, 9, 10, 11, 12, 13, 14, 15, 16, 17, 18, 19, 20, 21, 22, 23, 24, 25, 26, 27], [0, 27])])
def rillmeterref02_words.B7 : List Nat := [0, 0, 0, 6, 14, 30, 0, 0, 128, 448, 960, 1984, 4094, 0, 0, 16384, 57344, 122880, 253952, 524286, 0, 0, 2097152, 7340032, 15728640, 33554430, 67108862, 134217727, 268435455]
theorem rillmeterref02_words.tab7 : rtab .any (opsOf Try.f67 7) = rillmeterref02_words.T7 := by kernel_rfl
theorem rillmeterref02_words.bits7 : waitsOk rillmeterref02_words.T7.2 rillmeterref02_words.B7 = true := by kernel_rfl
set_option maxHeartbeats 8000000 in
set_option maxRecDepth 100000 in
theorem rillmeterref02_words.calls (k : Nat) (a0 : ByteArray) (r : List Int) (w : World) (h : rillmeterref02_words.f k a0 = some r) :
  Calls Try.prog 67 #[.string a0] w fun e w' => ∃ v0_ : Value, e = .returned (v0_) ∧ Kd.R (Kd.int .u64) 22 w' w.heap.size (fun _ => True) v0_ r ∧ Below w.heap.size w w' := by
 have HB := Aside0.mk (Below.refl w.heap.size w)
 have H : (rillmeterref02_words.l0 k a0) = some r := h
 clear h
 have H' := Aside0.mk H
 clear H
 go_enter Try.func67, Try.ntmps67
 go_wp2
 go_loopg [0] k (fun kq v0 w' => ∃ (x0_1 : ByteArray), v0 = .string x0_1 ∧ Aside0 (rillmeterref02_words.l0 kq x0_1 = some r) ∧ Aside0 (kq ≤ k) ∧ Aside0 (Below w.heap.size w w'))
 case atStart => exact ⟨(a0), (by first | rfl | (simp; done) | (simp [*]; done)), H', ⟨Nat.le_refl _⟩, ⟨pH HB⟩⟩
 case round =>
  clear H'
  obtain ⟨x0_1, rfl, HA, HK1, HB⟩ := hrel
  cases gk with
  | zero => exact absurd HA.out (by simp [rillmeterref02_words.l0])
  | succ k1 =>
   have H := HA.out
   clear HA
   simp only [rillmeterref02_words.l0] at H
   by_cases c2 : ((x0_1.size : Int) % 4) = 0
   ·
    rw [if_pos c2] at H
    have c2b0 : (((x0_1.size : Int) % 4) == 0) = true := beq_iff_eq.mpr c2
    have c2b1 : (((x0_1.size : Int) % 4) != 0) = false := bne_eq_false_iff_eq.mpr c2
    clear c2
    have H' := Aside0.mk H
    clear H
    go_wp2
    go_loopg [3, 4] k1 (fun kq v3 v4 w' => ∃ (x3_2 : List Int) (x4_2 : Int), v4 = .int .i64 x4_2 ∧ Aside0 (rillmeterref02_words.l1 kq x0_1 x3_2 x4_2 = some r) ∧ Aside0 (kq ≤ k1) ∧ Aside0 (Kd.R (Kd.int .u64) 22 w' w.heap.size (fun _ => True) v3 x3_2) ∧ Aside0 (Below w.heap.size w w'))
    case atStart => exact ⟨(([] : List Int)), (0), (by first | rfl | (simp; done) | (simp [*]; done)), H', ⟨Nat.le_refl _⟩, ⟨by first | exact Kd.R_nil _ _ _ _ _ | exact Kd.N_nil _ _ _ _ _ | exact Kd.V_nil _ _ _ _ _ | exact Kd.Q_nil _ _ _ _ _ | exact Kd.S_nil _ _ _ _ _⟩, ⟨pH HB⟩⟩
    case round =>
     clear H'
     try clear c2
     try clear c2b0
     try clear c2b1
     try clear p2
     obtain ⟨x3_2, x4_2, rfl, HA, HK2, HO_3, HB⟩ := hrel
     cases gk with
     | zero => exact absurd HA.out (by simp [rillmeterref02_words.l1])
     | succ k2 =>
      have H := HA.out
      clear HA
      simp only [rillmeterref02_words.l1] at H
      by_cases c3 : x4_2 < (x0_1.size : Int)
      ·
       rw [if_pos c3] at H
       have c3b0 : decide (x4_2 < (x0_1.size : Int)) = true := decide_eq_true c3
       clear c3
       by_cases c4 : 0 ≤ x4_2
       ·
        rw [if_pos c4] at H
        have c4b0 : decide (0 ≤ x4_2) = true := decide_eq_true c4
        clear c4
        obtain ⟨ji6, hji6⟩ : ∃ j_ : Int, (wrap64 (x4_2 + 1)) = j_ := ⟨_, rfl⟩
        replace H : (if 0 ≤ (ji6) then (if (ji6) < (x0_1.size : Int) then (if 0 ≤ (wrap64 (x4_2 + 2)) then (if (wrap64 (x4_2 + 2)) < (x0_1.size : Int) then (if 0 ≤ (wrap64 (x4_2 + 3)) then (if (wrap64 (x4_2 + 3)) < (x0_1.size : Int) then (if x3_2.length < 17592186044416 then (rillmeterref02_words.l1 k2 x0_1 (x3_2 ++ [IntKind.u64.wrap ((IntKind.u64.wrap ((IntKind.u64.wrap ((IntKind.u64.wrap ((IntKind.u64.wrap (bt x0_1 x4_2)) * 16777216)) + (IntKind.u64.wrap ((IntKind.u64.wrap (bt x0_1 (ji6))) * 65536)))) + (IntKind.u64.wrap ((IntKind.u64.wrap (bt x0_1 (wrap64 (x4_2 + 2)))) * 256)))) + (IntKind.u64.wrap (bt x0_1 (wrap64 (x4_2 + 3)))))]) (wrap64 (x4_2 + 4))) else (none)) else (none)) else (none)) else (none)) else (none)) else (none)) else (none)) = some r := by first | (rw [hji6] at H; exact H) | (simp only [hji6] at H ⊢; exact H)
        have hji6w : (IntKind.i64.wrap (x4_2 + 1)) = ji6 := (i64_w _).trans hji6
        by_cases c7 : 0 ≤ (ji6)
        ·
         rw [if_pos c7] at H
         have c7b0 : decide (0 ≤ (ji6)) = true := decide_eq_true c7
         clear c7
         by_cases c8 : (ji6) < (x0_1.size : Int)
         ·
          rw [if_pos c8] at H
          have c8b0 : decide ((ji6) < (x0_1.size : Int)) = true := decide_eq_true c8
          clear c8
          obtain ⟨ji10, hji10⟩ : ∃ j_ : Int, (wrap64 (x4_2 + 2)) = j_ := ⟨_, rfl⟩
          replace H : (if 0 ≤ (ji10) then (if (ji10) < (x0_1.size : Int) then (if 0 ≤ (wrap64 (x4_2 + 3)) then (if (wrap64 (x4_2 + 3)) < (x0_1.size : Int) then (if x3_2.length < 17592186044416 then (rillmeterref02_words.l1 k2 x0_1 (x3_2 ++ [IntKind.u64.wrap ((IntKind.u64.wrap ((IntKind.u64.wrap ((IntKind.u64.wrap ((IntKind.u64.wrap (bt x0_1 x4_2)) * 16777216)) + (IntKind.u64.wrap ((IntKind.u64.wrap (bt x0_1 (ji6))) * 65536)))) + (IntKind.u64.wrap ((IntKind.u64.wrap (bt x0_1 (ji10))) * 256)))) + (IntKind.u64.wrap (bt x0_1 (wrap64 (x4_2 + 3)))))]) (wrap64 (x4_2 + 4))) else (none)) else (none)) else (none)) else (none)) else (none)) = some r := by first | (rw [hji10] at H; exact H) | (simp only [hji10] at H ⊢; exact H)
          have hji10w : (IntKind.i64.wrap (x4_2 + 2)) = ji10 := (i64_w _).trans hji10
          by_cases c11 : 0 ≤ (ji10)
          ·
           rw [if_pos c11] at H
           have c11b0 : decide (0 ≤ (ji10)) = true := decide_eq_true c11
           clear c11
           by_cases c12 : (ji10) < (x0_1.size : Int)
           ·
            rw [if_pos c12] at H
            have c12b0 : decide ((ji10) < (x0_1.size : Int)) = true := decide_eq_true c12
            clear c12
            obtain ⟨ji14, hji14⟩ : ∃ j_ : Int, (wrap64 (x4_2 + 3)) = j_ := ⟨_, rfl⟩
            replace H : (if 0 ≤ (ji14) then (if (ji14) < (x0_1.size : Int) then (if x3_2.length < 17592186044416 then (rillmeterref02_words.l1 k2 x0_1 (x3_2 ++ [IntKind.u64.wrap ((IntKind.u64.wrap ((IntKind.u64.wrap ((IntKind.u64.wrap ((IntKind.u64.wrap (bt x0_1 x4_2)) * 16777216)) + (IntKind.u64.wrap ((IntKind.u64.wrap (bt x0_1 (ji6))) * 65536)))) + (IntKind.u64.wrap ((IntKind.u64.wrap (bt x0_1 (ji10))) * 256)))) + (IntKind.u64.wrap (bt x0_1 (ji14))))]) (wrap64 (x4_2 + 4))) else (none)) else (none)) else (none)) = some r := by first | (rw [hji14] at H; exact H) | (simp only [hji14] at H ⊢; exact H)
            have hji14w : (IntKind.i64.wrap (x4_2 + 3)) = ji14 := (i64_w _).trans hji14
            by_cases c15 : 0 ≤ (ji14)
            ·
             rw [if_pos c15] at H
             have c15b0 : decide (0 ≤ (ji14)) = true := decide_eq_true c15
             clear c15
             by_cases c16 : (ji14) < (x0_1.size : Int)
             ·
              rw [if_pos c16] at H
              have c16b0 : decide ((ji14) < (x0_1.size : Int)) = true := decide_eq_true c16
              clear c16
              by_cases c18 : x3_2.length < 17592186044416
              ·
               rw [if_pos c18] at H
               have LMc18 := Aside0.mk c18
               clear c18
               obtain ⟨y260, hy260⟩ : ∃ y_ : List Int, y_ = (x3_2 ++ [IntKind.u64.wrap ((IntKind.u64.wrap ((IntKind.u64.wrap ((IntKind.u64.wrap ((IntKind.u64.wrap (bt x0_1 x4_2)) * 16777216)) + (IntKind.u64.wrap ((IntKind.u64.wrap (bt x0_1 (ji6))) * 65536)))) + (IntKind.u64.wrap ((IntKind.u64.wrap (bt x0_1 (ji10))) * 256)))) + (IntKind.u64.wrap (bt x0_1 (ji14))))]) := ⟨_, rfl⟩
               replace H : (rillmeterref02_words.l1 k2 x0_1 y260 (wrap64 (x4_2 + 4))) = some r := by first | (rw [hy260]; with_reducible exact H) | (have H2_ := (Option.bind_some _ _).symm.trans H; rw [hy260]; with_reducible exact H2_) | (have H2_ := (Option.bind_some _ _).symm.trans H; with_reducible exact H2_) | with_reducible exact H | (rw [hy260]; exact H) | exact H
               have Ny260 := Aside0.mk hy260
               clear hy260
               have H' := Aside0.mk H
               clear H
               try go_wp2
               replace HO_3 := Aside0.mk (Kd.R_drew HO_3.out)
               replace HB := Aside0.mk (below_drew1 HB.out)
               have p5 : 0 ≤ (x4_2 : Int) := of_decide_eq_true (by first | (with_reducible assumption) | assumption)
               have q5 : x4_2 < (x0_1.size : Int) := of_decide_eq_true (by first | (with_reducible assumption) | assumption)
               have hx5 := bt_at x0_1 x4_2
               replace p5 := eq_true p5
               replace q5 := eq_true q5
               have p9 : 0 ≤ ((ji6) : Int) := of_decide_eq_true (by first | (with_reducible assumption) | assumption)
               have q9 : (ji6) < (x0_1.size : Int) := of_decide_eq_true (by first | (with_reducible assumption) | assumption)
               have hx9 := bt_at x0_1 (ji6)
               replace p9 := eq_true p9
               replace q9 := eq_true q9
               have p13 : 0 ≤ ((ji10) : Int) := of_decide_eq_true (by first | (with_reducible assumption) | assumption)
               have q13 : (ji10) < (x0_1.size : Int) := of_decide_eq_true (by first | (with_reducible assumption) | assumption)
               have hx13 := bt_at x0_1 (ji10)
               replace p13 := eq_true p13
               replace q13 := eq_true q13
               have p17 : 0 ≤ ((ji14) : Int) := of_decide_eq_true (by first | (with_reducible assumption) | assumption)
               have q17 : (ji14) < (x0_1.size : Int) := of_decide_eq_true (by first | (with_reducible assumption) | assumption)
               have hx17 := bt_at x0_1 (ji14)
               replace p17 := eq_true p17
               replace q17 := eq_true q17
               refine start_ (n := 29) (S := fun w' => True) (ds := []) #[false, false, false, false, false, false, false, false, false, false, false, false, false, false, false, false, false, false, false, false, false, false, false, false, false, false, false, false, false] (by kernel_rfl) rfl rfl trivial (fun hHeld => ?_); refine with_tabW rillmeterref02_words.tab7 rillmeterref02_words.bits7 (fun HT_ HW_ => ?_)
               generalize wr.drew = w19 at HO_3 HB hHeld ⊢
               refine pure_ (i := 0) (N := some 19) (v := ?_) (a' := ?_) (mkB 29 1) rfl rfl (any_of HT_.out (by kernel_rfl)) (fun _ _ _ h => h) (Or.inl ⟨by rfl, ?_⟩) ?_ ?_
               rotate_left
               ·
                intro w'
                go_simp
                with_reducible rfl
               rotate_left
               ·
                simp only [Act.put, List.setIfInBounds_toArray, List.set_cons_zero, List.set_cons_succ, i64_w, i32_w]
                rfl
               refine pure_ (i := 1) (N := some 20) (v := ?_) (a' := ?_) (mkB 29 3) rfl rfl (any_of HT_.out (by kernel_rfl)) (fun _ _ _ h => h) (Or.inl ⟨by rfl, ?_⟩) ?_ ?_
               rotate_left
               ·
                intro w'
                go_simp
                with_reducible rfl
               rotate_left
               ·
                simp only [Act.put, List.setIfInBounds_toArray, List.set_cons_zero, List.set_cons_succ, i64_w, i32_w]
                rfl
               refine pure_ (i := 2) (N := some 21) (v := ?_) (a' := ?_) (mkB 29 7) rfl rfl (any_of HT_.out (by kernel_rfl)) (fun _ _ _ h => h) (Or.inl ⟨by rfl, ?_⟩) ?_ ?_
               rotate_left
               ·
                intro w'
                go_simp
                with_reducible rfl
               rotate_left
               ·
                simp only [Act.put, List.setIfInBounds_toArray, List.set_cons_zero, List.set_cons_succ, i64_w, i32_w]
                rfl
               refine pure_ (i := 6) (N := some 25) (v := ?_) (a' := ?_) (mkB 29 71) rfl rfl (any_of HT_.out (by kernel_rfl)) (fun _ _ _ h => h) (Or.inl ⟨by rfl, ?_⟩) ?_ ?_
               rotate_left
               ·
                intro w'
                go_simp
                with_reducible rfl
               rotate_left
               ·
                simp only [Act.put, List.setIfInBounds_toArray, List.set_cons_zero, List.set_cons_succ, i64_w, i32_w]
                rfl
               refine pure_ (i := 7) (N := some 26) (v := ?_) (a' := ?_) (mkB 29 199) rfl rfl (any_of HT_.out (by kernel_rfl)) (fun _ _ _ h => h) (Or.inl ⟨by rfl, ?_⟩) ?_ ?_
               rotate_left
               ·
                intro w'
                go_simp
                with_reducible rfl
               rotate_left
               ·
                simp only [Act.put, List.setIfInBounds_toArray, List.set_cons_zero, List.set_cons_succ, i64_w, i32_w]
                rfl
               refine pure_ (i := 8) (N := some 27) (v := ?_) (a' := ?_) (mkB 29 455) rfl rfl (any_of HT_.out (by kernel_rfl)) (fun _ _ _ h => h) (Or.inl ⟨by rfl, ?_⟩) ?_ ?_
               rotate_left
               ·
                intro w'
                go_simp
                with_reducible rfl
               rotate_left
               ·
                simp only [Act.put, List.setIfInBounds_toArray, List.set_cons_zero, List.set_cons_succ, i64_w, i32_w]
                rfl
               refine pure_ (i := 13) (N := some 32) (v := ?_) (a' := ?_) (mkB 29 8647) rfl rfl (any_of HT_.out (by kernel_rfl)) (fun _ _ _ h => h) (Or.inl ⟨by rfl, ?_⟩) ?_ ?_
               rotate_left
               ·
                intro w'
                go_simp
                with_reducible rfl
               rotate_left
               ·
                simp only [Act.put, List.setIfInBounds_toArray, List.set_cons_zero, List.set_cons_succ, i64_w, i32_w]
                rfl
               refine pure_ (i := 14) (N := some 33) (v := ?_) (a' := ?_) (mkB 29 25031) rfl rfl (any_of HT_.out (by kernel_rfl)) (fun _ _ _ h => h) (Or.inl ⟨by rfl, ?_⟩) ?_ ?_
               rotate_left
               ·
                intro w'
                go_simp
                with_reducible rfl
               rotate_left
               ·
                simp only [Act.put, List.setIfInBounds_toArray, List.set_cons_zero, List.set_cons_succ, i64_w, i32_w]
                rfl
               refine pure_ (i := 15) (N := some 34) (v := ?_) (a' := ?_) (mkB 29 57799) rfl rfl (any_of HT_.out (by kernel_rfl)) (fun _ _ _ h => h) (Or.inl ⟨by rfl, ?_⟩) ?_ ?_
               rotate_left
               ·
                intro w'
                go_simp
                with_reducible rfl
               rotate_left
               ·
                simp only [Act.put, List.setIfInBounds_toArray, List.set_cons_zero, List.set_cons_succ, i64_w, i32_w]
                rfl
               refine pure_ (i := 20) (N := some 39) (v := ?_) (a' := ?_) (mkB 29 1106375) rfl rfl (any_of HT_.out (by kernel_rfl)) (fun _ _ _ h => h) (Or.inl ⟨by rfl, ?_⟩) ?_ ?_
               rotate_left
               ·
                intro w'
                go_simp
                with_reducible rfl
               rotate_left
               ·
                simp only [Act.put, List.setIfInBounds_toArray, List.set_cons_zero, List.set_cons_succ, i64_w, i32_w]
                rfl
               refine pure_ (i := 21) (N := some 40) (v := ?_) (a' := ?_) (mkB 29 3203527) rfl rfl (any_of HT_.out (by kernel_rfl)) (fun _ _ _ h => h) (Or.inl ⟨by rfl, ?_⟩) ?_ ?_
               rotate_left
               ·
                intro w'
                go_simp
                with_reducible rfl
               rotate_left
               ·
                simp only [Act.put, List.setIfInBounds_toArray, List.set_cons_zero, List.set_cons_succ, i64_w, i32_w]
                rfl
               refine pure_ (i := 22) (N := some 41) (v := ?_) (a' := ?_) (mkB 29 7397831) rfl rfl (any_of HT_.out (by kernel_rfl)) (fun _ _ _ h => h) (Or.inl ⟨by rfl, ?_⟩) ?_ ?_
               rotate_left
               ·
                intro w'
                go_simp
                with_reducible rfl
               rotate_left
               ·
                simp only [Act.put, List.setIfInBounds_toArray, List.set_cons_zero, List.set_cons_succ, i64_w, i32_w]
                rfl
               refine take_ (i := 3) (N := some 22) (v := ?_) (a' := ?_) (mkB 29 7397839) rfl rfl (take_ofW HT_.out HW_.out (by kernel_rfl)) (fun _ _ _ h => h) (Or.inl ⟨by rfl, ?_⟩) hHeld ?_ ?_
               rotate_left
               ·
                intro w' _
                go_simp
                with_reducible rfl
               rotate_left
               ·
                simp only [Act.put, List.setIfInBounds_toArray, List.set_cons_zero, List.set_cons_succ, i64_w, i32_w]
                rfl
               refine pure_ (i := 4) (N := some 23) (v := ?_) (a' := ?_) (mkB 29 7397855) rfl rfl (any_of HT_.out (by kernel_rfl)) (fun _ _ _ h => h) (Or.inl ⟨by rfl, ?_⟩) ?_ ?_
               rotate_left
               ·
                intro w'
                go_simp
                with_reducible rfl
               rotate_left
               ·
                simp only [Act.put, List.setIfInBounds_toArray, List.set_cons_zero, List.set_cons_succ, i64_w, i32_w]
                rfl
               refine pure_ (i := 5) (N := some 24) (v := ?_) (a' := ?_) (mkB 29 7397887) rfl rfl (any_of HT_.out (by kernel_rfl)) (fun _ _ _ h => h) (Or.inl ⟨by rfl, ?_⟩) ?_ ?_
               rotate_left
               ·
                intro w'
                go_simp
                with_reducible rfl
               rotate_left
               ·
                simp only [Act.put, List.setIfInBounds_toArray, List.set_cons_zero, List.set_cons_succ, i64_w, i32_w]
                rfl
               refine take_ (i := 9) (N := some 28) (v := ?_) (a' := ?_) (mkB 29 7398399) rfl rfl (take_ofW HT_.out HW_.out (by kernel_rfl)) (fun _ _ _ h => h) (Or.inl ⟨by rfl, ?_⟩) hHeld ?_ ?_
               rotate_left
               ·
                intro w' _
                go_simp
                with_reducible rfl
               rotate_left
               ·
                simp only [Act.put, List.setIfInBounds_toArray, List.set_cons_zero, List.set_cons_succ, i64_w, i32_w]
                rfl
               refine pure_ (i := 10) (N := some 29) (v := ?_) (a' := ?_) (mkB 29 7399423) rfl rfl (any_of HT_.out (by kernel_rfl)) (fun _ _ _ h => h) (Or.inl ⟨by rfl, ?_⟩) ?_ ?_
               rotate_left
               ·
                intro w'
                go_simp
                with_reducible rfl
               rotate_left
               ·
                simp only [Act.put, List.setIfInBounds_toArray, List.set_cons_zero, List.set_cons_succ, i64_w, i32_w]
                rfl
               refine pure_ (i := 11) (N := some 30) (v := ?_) (a' := ?_) (mkB 29 7401471) rfl rfl (any_of HT_.out (by kernel_rfl)) (fun _ _ _ h => h) (Or.inl ⟨by rfl, ?_⟩) ?_ ?_
               rotate_left
               ·
                intro w'
                go_simp
                with_reducible rfl
               rotate_left
               ·
                simp only [Act.put, List.setIfInBounds_toArray, List.set_cons_zero, List.set_cons_succ, i64_w, i32_w]
                rfl
               refine pure_ (i := 12) (N := some 31) (v := ?_) (a' := ?_) (mkB 29 7405567) rfl rfl (any_of HT_.out (by kernel_rfl)) (fun _ _ _ h => h) (Or.inl ⟨by rfl, ?_⟩) ?_ ?_
               rotate_left
               ·
                intro w'
                go_simp
                with_reducible rfl
               rotate_left
               ·
                simp only [Act.put, List.setIfInBounds_toArray, List.set_cons_zero, List.set_cons_succ, i64_w, i32_w]
                rfl
               refine take_ (i := 16) (N := some 35) (v := ?_) (a' := ?_) (mkB 29 7471103) rfl rfl (take_ofW HT_.out HW_.out (by kernel_rfl)) (fun _ _ _ h => h) (Or.inl ⟨by rfl, ?_⟩) hHeld ?_ ?_
               rotate_left
               ·
                intro w' _
                go_simp
                with_reducible rfl
               rotate_left
               ·
                simp only [Act.put, List.setIfInBounds_toArray, List.set_cons_zero, List.set_cons_succ, i64_w, i32_w]
                rfl
               refine pure_ (i := 17) (N := some 36) (v := ?_) (a' := ?_) (mkB 29 7602175) rfl rfl (any_of HT_.out (by kernel_rfl)) (fun _ _ _ h => h) (Or.inl ⟨by rfl, ?_⟩) ?_ ?_
               rotate_left
               ·
                intro w'
                go_simp
                with_reducible rfl
               rotate_left
               ·
                simp only [Act.put, List.setIfInBounds_toArray, List.set_cons_zero, List.set_cons_succ, i64_w, i32_w]
                rfl
               refine pure_ (i := 18) (N := some 37) (v := ?_) (a' := ?_) (mkB 29 7864319) rfl rfl (any_of HT_.out (by kernel_rfl)) (fun _ _ _ h => h) (Or.inl ⟨by rfl, ?_⟩) ?_ ?_
               rotate_left
               ·
                intro w'
                go_simp
                with_reducible rfl
               rotate_left
               ·
                simp only [Act.put, List.setIfInBounds_toArray, List.set_cons_zero, List.set_cons_succ, i64_w, i32_w]
                rfl
               refine pure_ (i := 19) (N := some 38) (v := ?_) (a' := ?_) (mkB 29 8388607) rfl rfl (any_of HT_.out (by kernel_rfl)) (fun _ _ _ h => h) (Or.inl ⟨by rfl, ?_⟩) ?_ ?_
               rotate_left
               ·
                intro w'
                go_simp
                with_reducible rfl
               rotate_left
               ·
                simp only [Act.put, List.setIfInBounds_toArray, List.set_cons_zero, List.set_cons_succ, i64_w, i32_w]
                rfl
               refine take_ (i := 23) (N := some 42) (v := ?_) (a' := ?_) (mkB 29 16777215) rfl rfl (take_ofW HT_.out HW_.out (by kernel_rfl)) (fun _ _ _ h => h) (Or.inl ⟨by rfl, ?_⟩) hHeld ?_ ?_
               rotate_left
               ·
                intro w' _
                go_simp
                with_reducible rfl
               rotate_left
               ·
                simp only [Act.put, List.setIfInBounds_toArray, List.set_cons_zero, List.set_cons_succ, i64_w, i32_w]
                rfl
               refine pure_ (i := 24) (N := some 43) (v := ?_) (a' := ?_) (mkB 29 33554431) rfl rfl (any_of HT_.out (by kernel_rfl)) (fun _ _ _ h => h) (Or.inl ⟨by rfl, ?_⟩) ?_ ?_
               rotate_left
               ·
                intro w'
                go_simp
                with_reducible rfl
               rotate_left
               ·
                simp only [Act.put, List.setIfInBounds_toArray, List.set_cons_zero, List.set_cons_succ, i64_w, i32_w]
                rfl
               refine pure_ (i := 25) (N := some 44) (v := ?_) (a' := ?_) (mkB 29 67108863) rfl rfl (any_of HT_.out (by kernel_rfl)) (fun _ _ _ h => h) (Or.inl ⟨by rfl, ?_⟩) ?_ ?_
               rotate_left
               ·
                intro w'
                go_simp
                with_reducible rfl
               rotate_left
               ·
                simp only [Act.put, List.setIfInBounds_toArray, List.set_cons_zero, List.set_cons_succ, i64_w, i32_w]
                rfl
               refine one_ (i := 26) (N := some 45) (mkB 29 134217727) rfl rfl (one_of HT_.out (by kernel_rfl)) (by decide) (fun K hK => ?_)
               refine value_ (w1 := ?_) (v := ?_) (by rfl) rfl ?_ ?_
               rotate_left 2
               ·
                go_simp
                constructor
                ·
                 rfl
                ·
                 rfl
               refine hK.out _ _ trivial (fun hHeld => ?_)
               clear hK K
               refine norm_ (a' := ?_) ?_ ?_
               rotate_left
               ·
                show Act.put _ (some 45) _ = _
                simp only [Act.put, List.setIfInBounds_toArray, List.set_cons_zero, List.set_cons_succ, i64_w, i32_w]
                rfl
               refine one_ (i := 27) (N := some 46) (mkB 29 268435455) rfl rfl (one_of HT_.out (by kernel_rfl)) (by decide) (fun K hK => ?_)
               refine Kd.R_append_step (Kd.int .u64) (w0 := w) w.heap.size (by rfl) (.tmp 19) (.tmp 45) 90 22 (.int .u64 0) 8 rfl Try.underlying90 info22 rfl (by decide) (by omega) u3 x3_2 (IntKind.u64.wrap ((IntKind.u64.wrap ((IntKind.u64.wrap ((IntKind.u64.wrap ((IntKind.u64.wrap (bt x0_1 x4_2)) * 16777216)) + (IntKind.u64.wrap ((IntKind.u64.wrap (bt x0_1 (ji6))) * 65536)))) + (IntKind.u64.wrap ((IntKind.u64.wrap (bt x0_1 (ji10))) * 256)))) + (IntKind.u64.wrap (bt x0_1 (ji14))))) [.int .u64 (IntKind.u64.wrap ((IntKind.u64.wrap ((IntKind.u64.wrap ((IntKind.u64.wrap ((IntKind.u64.wrap (bt x0_1 x4_2)) * 16777216)) + (IntKind.u64.wrap ((IntKind.u64.wrap (bt x0_1 (ji6))) * 65536)))) + (IntKind.u64.wrap ((IntKind.u64.wrap (bt x0_1 (ji10))) * 256)))) + (IntKind.u64.wrap (bt x0_1 (ji14)))))] (fun _ => True) (fun _ => False) rfl rfl ?aP (fun _ hk => hk.elim) ?aF ?aO ?aB ?aS ?aL ?_
               (case aP => exact rfl)
               (case aB => exact (pH HB))
               (case aF => exact (fun _ _ => trivial))
               (case aO => exact (pR HO_3))
               (case aS => exact (below_size (pH HB)))
               (case aL => have := LMc18.out; omega)
               intro v261 w20 ho hb hg hat
               rw [← Ny260.out] at ho
               have HO262 := Aside0.mk (ho)
               replace HB := Aside0.mk (hb)
               clear HO_3
               clear ho hb hg hat
               refine hK.out _ _ trivial (fun hHeld => ?_)
               clear hK K
               refine norm_ (a' := ?_) ?_ ?_
               rotate_left
               ·
                show Act.put _ (some 46) _ = _
                simp only [Act.put, List.setIfInBounds_toArray, List.set_cons_zero, List.set_cons_succ, i64_w, i32_w]
                rfl
               refine pure_ (i := 28) (N := some 3) (v := ?_) (a' := ?_) (mkB 29 536870911) rfl rfl (any_of HT_.out (by kernel_rfl)) (fun _ _ _ h => h) (Or.inl ⟨by rfl, ?_⟩) ?_ ?_
               rotate_left
               ·
                intro w'
                go_simp
                with_reducible rfl
               rotate_left
               ·
                simp only [Act.put, List.setIfInBounds_toArray, List.set_cons_zero, List.set_cons_succ, i64_w, i32_w]
                rfl
               refine done_ (done_of HT_.out (by kernel_rfl)) ?_
               try go_wp2
               go_roundg k2
               case measure => have := HK1.out; have := HK2.out; omega
               case rel => exact ⟨(y260), (wrap64 (x4_2 + 4)), (by first | rfl | (simp; done) | (simp [*]; done)), H', ⟨by have := HK1.out; have := HK2.out; omega⟩, ⟨pR HO262⟩, ⟨pH HB⟩⟩
              ·
               rw [if_neg c18] at H
               exact absurd H (by simp)
             ·
              rw [if_neg c16] at H
              exact absurd H (by simp)
            ·
             rw [if_neg c15] at H
             exact absurd H (by simp)
           ·
            rw [if_neg c12] at H
            exact absurd H (by simp)
          ·
           rw [if_neg c11] at H
           exact absurd H (by simp)
         ·
          rw [if_neg c8] at H
          exact absurd H (by simp)
        ·
         rw [if_neg c7] at H
         exact absurd H (by simp)
       ·
        rw [if_neg c4] at H
        exact absurd H (by simp)
      ·
       rw [if_neg c3] at H
       have c3b0 : decide (x4_2 < (x0_1.size : Int)) = false := decide_eq_false c3
       clear c3
       obtain rfl := Option.some.inj H
       go_wp2
       go_ret
       exact ⟨_, by first | rfl | (simp [errW_none, errW_some] <;> rfl) | (simp [*, errW_none, errW_some] <;> rfl), by (with_reducible repeat (first | apply Kd.R_alloc | apply Kd.R_drewN | apply Kd.R_drew)); exact HO_3.out, by repeat (first | (with_reducible first | exact HB.out | apply below_alloc | apply pw_below_drewN | apply below_drew1) | exact HB.out)⟩
   ·
    rw [if_neg c2] at H
    have c2b0 : (((x0_1.size : Int) % 4) == 0) = false := beq_eq_false_iff_ne.mpr c2
    have c2b1 : (((x0_1.size : Int) % 4) != 0) = true := bne_iff_ne.mpr c2
    obtain ⟨y257, hy257⟩ : ∃ y_ : List Int, y_ = (([0] : List Int)) := ⟨_, rfl⟩
    replace H : (if x0_1.size + (strOfNums y257).size ≤ 9223372036854775807 then (rillmeterref02_words.l0 k1 (x0_1 ++ (strOfNums y257))) else (none)) = some r := by first | (rw [hy257]; with_reducible exact H) | (have H2_ := (Option.bind_some _ _).symm.trans H; rw [hy257]; with_reducible exact H2_) | (have H2_ := (Option.bind_some _ _).symm.trans H; with_reducible exact H2_) | with_reducible exact H | (rw [hy257]; exact H) | exact H
    have Ny257 := Aside0.mk hy257
    clear hy257
    by_cases c21 : x0_1.size + (strOfNums y257).size ≤ 9223372036854775807
    ·
     rw [if_pos c21] at H
     have c21b0 := eq_true c21
     have c21b1 : decide (x0_1.size + (strOfNums y257).size ≤ 9223372036854775807) = true := decide_eq_true c21
     try have c21b2 : (9223372036854775807 < x0_1.size + (strOfNums y257).size) = False := eq_false (Nat.not_lt.2 c21)
     have H' := Aside0.mk H
     clear H
     go_wp2_with (first | ((with_reducible refine gate_dst (N := 10) rfl ?_); refine Kd.R_lit (Kd.int .u8) _ 5 ?hg (N := 10) ?hd (xs := ([0] : List Int)) (inner := [.int .u8 0]) (ok := fun _ => True) (okp := fun _ => True) ?hr ?hp (fun _ hk => hk) trivial (Below.refl _ _) (Nat.le_refl _) (by simp) ?_; (case hd => rfl); (case hg => rfl); (case hr => first | (go_simp; done) | (go_simp; rfl)); (case hp => exact (Reps.one (show Kd.M (Kd.int .u8) _ _ _ 0 [.int .u8 0] from rfl) (Reps.none _ _))); intro v258 w22 ho23 hb hg_ hnew_; clear hg_ hnew_; (first | rw [← Ny257.out] at ho23 | (simp only [Int.reduceToNat] at ho23; rw [← Ny257.out] at ho23)); have HO259 := Aside0.mk (Kd.R_lower ho23 (below_size (pH HB))); replace HB := stB HB hb; clear hb ho23; have hcv24 := own_string (P := Try.prog) Try.underlying100 Try.underlying5 Try.underlying9 (Kd.own_of_R HO259.out)))
     go_roundg k1
     case measure => have := HK1.out; omega
     case rel => exact ⟨(x0_1 ++ (strOfNums y257)), (by first | rfl | (simp; done) | (simp [*]; done)), H', ⟨by have := HK1.out; omega⟩, ⟨pH HB⟩⟩
    ·
     rw [if_neg c21] at H
     exact absurd H (by simp)

end Go.Proofs.Yteaeigpeaneicaa.G
end

section
-- Printed by gprint.py: a program of this session over the kit's print. Not trusted: Lean checks it.
namespace Go.Proofs.Yteaeigpeaneicaa.G
open Go.RowKit Go.Proofs.YteaeigpeaneicaaW.PrintWords Go.Proofs.YteaeigpeaneicaaW.PrintLast Go.Proofs.YteaeigpeaneicaaW.PrintMore
attribute [local go_sem] max2_int min2_int max_two min_two max_three min_three max_four min_four   -- for this text's walks alone
set_option linter.unusedVariables false
set_option linter.unusedSimpArgs false

/-! ### rillmeterref02_Sum: function 47 -/
def rillmeterref02_Sum.l0 : Nat → Int → Int → List Int → Int → Option (Int)
 | 0, _, _, _, _ => none
 | k + 1, x5, x6, x7, x8 => if x8 < (x7.length : Int) then ((rillmeterref01_Mul.f k x5 x6).bind fun t268 => (if 0 ≤ x8 then ((rillmeterref01_Add.f (rd x7 x8) 1).bind fun t270 => ((rillmeterref01_Add.f t268 t270).bind fun t271 => (rillmeterref02_Sum.l0 k x5 t271 x7 (wrap64 (x8 + 1))))) else (none))) else ((rillmeterref01_Mul.f k x5 x6).bind fun t272 => ((rillmeterref01_Pow.f k t272 17).bind fun t273 => (some t273)))
def rillmeterref02_Sum.f (k : Nat) (a0 : Int) (a1 : ByteArray) : Option (Int) := (rillmeterref01_Add.f a0 2).bind fun t263 => ((rillmeterref01_Of.f (IntKind.u64.wrap ((a1.size : Int)))).bind fun t264 => ((rillmeterref02_words.f k a1).bind fun t265 => (rillmeterref02_Sum.l0 k t263 t264 t265 0)))
theorem rillmeterref02_Sum.mono_l : ∀ k, (∀ y0 y1 y2 y3, LeO (rillmeterref02_Sum.l0 k y0 y1 y2 y3) (rillmeterref02_Sum.l0 (k + 1) y0 y1 y2 y3))
 | 0 => fun _ _ _ _ r h => by simp [rillmeterref02_Sum.l0] at h
 | k + 1 => by
  have ih0 := rillmeterref02_Sum.mono_l k
  ·
   intro y0 y1 y2 y3
   unfold rillmeterref02_Sum.l0
   repeat' first
   | (with_reducible exact ih0 _ _ _ _)
   | (with_reducible exact rillmeterref01_Mul.mono _ _ _)
   | (with_reducible exact rillmeterref01_Pow.mono _ _ _)
   | (with_reducible exact rillmeterref02_words.mono _ _)
   | (with_reducible exact LeO.refl _)
   | (with_reducible exact LeO.none _)
   | (with_reducible refine LeO.ite ?_ ?_)
   | (with_reducible refine LeO.bind ?_ (fun _ => ?_))
   | exact ih0 _ _ _ _
   | exact rillmeterref01_Mul.mono _ _ _
   | exact rillmeterref01_Pow.mono _ _ _
   | exact rillmeterref02_words.mono _ _
   | exact LeO.none _
   | refine LeO.ite ?_ ?_
   | refine LeO.bind ?_ (fun _ => ?_)
theorem rillmeterref02_Sum.mono : ∀ a0 a1 k, LeO (rillmeterref02_Sum.f k a0 a1) (rillmeterref02_Sum.f (k + 1) a0 a1) := by
 intro a0 a1 k
 have ih0 := rillmeterref02_Sum.mono_l k
 unfold rillmeterref02_Sum.f
 repeat' first
   | (with_reducible exact ih0 _ _ _ _)
   | (with_reducible exact rillmeterref01_Mul.mono _ _ _)
   | (with_reducible exact rillmeterref01_Pow.mono _ _ _)
   | (with_reducible exact rillmeterref02_words.mono _ _)
   | (with_reducible exact LeO.refl _)
   | (with_reducible exact LeO.none _)
   | (with_reducible refine LeO.ite ?_ ?_)
   | (with_reducible refine LeO.bind ?_ (fun _ => ?_))
   | exact ih0 _ _ _ _
   | exact rillmeterref01_Mul.mono _ _ _
   | exact rillmeterref01_Pow.mono _ _ _
   | exact rillmeterref02_words.mono _ _
   | exact LeO.none _
   | refine LeO.ite ?_ ?_
   | refine LeO.bind ?_ (fun _ => ?_)
set_option maxHeartbeats 8000000 in
set_option maxRecDepth 100000 in
theorem rillmeterref02_Sum.calls (k : Nat) (a0 : Int) (a1 : ByteArray) (r : Int) (w : World) (h : rillmeterref02_Sum.f k a0 a1 = some r) :
  Calls Try.prog 47 #[.int .u64 a0, .string a1] w fun e w' => e = .returned (.int .u64 r) ∧ Below w.heap.size w w' := by
 have HB := Aside0.mk (Below.refl w.heap.size w)
 have H : ((rillmeterref01_Add.f a0 2).bind fun t263 => ((rillmeterref01_Of.f (IntKind.u64.wrap ((a1.size : Int)))).bind fun t264 => ((rillmeterref02_words.f k a1).bind fun t265 => (rillmeterref02_Sum.l0 k t263 t264 t265 0)))) = some r := h
 clear h
 replace H := Option.bind_eq_some_iff.mp H
 obtain ⟨t263, A30, H⟩ := H
 replace H : ((rillmeterref01_Of.f (IntKind.u64.wrap ((a1.size : Int)))).bind fun t264 => ((rillmeterref02_words.f k a1).bind fun t265 => (rillmeterref02_Sum.l0 k t263 t264 t265 0))) = some r := H
 have A3 := Aside0.mk A30
 clear A30
 replace H := Option.bind_eq_some_iff.mp H
 obtain ⟨t264, A40, H⟩ := H
 replace H : ((rillmeterref02_words.f k a1).bind fun t265 => (rillmeterref02_Sum.l0 k t263 t264 t265 0)) = some r := H
 have A4 := Aside0.mk A40
 clear A40
 replace H := Option.bind_eq_some_iff.mp H
 obtain ⟨t265, A50, H⟩ := H
 replace H : (rillmeterref02_Sum.l0 k t263 t264 t265 0) = some r := H
 have A5 := Aside0.mk A50
 clear A50
 have H' := Aside0.mk H
 clear H
 go_enter Try.func47, Try.ntmps47
 go_wp2_with (first | (go_at_call 49; (with_reducible refine (rillmeterref01_Add.calls a0 2 t263 _ A3.out).mono ?_); rintro e w' ⟨rfl, ⟨nd, rfl⟩⟩; (try first | exact ⟨rfl, _, World.drewN_drewN _ _ _⟩ | exact ⟨rfl, _, Eq.trans (World.drewN_drewN _ _ _) (congrArg (World.drewN _) (Nat.add_assoc _ _ _))⟩)) | (go_at_call 66; (with_reducible refine (rillmeterref01_Of.calls (IntKind.u64.wrap ((a1.size : Int))) t264 _ A4.out).mono ?_); rintro e w' ⟨rfl, ⟨nd, rfl⟩⟩; (try first | exact ⟨rfl, _, World.drewN_drewN _ _ _⟩ | exact ⟨rfl, _, Eq.trans (World.drewN_drewN _ _ _) (congrArg (World.drewN _) (Nat.add_assoc _ _ _))⟩)) | (go_at_call 67; (with_reducible refine (rillmeterref02_words.calls k a1 t265 _ A5.out).mono ?_); rintro e w6 ⟨v266, rfl, ho0, hb⟩; have HO267 := Aside0.mk (Kd.R_lower ho0 (below_size (pH HB))); replace HB := stB HB hb; (try clear hb); (try clear hb2); (try clear hk); (try clear hi); (try clear ho0)))
 repeat (go_quiet (first | (go_at_call 49; (with_reducible refine (rillmeterref01_Add.calls a0 2 t263 _ A3.out).mono ?_); rintro e w' ⟨rfl, ⟨nd, rfl⟩⟩; (try first | exact ⟨rfl, _, World.drewN_drewN _ _ _⟩ | exact ⟨rfl, _, Eq.trans (World.drewN_drewN _ _ _) (congrArg (World.drewN _) (Nat.add_assoc _ _ _))⟩)) | (go_at_call 66; (with_reducible refine (rillmeterref01_Of.calls (IntKind.u64.wrap ((a1.size : Int))) t264 _ A4.out).mono ?_); rintro e w' ⟨rfl, ⟨nd, rfl⟩⟩; (try first | exact ⟨rfl, _, World.drewN_drewN _ _ _⟩ | exact ⟨rfl, _, Eq.trans (World.drewN_drewN _ _ _) (congrArg (World.drewN _) (Nat.add_assoc _ _ _))⟩)) | (go_at_call 67; (with_reducible refine (rillmeterref02_words.calls k a1 t265 _ A5.out).mono ?_); rintro e w6 ⟨v266, rfl, ho0, hb⟩; have HO267 := Aside0.mk (Kd.R_lower ho0 (below_size (pH HB))); replace HB := stB HB hb; (try clear hb); (try clear hb2); (try clear hk); (try clear hi); (try clear ho0))); try go_wp2_with (first | (go_at_call 49; (with_reducible refine (rillmeterref01_Add.calls a0 2 t263 _ A3.out).mono ?_); rintro e w' ⟨rfl, ⟨nd, rfl⟩⟩; (try first | exact ⟨rfl, _, World.drewN_drewN _ _ _⟩ | exact ⟨rfl, _, Eq.trans (World.drewN_drewN _ _ _) (congrArg (World.drewN _) (Nat.add_assoc _ _ _))⟩)) | (go_at_call 66; (with_reducible refine (rillmeterref01_Of.calls (IntKind.u64.wrap ((a1.size : Int))) t264 _ A4.out).mono ?_); rintro e w' ⟨rfl, ⟨nd, rfl⟩⟩; (try first | exact ⟨rfl, _, World.drewN_drewN _ _ _⟩ | exact ⟨rfl, _, Eq.trans (World.drewN_drewN _ _ _) (congrArg (World.drewN _) (Nat.add_assoc _ _ _))⟩)) | (go_at_call 67; (with_reducible refine (rillmeterref02_words.calls k a1 t265 _ A5.out).mono ?_); rintro e w6 ⟨v266, rfl, ho0, hb⟩; have HO267 := Aside0.mk (Kd.R_lower ho0 (below_size (pH HB))); replace HB := stB HB hb; (try clear hb); (try clear hb2); (try clear hk); (try clear hi); (try clear ho0))))
 go_loopg [6, 8] k (fun kq v6 v8 w' => ∃ (x6_1 : Int) (x8_1 : Int), v6 = .int .u64 x6_1 ∧ v8 = .int .i64 x8_1 ∧ Aside0 (rillmeterref02_Sum.l0 kq t263 x6_1 t265 x8_1 = some r) ∧ Aside0 (kq ≤ k) ∧ Aside0 (Kd.R (Kd.int .u64) 22 w' w.heap.size (fun _ => True) v266 t265) ∧ Aside0 (Below w.heap.size w w'))
 case atStart => exact ⟨(t264), (0), (by first | rfl | (simp; done) | (simp [*]; done)), (by first | rfl | (simp; done) | (simp [*]; done)), H', ⟨Nat.le_refl _⟩, ⟨pR HO267⟩, ⟨pH HB⟩⟩
 case round =>
  clear H'
  try clear p2
  try clear c4
  obtain ⟨x6_1, x8_1, rfl, rfl, HA, HK1, HO_7, HB⟩ := hrel
  cases gk with
  | zero => exact absurd HA.out (by simp [rillmeterref02_Sum.l0])
  | succ k1 =>
   have H := HA.out
   clear HA
   simp only [rillmeterref02_Sum.l0] at H
   by_cases c7 : x8_1 < (t265.length : Int)
   ·
    rw [if_pos c7] at H
    have c7b0 : decide (x8_1 < (t265.length : Int)) = true := decide_eq_true c7
    clear c7
    replace H := Option.bind_eq_some_iff.mp H
    obtain ⟨t268, A80, H⟩ := H
    replace H : (if 0 ≤ x8_1 then ((rillmeterref01_Add.f (rd t265 x8_1) 1).bind fun t270 => ((rillmeterref01_Add.f t268 t270).bind fun t271 => (rillmeterref02_Sum.l0 k1 t263 t271 t265 (wrap64 (x8_1 + 1))))) else (none)) = some r := H
    have A8 := Aside0.mk A80
    clear A80
    by_cases c9 : 0 ≤ x8_1
    ·
     rw [if_pos c9] at H
     have c9b0 : decide (0 ≤ x8_1) = true := decide_eq_true c9
     clear c9
     replace H := Option.bind_eq_some_iff.mp H
     obtain ⟨t270, A100, H⟩ := H
     replace H : ((rillmeterref01_Add.f t268 t270).bind fun t271 => (rillmeterref02_Sum.l0 k1 t263 t271 t265 (wrap64 (x8_1 + 1)))) = some r := H
     have A10 := Aside0.mk A100
     clear A100
     replace H := Option.bind_eq_some_iff.mp H
     obtain ⟨t271, A110, H⟩ := H
     replace H : (rillmeterref02_Sum.l0 k1 t263 t271 t265 (wrap64 (x8_1 + 1))) = some r := H
     have A11 := Aside0.mk A110
     clear A110
     have H' := Aside0.mk H
     clear H
     obtain ⟨Ao12, co12, eo12⟩ := Kd.R_slice HO_7.out
     subst eo12
     go_wp2_with (first | (go_at_call 48; (with_reducible refine (rillmeterref01_Mul.calls k1 t263 x6_1 t268 _ A8.out).mono ?_); rintro e w' ⟨rfl, ⟨nd, rfl⟩⟩; (try first | exact ⟨rfl, _, World.drewN_drewN _ _ _⟩ | exact ⟨rfl, _, Eq.trans (World.drewN_drewN _ _ _) (congrArg (World.drewN _) (Nat.add_assoc _ _ _))⟩); have p269 : 0 ≤ (x8_1 : Int) := of_decide_eq_true (by first | (with_reducible assumption) | assumption); have q269 : x8_1 < (t265.length : Int) := of_decide_eq_true (by first | (with_reducible assumption) | assumption); obtain ⟨ad269, e269, hx269_0⟩ := Kd.at_int (Kd.R_reads' HO_7.out).2.2 x8_1 p269 q269; cases e269; replace p269 := eq_true p269; replace q269 := eq_true q269) | (go_at_call 49; (with_reducible refine (rillmeterref01_Add.calls (rd t265 x8_1) 1 t270 _ A10.out).mono ?_); rintro e w' ⟨rfl, ⟨nd, rfl⟩⟩; (try first | exact ⟨rfl, _, World.drewN_drewN _ _ _⟩ | exact ⟨rfl, _, Eq.trans (World.drewN_drewN _ _ _) (congrArg (World.drewN _) (Nat.add_assoc _ _ _))⟩)) | (go_at_call 49; (with_reducible refine (rillmeterref01_Add.calls t268 t270 t271 _ A11.out).mono ?_); rintro e w' ⟨rfl, ⟨nd, rfl⟩⟩; (try first | exact ⟨rfl, _, World.drewN_drewN _ _ _⟩ | exact ⟨rfl, _, Eq.trans (World.drewN_drewN _ _ _) (congrArg (World.drewN _) (Nat.add_assoc _ _ _))⟩)))
     repeat (go_quiet (first | (go_at_call 48; (with_reducible refine (rillmeterref01_Mul.calls k1 t263 x6_1 t268 _ A8.out).mono ?_); rintro e w' ⟨rfl, ⟨nd, rfl⟩⟩; (try first | exact ⟨rfl, _, World.drewN_drewN _ _ _⟩ | exact ⟨rfl, _, Eq.trans (World.drewN_drewN _ _ _) (congrArg (World.drewN _) (Nat.add_assoc _ _ _))⟩); have p269 : 0 ≤ (x8_1 : Int) := of_decide_eq_true (by first | (with_reducible assumption) | assumption); have q269 : x8_1 < (t265.length : Int) := of_decide_eq_true (by first | (with_reducible assumption) | assumption); obtain ⟨ad269, e269, hx269_0⟩ := Kd.at_int (Kd.R_reads' HO_7.out).2.2 x8_1 p269 q269; cases e269; replace p269 := eq_true p269; replace q269 := eq_true q269) | (go_at_call 49; (with_reducible refine (rillmeterref01_Add.calls (rd t265 x8_1) 1 t270 _ A10.out).mono ?_); rintro e w' ⟨rfl, ⟨nd, rfl⟩⟩; (try first | exact ⟨rfl, _, World.drewN_drewN _ _ _⟩ | exact ⟨rfl, _, Eq.trans (World.drewN_drewN _ _ _) (congrArg (World.drewN _) (Nat.add_assoc _ _ _))⟩)) | (go_at_call 49; (with_reducible refine (rillmeterref01_Add.calls t268 t270 t271 _ A11.out).mono ?_); rintro e w' ⟨rfl, ⟨nd, rfl⟩⟩; (try first | exact ⟨rfl, _, World.drewN_drewN _ _ _⟩ | exact ⟨rfl, _, Eq.trans (World.drewN_drewN _ _ _) (congrArg (World.drewN _) (Nat.add_assoc _ _ _))⟩))); try go_wp2_with (first | (go_at_call 48; (with_reducible refine (rillmeterref01_Mul.calls k1 t263 x6_1 t268 _ A8.out).mono ?_); rintro e w' ⟨rfl, ⟨nd, rfl⟩⟩; (try first | exact ⟨rfl, _, World.drewN_drewN _ _ _⟩ | exact ⟨rfl, _, Eq.trans (World.drewN_drewN _ _ _) (congrArg (World.drewN _) (Nat.add_assoc _ _ _))⟩); have p269 : 0 ≤ (x8_1 : Int) := of_decide_eq_true (by first | (with_reducible assumption) | assumption); have q269 : x8_1 < (t265.length : Int) := of_decide_eq_true (by first | (with_reducible assumption) | assumption); obtain ⟨ad269, e269, hx269_0⟩ := Kd.at_int (Kd.R_reads' HO_7.out).2.2 x8_1 p269 q269; cases e269; replace p269 := eq_true p269; replace q269 := eq_true q269) | (go_at_call 49; (with_reducible refine (rillmeterref01_Add.calls (rd t265 x8_1) 1 t270 _ A10.out).mono ?_); rintro e w' ⟨rfl, ⟨nd, rfl⟩⟩; (try first | exact ⟨rfl, _, World.drewN_drewN _ _ _⟩ | exact ⟨rfl, _, Eq.trans (World.drewN_drewN _ _ _) (congrArg (World.drewN _) (Nat.add_assoc _ _ _))⟩)) | (go_at_call 49; (with_reducible refine (rillmeterref01_Add.calls t268 t270 t271 _ A11.out).mono ?_); rintro e w' ⟨rfl, ⟨nd, rfl⟩⟩; (try first | exact ⟨rfl, _, World.drewN_drewN _ _ _⟩ | exact ⟨rfl, _, Eq.trans (World.drewN_drewN _ _ _) (congrArg (World.drewN _) (Nat.add_assoc _ _ _))⟩))))
     go_roundg k1
     case measure => have := HK1.out; omega
     case rel => exact ⟨(t271), (wrap64 (x8_1 + 1)), (by first | rfl | (simp; done) | (simp [*]; done)), (by first | rfl | (simp; done) | (simp [*]; done)), H', ⟨by have := HK1.out; omega⟩, ⟨pR HO_7⟩, ⟨pH HB⟩⟩
    ·
     rw [if_neg c9] at H
     exact absurd H (by simp)
   ·
    rw [if_neg c7] at H
    have c7b0 : decide (x8_1 < (t265.length : Int)) = false := decide_eq_false c7
    clear c7
    replace H := Option.bind_eq_some_iff.mp H
    obtain ⟨t272, A130, H⟩ := H
    replace H : ((rillmeterref01_Pow.f k1 t272 17).bind fun t273 => (some t273)) = some r := H
    have A13 := Aside0.mk A130
    clear A130
    replace H := Option.bind_eq_some_iff.mp H
    obtain ⟨t273, A140, H⟩ := H
    replace H : (some t273) = some r := H
    have A14 := Aside0.mk A140
    clear A140
    obtain rfl := Option.some.inj H
    obtain ⟨Ao15, co15, eo15⟩ := Kd.R_slice HO_7.out
    subst eo15
    go_wp2_with (first | (go_at_call 48; (with_reducible refine (rillmeterref01_Mul.calls k1 t263 x6_1 t272 _ A13.out).mono ?_); rintro e w' ⟨rfl, ⟨nd, rfl⟩⟩; (try first | exact ⟨rfl, _, World.drewN_drewN _ _ _⟩ | exact ⟨rfl, _, Eq.trans (World.drewN_drewN _ _ _) (congrArg (World.drewN _) (Nat.add_assoc _ _ _))⟩)) | (go_at_call 50; (with_reducible refine (rillmeterref01_Pow.calls k1 t272 17 t273 _ A14.out).mono ?_); rintro e w' ⟨rfl, ⟨nd, rfl⟩⟩; (try first | exact ⟨rfl, _, World.drewN_drewN _ _ _⟩ | exact ⟨rfl, _, Eq.trans (World.drewN_drewN _ _ _) (congrArg (World.drewN _) (Nat.add_assoc _ _ _))⟩)))
    repeat (go_quiet (first | (go_at_call 48; (with_reducible refine (rillmeterref01_Mul.calls k1 t263 x6_1 t272 _ A13.out).mono ?_); rintro e w' ⟨rfl, ⟨nd, rfl⟩⟩; (try first | exact ⟨rfl, _, World.drewN_drewN _ _ _⟩ | exact ⟨rfl, _, Eq.trans (World.drewN_drewN _ _ _) (congrArg (World.drewN _) (Nat.add_assoc _ _ _))⟩)) | (go_at_call 50; (with_reducible refine (rillmeterref01_Pow.calls k1 t272 17 t273 _ A14.out).mono ?_); rintro e w' ⟨rfl, ⟨nd, rfl⟩⟩; (try first | exact ⟨rfl, _, World.drewN_drewN _ _ _⟩ | exact ⟨rfl, _, Eq.trans (World.drewN_drewN _ _ _) (congrArg (World.drewN _) (Nat.add_assoc _ _ _))⟩))); try go_wp2_with (first | (go_at_call 48; (with_reducible refine (rillmeterref01_Mul.calls k1 t263 x6_1 t272 _ A13.out).mono ?_); rintro e w' ⟨rfl, ⟨nd, rfl⟩⟩; (try first | exact ⟨rfl, _, World.drewN_drewN _ _ _⟩ | exact ⟨rfl, _, Eq.trans (World.drewN_drewN _ _ _) (congrArg (World.drewN _) (Nat.add_assoc _ _ _))⟩)) | (go_at_call 50; (with_reducible refine (rillmeterref01_Pow.calls k1 t272 17 t273 _ A14.out).mono ?_); rintro e w' ⟨rfl, ⟨nd, rfl⟩⟩; (try first | exact ⟨rfl, _, World.drewN_drewN _ _ _⟩ | exact ⟨rfl, _, Eq.trans (World.drewN_drewN _ _ _) (congrArg (World.drewN _) (Nat.add_assoc _ _ _))⟩))))
    go_ret
    exact ⟨by first | rfl | (simp [errW_none, errW_some] <;> rfl) | (simp [*, errW_none, errW_some] <;> rfl), by repeat (first | (with_reducible first | exact HB.out | apply below_alloc | apply pw_below_drewN | apply below_drew1) | exact HB.out)⟩

end Go.Proofs.Yteaeigpeaneicaa.G
end

section
-- Printed by gprint.py: a program of this session over the kit's print. Not trusted: Lean checks it.
namespace Go.Proofs.Yteaeigpeaneicaa.G
open Go.RowKit Go.Proofs.YteaeigpeaneicaaW.PrintWords Go.Proofs.YteaeigpeaneicaaW.PrintLast Go.Proofs.YteaeigpeaneicaaW.PrintMore
attribute [local go_sem] max2_int min2_int max_two min_two max_three min_three max_four min_four   -- for this text's walks alone
set_option linter.unusedVariables false
set_option linter.unusedSimpArgs false

/-! ### rillmeterref02_Cell: function 36 -/
def rillmeterref02_Cell.f (k : Nat) (a0 : Int) (a1 : ByteArray) (a2 : Int) : Option (Int) := if a2 < 1 then (some 0) else ((rillmeterref02_Sum.f k a0 a1).bind fun t274 => (if (IntKind.u64.wrap (a2)) = 0 then (none) else (some (wrap64 (Int.tmod t274 (IntKind.u64.wrap (a2)))))))
theorem rillmeterref02_Cell.mono : ∀ a0 a1 a2 k, LeO (rillmeterref02_Cell.f k a0 a1 a2) (rillmeterref02_Cell.f (k + 1) a0 a1 a2) := by
  intro a0 a1 a2 k
  unfold rillmeterref02_Cell.f
  repeat' first
      | (with_reducible exact rillmeterref02_Sum.mono _ _ _)
      | (with_reducible exact LeO.refl _)
      | (with_reducible exact LeO.none _)
      | (with_reducible refine LeO.ite ?_ ?_)
      | (with_reducible refine LeO.bind ?_ (fun _ => ?_))
      | exact rillmeterref02_Sum.mono _ _ _
      | exact LeO.none _
      | refine LeO.ite ?_ ?_
      | refine LeO.bind ?_ (fun _ => ?_)
set_option maxHeartbeats 8000000 in
set_option maxRecDepth 100000 in
theorem rillmeterref02_Cell.calls (k : Nat) (a0 : Int) (a1 : ByteArray) (a2 : Int) (r : Int) (w : World) (h : rillmeterref02_Cell.f k a0 a1 a2 = some r) :
    Calls Try.prog 36 #[.int .u64 a0, .string a1, .int .i64 a2] w fun e w' => e = .returned (.int .i64 r) ∧ Below w.heap.size w w' := by
  have HB := Aside0.mk (Below.refl w.heap.size w)
  have H : (if a2 < 1 then (some 0) else ((rillmeterref02_Sum.f k a0 a1).bind fun t274 => (if (IntKind.u64.wrap (a2)) = 0 then (none) else (some (wrap64 (Int.tmod t274 (IntKind.u64.wrap (a2)))))))) = some r := h
  clear h
  by_cases c4 : a2 < 1
  · rw [if_pos c4] at H
    have c4b0 : decide (a2 < 1) = true := decide_eq_true c4
    clear c4
    obtain rfl := Option.some.inj H
    go_enter Try.func36, Try.ntmps36
    go_wp2
    go_ret
    exact ⟨by first | rfl | (simp [errW_none, errW_some] <;> rfl) | (simp [*, errW_none, errW_some] <;> rfl), by repeat (first | (with_reducible first | exact HB.out | apply below_alloc | apply pw_below_drewN | apply below_drew1) | exact HB.out)⟩
  · rw [if_neg c4] at H
    have c4b0 : decide (a2 < 1) = false := decide_eq_false c4
    clear c4
    replace H := Option.bind_eq_some_iff.mp H
    obtain ⟨t274, A50, H⟩ := H
    replace H : (if (IntKind.u64.wrap (a2)) = 0 then (none) else (some (wrap64 (Int.tmod t274 (IntKind.u64.wrap (a2)))))) = some r := H
    have A5 := Aside0.mk A50
    clear A50
    by_cases c6 : (IntKind.u64.wrap (a2)) = 0
    · rw [if_pos c6] at H
      exact absurd H (by simp)
    · rw [if_neg c6] at H
      have c6b0 : ((IntKind.u64.wrap (a2)) == 0) = false := beq_eq_false_iff_ne.mpr c6
      have c6b1 : ((IntKind.u64.wrap (a2)) != 0) = true := bne_iff_ne.mpr c6
      obtain rfl := Option.some.inj H
      go_enter Try.func36, Try.ntmps36
      go_wp2_with (first | ((with_reducible refine gate_callee (f := 47) rfl ?_); refine goesL_ (some 11) rfl rfl Try.func47 (by kernel_rfl) rfl #[.int .u64 a0, .string a1] rfl (by (try simp only [List.map_toArray, List.map_cons, List.map_nil]); first | done | rfl | (simp only [List.length_drop, List.length_take]; rfl)) ?_; (with_reducible refine (rillmeterref02_Sum.calls k a0 a1 t274 _ A5.out).mono ?_); rintro e w7 ⟨rfl, hb⟩; refine ⟨_, rfl, ?_⟩; have n0_ := Aside0.mk (below_step (by repeat (first | (with_reducible first | exact HB.out | apply below_alloc | apply pw_below_drewN | apply below_drew1) | exact HB.out)) hb); clear HB; have HB := n0_; clear n0_; (try clear hb); (try clear hb2); (try clear hk); (try clear hi)))
      go_ret
      exact ⟨by first | rfl | (simp [errW_none, errW_some] <;> rfl) | (simp [*, errW_none, errW_some] <;> rfl), by repeat (first | (with_reducible first | exact HB.out | apply below_alloc | apply pw_below_drewN | apply below_drew1) | exact HB.out)⟩

end Go.Proofs.Yteaeigpeaneicaa.G
end

section
-- Printed by gprint.py: a program of this session over the kit's print. Not trusted: Lean checks it.
namespace Go.Proofs.Yteaeigpeaneicaa.G
open Go.RowKit Go.Proofs.YteaeigpeaneicaaW.PrintWords Go.Proofs.YteaeigpeaneicaaW.PrintLast Go.Proofs.YteaeigpeaneicaaW.PrintMore
attribute [local go_sem] max2_int min2_int max_two min_two max_three min_three max_four min_four   -- for this text's walks alone
set_option linter.unusedVariables false
set_option linter.unusedSimpArgs false

/-! ### rillmeterref02_Sign: function 51 -/
def rillmeterref02_Sign.f (k : Nat) (a0 : Int) (a1 : ByteArray) : Option (Int) := (rillmeterref02_Sum.f k a0 a1).bind fun t282 => (if (Int.tmod t282 2) = 1 then (some 1) else (some (-1)))
theorem rillmeterref02_Sign.mono : ∀ a0 a1 k, LeO (rillmeterref02_Sign.f k a0 a1) (rillmeterref02_Sign.f (k + 1) a0 a1) := by
  intro a0 a1 k
  unfold rillmeterref02_Sign.f
  repeat' first
      | (with_reducible exact rillmeterref02_Sum.mono _ _ _)
      | (with_reducible exact LeO.refl _)
      | (with_reducible exact LeO.none _)
      | (with_reducible refine LeO.ite ?_ ?_)
      | (with_reducible refine LeO.bind ?_ (fun _ => ?_))
      | exact rillmeterref02_Sum.mono _ _ _
      | exact LeO.none _
      | refine LeO.ite ?_ ?_
      | refine LeO.bind ?_ (fun _ => ?_)
set_option maxHeartbeats 8000000 in
set_option maxRecDepth 100000 in
theorem rillmeterref02_Sign.calls (k : Nat) (a0 : Int) (a1 : ByteArray) (r : Int) (w : World) (h : rillmeterref02_Sign.f k a0 a1 = some r) :
    Calls Try.prog 51 #[.int .u64 a0, .string a1] w fun e w' => e = .returned (.int .i64 r) ∧ Below w.heap.size w w' := by
  have HB := Aside0.mk (Below.refl w.heap.size w)
  have H : ((rillmeterref02_Sum.f k a0 a1).bind fun t282 => (if (Int.tmod t282 2) = 1 then (some 1) else (some (-1)))) = some r := h
  clear h
  replace H := Option.bind_eq_some_iff.mp H
  obtain ⟨t282, A30, H⟩ := H
  replace H : (if (Int.tmod t282 2) = 1 then (some 1) else (some (-1))) = some r := H
  have A3 := Aside0.mk A30
  clear A30
  by_cases c4 : (Int.tmod t282 2) = 1
  · rw [if_pos c4] at H
    have c4b0 : ((Int.tmod t282 2) == 1) = true := beq_iff_eq.mpr c4
    have c4b1 : ((Int.tmod t282 2) != 1) = false := bne_eq_false_iff_eq.mpr c4
    clear c4
    obtain rfl := Option.some.inj H
    go_enter Try.func51, Try.ntmps51
    go_wp2_with (first | ((with_reducible refine gate_callee (f := 47) rfl ?_); refine goesL_ (some 7) rfl rfl Try.func47 (by kernel_rfl) rfl #[.int .u64 a0, .string a1] rfl (by (try simp only [List.map_toArray, List.map_cons, List.map_nil]); first | done | rfl | (simp only [List.length_drop, List.length_take]; rfl)) ?_; (with_reducible refine (rillmeterref02_Sum.calls k a0 a1 t282 _ A3.out).mono ?_); rintro e w5 ⟨rfl, hb⟩; refine ⟨_, rfl, ?_⟩; have n0_ := Aside0.mk (below_step (by repeat (first | (with_reducible first | exact HB.out | apply below_alloc | apply pw_below_drewN | apply below_drew1) | exact HB.out)) hb); clear HB; have HB := n0_; clear n0_; (try clear hb); (try clear hb2); (try clear hk); (try clear hi)))
    go_ret
    exact ⟨by first | rfl | (simp [errW_none, errW_some] <;> rfl) | (simp [*, errW_none, errW_some] <;> rfl), by repeat (first | (with_reducible first | exact HB.out | apply below_alloc | apply pw_below_drewN | apply below_drew1) | exact HB.out)⟩
  · rw [if_neg c4] at H
    have c4b0 : ((Int.tmod t282 2) == 1) = false := beq_eq_false_iff_ne.mpr c4
    have c4b1 : ((Int.tmod t282 2) != 1) = true := bne_iff_ne.mpr c4
    obtain rfl := Option.some.inj H
    go_enter Try.func51, Try.ntmps51
    go_wp2_with (first | ((with_reducible refine gate_callee (f := 47) rfl ?_); refine goesL_ (some 7) rfl rfl Try.func47 (by kernel_rfl) rfl #[.int .u64 a0, .string a1] rfl (by (try simp only [List.map_toArray, List.map_cons, List.map_nil]); first | done | rfl | (simp only [List.length_drop, List.length_take]; rfl)) ?_; (with_reducible refine (rillmeterref02_Sum.calls k a0 a1 t282 _ A3.out).mono ?_); rintro e w6 ⟨rfl, hb⟩; refine ⟨_, rfl, ?_⟩; have n0_ := Aside0.mk (below_step (by repeat (first | (with_reducible first | exact HB.out | apply below_alloc | apply pw_below_drewN | apply below_drew1) | exact HB.out)) hb); clear HB; have HB := n0_; clear n0_; (try clear hb); (try clear hb2); (try clear hk); (try clear hi)))
    go_ret
    exact ⟨by first | rfl | (simp [errW_none, errW_some] <;> rfl) | (simp [*, errW_none, errW_some] <;> rfl), by repeat (first | (with_reducible first | exact HB.out | apply below_alloc | apply pw_below_drewN | apply below_drew1) | exact HB.out)⟩

end Go.Proofs.Yteaeigpeaneicaa.G
end

section
-- Printed by gprint.py: a program of this session over the kit's print. Not trusted: Lean checks it.
namespace Go.Proofs.Yteaeigpeaneicaa.G
open Go.RowKit Go.Proofs.YteaeigpeaneicaaW.PrintWords Go.Proofs.YteaeigpeaneicaaW.PrintLast Go.Proofs.YteaeigpeaneicaaW.PrintMore
attribute [local go_sem] max2_int min2_int max_two min_two max_three min_three max_four min_four   -- for this text's walks alone
set_option linter.unusedVariables false
set_option linter.unusedSimpArgs false

/-! ### rillmeterref02_Row: function 37 -/
def rillmeterref02_Row.j0 : Nat → Int → Int → Option (Int)
  | 0, _, _ => none
  | k + 1, x0, x1 => (rillmeterref01_Add.f x0 3).bind fun t275 => ((rillmeterref01_Add.f (IntKind.u64.wrap (x1)) 2).bind fun t276 => ((rillmeterref01_Mul.f k t275 t276).bind fun t277 => ((rillmeterref01_Add.f t277 5).bind fun t278 => ((rillmeterref01_Pow.f k t278 2).bind fun t279 => (some t279)))))
def rillmeterref02_Row.f (k : Nat) (a0 : Int) (a1 : Int) : Option (Int) := if a1 < 0 then (rillmeterref02_Row.j0 k a0 0) else (rillmeterref02_Row.j0 k a0 a1)
theorem rillmeterref02_Row.mono_l : ∀ k, (∀ y0 y1, LeO (rillmeterref02_Row.j0 k y0 y1) (rillmeterref02_Row.j0 (k + 1) y0 y1))
  | 0 => fun _ _ r h => by simp [rillmeterref02_Row.j0] at h
  | k + 1 => by
    have ih0 := rillmeterref02_Row.mono_l k
    · intro y0 y1
      unfold rillmeterref02_Row.j0
      repeat' first
      | (with_reducible exact ih0 _ _)
      | (with_reducible exact rillmeterref01_Mul.mono _ _ _)
      | (with_reducible exact rillmeterref01_Pow.mono _ _ _)
      | (with_reducible exact LeO.refl _)
      | (with_reducible exact LeO.none _)
      | (with_reducible refine LeO.ite ?_ ?_)
      | (with_reducible refine LeO.bind ?_ (fun _ => ?_))
      | exact ih0 _ _
      | exact rillmeterref01_Mul.mono _ _ _
      | exact rillmeterref01_Pow.mono _ _ _
      | exact LeO.none _
      | refine LeO.ite ?_ ?_
      | refine LeO.bind ?_ (fun _ => ?_)
theorem rillmeterref02_Row.mono : ∀ a0 a1 k, LeO (rillmeterref02_Row.f k a0 a1) (rillmeterref02_Row.f (k + 1) a0 a1) := by
  intro a0 a1 k
  have ih0 := rillmeterref02_Row.mono_l k
  unfold rillmeterref02_Row.f
  repeat' first
      | (with_reducible exact ih0 _ _)
      | (with_reducible exact rillmeterref01_Mul.mono _ _ _)
      | (with_reducible exact rillmeterref01_Pow.mono _ _ _)
      | (with_reducible exact LeO.refl _)
      | (with_reducible exact LeO.none _)
      | (with_reducible refine LeO.ite ?_ ?_)
      | (with_reducible refine LeO.bind ?_ (fun _ => ?_))
      | exact ih0 _ _
      | exact rillmeterref01_Mul.mono _ _ _
      | exact rillmeterref01_Pow.mono _ _ _
      | exact LeO.none _
      | refine LeO.ite ?_ ?_
      | refine LeO.bind ?_ (fun _ => ?_)
set_option maxHeartbeats 8000000 in
set_option maxRecDepth 100000 in
theorem rillmeterref02_Row.calls (k : Nat) (a0 : Int) (a1 : Int) (r : Int) (w : World) (h : rillmeterref02_Row.f k a0 a1 = some r) :
    Calls Try.prog 37 #[.int .u64 a0, .int .i64 a1] w fun e w' => e = .returned (.int .u64 r) ∧ Drawn0 w w' := by
  have H : (if a1 < 0 then (rillmeterref02_Row.j0 k a0 0) else (rillmeterref02_Row.j0 k a0 a1)) = some r := h
  clear h
  have HC3 := Aside0.mk H
  clear H
  go_enter Try.func37, Try.ntmps37
  go_upto_if 7 with (fail)
  go_cut [1] (fun v1 wc => ∃ (kq : Nat) (x1_2 : Int), v1 = .int .i64 x1_2 ∧ Aside0 (rillmeterref02_Row.j0 kq a0 x1_2 = some r) ∧ Aside0 (kq ≤ k) ∧ Drawn0 w wc)
  case first =>
    have H := HC3.out
    clear HC3
    by_cases c4 : a1 < 0
    · rw [if_pos c4] at H
      have c4b0 : decide (a1 < 0) = true := decide_eq_true c4
      clear c4
      (first | rw [c4b0] | (simp only [i64_w, i32_w]; rw [c4b0]) | skip)
      have H' := Aside0.mk H
      clear H
      go_wp2
      go_meet
      case rel => exact ⟨_, (0), (by first | rfl | (simp; done) | (simp [*]; done)), H', ⟨by first | omega | exact Nat.le_refl _⟩, by repeat (first | exact Drawn0.refl _ | apply Drawn0.step)⟩
    · rw [if_neg c4] at H
      have c4b0 : decide (a1 < 0) = false := decide_eq_false c4
      clear c4
      (first | rw [c4b0] | (simp only [i64_w, i32_w]; rw [c4b0]) | skip)
      have H' := Aside0.mk H
      clear H
      go_wp2
      go_meet
      case rel => exact ⟨_, (a1), (by first | rfl | (simp; done) | (simp [*]; done)), H', ⟨by first | omega | exact Nat.le_refl _⟩, by repeat (first | exact Drawn0.refl _ | apply Drawn0.step)⟩
  case rest =>
    clear HC3
    try clear p2
    try clear c3
    try clear c4
    try clear c4b0
    obtain ⟨kq, x1_2, rfl, HA, HJ2, ⟨mc2, rfl⟩⟩ := hcut
    cases kq with
    | zero => exact absurd HA.out (by simp [rillmeterref02_Row.j0])
    | succ kj2 =>
      have H := HA.out
      clear HA
      simp only [rillmeterref02_Row.j0] at H
      replace H := Option.bind_eq_some_iff.mp H
      obtain ⟨t275, A50, H⟩ := H
      replace H : ((rillmeterref01_Add.f (IntKind.u64.wrap (x1_2)) 2).bind fun t276 => ((rillmeterref01_Mul.f kj2 t275 t276).bind fun t277 => ((rillmeterref01_Add.f t277 5).bind fun t278 => ((rillmeterref01_Pow.f kj2 t278 2).bind fun t279 => (some t279))))) = some r := H
      have A5 := Aside0.mk A50
      clear A50
      replace H := Option.bind_eq_some_iff.mp H
      obtain ⟨t276, A60, H⟩ := H
      replace H : ((rillmeterref01_Mul.f kj2 t275 t276).bind fun t277 => ((rillmeterref01_Add.f t277 5).bind fun t278 => ((rillmeterref01_Pow.f kj2 t278 2).bind fun t279 => (some t279)))) = some r := H
      have A6 := Aside0.mk A60
      clear A60
      replace H := Option.bind_eq_some_iff.mp H
      obtain ⟨t277, A70, H⟩ := H
      replace H : ((rillmeterref01_Add.f t277 5).bind fun t278 => ((rillmeterref01_Pow.f kj2 t278 2).bind fun t279 => (some t279))) = some r := H
      have A7 := Aside0.mk A70
      clear A70
      replace H := Option.bind_eq_some_iff.mp H
      obtain ⟨t278, A80, H⟩ := H
      replace H : ((rillmeterref01_Pow.f kj2 t278 2).bind fun t279 => (some t279)) = some r := H
      have A8 := Aside0.mk A80
      clear A80
      replace H := Option.bind_eq_some_iff.mp H
      obtain ⟨t279, A90, H⟩ := H
      replace H : (some t279) = some r := H
      have A9 := Aside0.mk A90
      clear A90
      obtain rfl := Option.some.inj H
      go_wp2_with (first | ((with_reducible refine gate_callee (f := 49) rfl ?_); refine goesL_ (some 9) rfl rfl Try.func49 (by kernel_rfl) rfl #[.int .u64 a0, .int .u64 3] rfl (by (try simp only [List.map_toArray, List.map_cons, List.map_nil]); first | done | rfl | (simp only [List.length_drop, List.length_take]; rfl)) ?_; (with_reducible refine (rillmeterref01_Add.calls a0 3 t275 _ A5.out).mono ?_); rintro e w' ⟨rfl, ⟨nd, rfl⟩⟩; refine ⟨_, rfl, ?_⟩) | ((with_reducible refine gate_callee (f := 49) rfl ?_); refine goesL_ (some 12) rfl rfl Try.func49 (by kernel_rfl) rfl #[.int .u64 (IntKind.u64.wrap (x1_2)), .int .u64 2] rfl (by (try simp only [List.map_toArray, List.map_cons, List.map_nil]); first | done | rfl | (simp only [List.length_drop, List.length_take]; rfl)) ?_; (with_reducible refine (rillmeterref01_Add.calls (IntKind.u64.wrap (x1_2)) 2 t276 _ A6.out).mono ?_); rintro e w' ⟨rfl, ⟨nd, rfl⟩⟩; refine ⟨_, rfl, ?_⟩) | ((with_reducible refine gate_callee (f := 48) rfl ?_); refine goesL_ (some 13) rfl rfl Try.func48 (by kernel_rfl) rfl #[.int .u64 t275, .int .u64 t276] rfl (by (try simp only [List.map_toArray, List.map_cons, List.map_nil]); first | done | rfl | (simp only [List.length_drop, List.length_take]; rfl)) ?_; (with_reducible refine (rillmeterref01_Mul.calls kj2 t275 t276 t277 _ A7.out).mono ?_); rintro e w' ⟨rfl, ⟨nd, rfl⟩⟩; refine ⟨_, rfl, ?_⟩) | ((with_reducible refine gate_callee (f := 49) rfl ?_); refine goesL_ (some 15) rfl rfl Try.func49 (by kernel_rfl) rfl #[.int .u64 t277, .int .u64 5] rfl (by (try simp only [List.map_toArray, List.map_cons, List.map_nil]); first | done | rfl | (simp only [List.length_drop, List.length_take]; rfl)) ?_; (with_reducible refine (rillmeterref01_Add.calls t277 5 t278 _ A8.out).mono ?_); rintro e w' ⟨rfl, ⟨nd, rfl⟩⟩; refine ⟨_, rfl, ?_⟩) | ((with_reducible refine gate_callee (f := 50) rfl ?_); refine goesL_ (some 16) rfl rfl Try.func50 (by kernel_rfl) rfl #[.int .u64 t278, .int .u64 2] rfl (by (try simp only [List.map_toArray, List.map_cons, List.map_nil]); first | done | rfl | (simp only [List.length_drop, List.length_take]; rfl)) ?_; (with_reducible refine (rillmeterref01_Pow.calls kj2 t278 2 t279 _ A9.out).mono ?_); rintro e w' ⟨rfl, ⟨nd, rfl⟩⟩; refine ⟨_, rfl, ?_⟩))
      go_ret
      exact ⟨by first | rfl | (simp; done) | (simp [*]; done), by repeat (first | exact Drawn0.refl _ | apply Drawn0.step)⟩

end Go.Proofs.Yteaeigpeaneicaa.G
end

section
/- What the document's own hash functions come to: the same numbers as the program's. -/
namespace Go.Proofs.Yteaeigpeaneicaa.G
open Go Go.RowKit Go.Proofs.YteaeigpeaneicaaW.PrintWords Go.Proofs.YteaeigpeaneicaaPlain
theorem tmod_id (a b : Int) (h : 0 ≤ a) : Int.tmod a b = a % b := Int.tmod_eq_emod_of_nonneg h
theorem ref01_Of_f (a : Int) (h0 : 0 ≤ a) : rillmeterref01_Of.f a = some (a % 2305843009213693951) := by
  unfold rillmeterref01_Of.f; rw [tmod_id a _ h0]
theorem ref01_Add_f (a b : Int) (h0 : 0 ≤ a) (h1 : 0 ≤ b) : rillmeterref01_Add.f a b = some ((a + b) % 2305843009213693951) := by
  unfold rillmeterref01_Add.f
  rw [tmod_id a _ h0, tmod_id b _ h1, u64_id (by omega) (by omega), tmod_id _ _ (by omega), ← Int.add_emod]
theorem ref01_Mul_l0 (n : Nat) : ∀ (x out : Int), 0 ≤ x → x < 2305843009213693951 → 0 ≤ out → out < 2305843009213693951 → (n : Int) < 18446744073709551616 → Ev (fun k => rillmeterref01_Mul.l0 k x (n : Int) out) ((out + x * n) % 2305843009213693951) := by
  induction n using Nat.strongRecOn with
  | _ n ih =>
    intro x out hx0 hx1 ho0 ho1 hn
    by_cases c : n = 0
    · subst c
      refine Ev.step (f := fun _ => some ((out + x * ((0 : Nat) : Int)) % 2305843009213693951)) (fun k => ?_) (Ev.now _)
      simp only [rillmeterref01_Mul.l0]
      rw [if_neg (by omega)]
      congr 1
      rw [show ((0 : Nat) : Int) = 0 from rfl, Int.mul_zero, Int.add_zero]
      omega
    · have hdiv : Int.tdiv (n : Int) 2 = ((n / 2 : Nat) : Int) := by rw [Int.tdiv_eq_ediv_of_nonneg (by omega)]; omega
      have hmod : Int.tmod (n : Int) 2 = (n : Int) % 2 := tmod_id _ _ (by omega)
      have e1 : Int.tmod (IntKind.u64.wrap (x + x)) 2305843009213693951 = (x + x) % 2305843009213693951 := by rw [u64_id (by omega) (by omega), tmod_id _ _ (by omega)]
      have e2 : Int.tmod (IntKind.u64.wrap (out + x)) 2305843009213693951 = (out + x) % 2305843009213693951 := by rw [u64_id (by omega) (by omega), tmod_id _ _ (by omega)]
      have hq : ∀ y : Int, (y % 2305843009213693951 + (x + x) % 2305843009213693951 * ((n / 2 : Nat) : Int)) % 2305843009213693951 = (y + (x + x) * ((n / 2 : Nat) : Int)) % 2305843009213693951 := by
        intro y
        rw [Int.add_emod, Int.emod_emod_of_dvd _ (Int.dvd_refl _), Int.mul_emod, Int.emod_emod_of_dvd _ (Int.dvd_refl _), ← Int.mul_emod, ← Int.add_emod]
      by_cases c2 : (n : Int) % 2 = 1
      · have h := ih (n / 2) (by omega) ((x + x) % 2305843009213693951) ((out + x) % 2305843009213693951) (by omega) (by omega) (by omega) (by omega) (by omega)
        rw [hq] at h
        have e : out + x * (n : Int) = out + x + (x + x) * ((n / 2 : Nat) : Int) := by
          have : (n : Int) = 2 * ((n / 2 : Nat) : Int) + 1 := by omega
          rw [this, Int.mul_add, Int.mul_one, Int.add_mul, Int.two_mul, Int.mul_add]
          have : ((2 * ((n / 2 : Nat) : Int) + 1).toNat / 2 : Nat) = n / 2 := by omega
          omega
        rw [e]
        refine Ev.step (fun k => ?_) h
        simp only [rillmeterref01_Mul.l0]
        rw [if_pos (by omega), hmod, if_pos c2, hdiv, e1, e2, u64_id (by omega) (by omega)]
      · have h := ih (n / 2) (by omega) ((x + x) % 2305843009213693951) out (by omega) (by omega) (by omega) (by omega) (by omega)
        have hq2 : (out + (x + x) % 2305843009213693951 * ((n / 2 : Nat) : Int)) % 2305843009213693951 = (out + (x + x) * ((n / 2 : Nat) : Int)) % 2305843009213693951 := by
          have := hq out
          rwa [show out % 2305843009213693951 = out by omega] at this
        rw [hq2] at h
        have e : out + x * (n : Int) = out + (x + x) * ((n / 2 : Nat) : Int) := by
          have : (n : Int) = ((n / 2 : Nat) : Int) + ((n / 2 : Nat) : Int) := by omega
          rw [Int.add_mul, ← Int.mul_add, ← this]
        rw [e]
        refine Ev.step (fun k => ?_) h
        simp only [rillmeterref01_Mul.l0]
        rw [if_pos (by omega), hmod, if_neg c2, hdiv, e1, u64_id (by omega) (by omega)]
theorem ref01_Mul_ev (a b : Int) (h0 : 0 ≤ a) (h1 : 0 ≤ b) : Ev (fun k => rillmeterref01_Mul.f k a b) (a * b % 2305843009213693951) := by
  obtain ⟨m, hm⟩ := Int.eq_ofNat_of_zero_le (show 0 ≤ b % 2305843009213693951 by omega)
  have h := ref01_Mul_l0 m (a % 2305843009213693951) 0 (by omega) (by omega) (by omega) (by omega) (by omega)
  rw [Int.zero_add, ← hm, ← Int.mul_emod] at h
  refine Ev.congr (fun k => ?_) h
  unfold rillmeterref01_Mul.f
  rw [tmod_id a _ h0, tmod_id b _ h1]
theorem ref01_Pow_ev (a : Int) (h0 : 0 ≤ a) (n : Nat) : (n : Int) < 18446744073709551616 → Ev (fun k => rillmeterref01_Pow.f k a (n : Int)) (a ^ n % 2305843009213693951) := by
  induction n using Nat.strongRecOn with
  | _ n ih =>
    intro hn
    by_cases c : n = 0
    · subst c
      refine Ev.step (f := fun _ => some (a ^ 0 % 2305843009213693951)) (fun k => ?_) (Ev.now _)
      simp only [rillmeterref01_Pow.f]
      rw [if_pos (show ((0 : Nat) : Int) = 0 from rfl), Int.pow_zero]
      rfl
    · have hdiv : Int.tdiv (n : Int) 2 = ((n / 2 : Nat) : Int) := by rw [Int.tdiv_eq_ediv_of_nonneg (by omega)]; omega
      have hmod : Int.tmod (n : Int) 2 = (n : Int) % 2 := tmod_id _ _ (by omega)
      have h := ih (n / 2) (by omega) (by omega)
      generalize hp : a ^ (n / 2) % 2305843009213693951 = p at h
      have hp0 : 0 ≤ p := by omega
      have h2 := ref01_Mul_ev p p hp0 hp0
      have e2 : p * p % 2305843009213693951 = a ^ (n / 2 + n / 2) % 2305843009213693951 := by rw [← hp, ← Int.mul_emod, Int.pow_add]
      rw [e2] at h2
      generalize hq : a ^ (n / 2 + n / 2) % 2305843009213693951 = q at h2
      have hq0 : 0 ≤ q := by omega
      refine Ev.step (f := fun k => (rillmeterref01_Pow.f k a ((n / 2 : Nat) : Int)).bind fun t254 => ((rillmeterref01_Mul.f k t254 t254).bind fun t255 => (if (n : Int) % 2 = 1 then ((rillmeterref01_Mul.f k t255 a).bind fun t256 => (some t256)) else (some t255)))) (fun k => ?_) ?_
      · simp only [rillmeterref01_Pow.f]
        rw [if_neg (by omega), hdiv, hmod, u64_id (by omega) (by omega)]
      refine Ev.bind (f := fun k t254 => ((rillmeterref01_Mul.f k t254 t254).bind fun t255 => (if (n : Int) % 2 = 1 then ((rillmeterref01_Mul.f k t255 a).bind fun t256 => (some t256)) else (some t255)))) h ?_
      refine Ev.bind (f := fun k t255 => (if (n : Int) % 2 = 1 then ((rillmeterref01_Mul.f k t255 a).bind fun t256 => (some t256)) else (some t255))) h2 ?_
      by_cases c2 : (n : Int) % 2 = 1
      · simp only [if_pos c2]
        have h3 := ref01_Mul_ev q a hq0 h0
        have e3 : q * a % 2305843009213693951 = a ^ n % 2305843009213693951 := by
          have : n = n / 2 + n / 2 + 1 := by omega
          rw [← hq, Int.mul_emod, Int.emod_emod_of_dvd _ (Int.dvd_refl _), ← Int.mul_emod, ← Int.pow_succ, show (n / 2 + n / 2).succ = n by omega]
        rw [e3] at h3
        exact Ev.bind (f := fun _ t => some t) h3 (Ev.now _)
      · simp only [if_neg c2]
        have : n = n / 2 + n / 2 := by omega
        rw [← this] at hq
        rw [hq]
        exact Ev.now _
theorem ref02_Row_ev (s i : Int) (h0 : 0 ≤ s) (h2 : i < 9223372036854775808) : Ev (fun k => rillmeterref02_Row.f k s i) (hrow s i) := by
  have key : ∀ j : Int, 0 ≤ j → j < 9223372036854775808 → Ev (fun k => rillmeterref02_Row.j0 k s j) (((((s + 3) * (j + 2) + 5) % 2305843009213693951) ^ 2) % 2305843009213693951) := by
    intro j hj0 hj1
    have hm := ref01_Mul_ev ((s + 3) % 2305843009213693951) ((j + 2) % 2305843009213693951) (by omega) (by omega)
    rw [← Int.mul_emod] at hm
    have ha : rillmeterref01_Add.f ((s + 3) * (j + 2) % 2305843009213693951) 5 = some (((s + 3) * (j + 2) + 5) % 2305843009213693951) := by
      rw [ref01_Add_f _ _ (by omega) (by omega), Int.emod_add_emod]
    have hp := ref01_Pow_ev (((s + 3) * (j + 2) + 5) % 2305843009213693951) (by omega) 2 (by omega)
    refine Ev.step (f := fun k => (rillmeterref01_Mul.f k ((s + 3) % 2305843009213693951) ((j + 2) % 2305843009213693951)).bind fun t277 => ((rillmeterref01_Add.f t277 5).bind fun t278 => ((rillmeterref01_Pow.f k t278 2).bind fun t279 => (some t279)))) (fun k => ?_) (Ev.bind (f := fun k t277 => ((rillmeterref01_Add.f t277 5).bind fun t278 => ((rillmeterref01_Pow.f k t278 2).bind fun t279 => (some t279)))) hm ?_)
    · simp only [rillmeterref02_Row.j0]
      rw [ref01_Add_f s 3 h0 (by omega), u64_id hj0 (by omega), ref01_Add_f j 2 hj0 (by omega), Option.bind_some, Option.bind_some]
    · rw [ha]
      exact Ev.bind (f := fun _ t => some t) hp (Ev.now _)
  unfold hrow rillmeterref02_Row.f
  by_cases c : i < 0
  · simp only [if_pos c]; exact key 0 (by omega) (by omega)
  · simp only [if_neg c]; exact key i (by omega) h2
/-! words -/
def wordsL (s : ByteArray) (n : Nat) : List Int := (List.range n).map (fun i : Nat => hword s (4 * (i : Int)))
theorem bt_append_left (s u : ByteArray) (i : Int) (h : 0 ≤ i) (c : i < s.size) : bt (s ++ u) i = bt s i := by
  have h1 : i.toNat < s.size := by omega
  have h2 : i.toNat < (s ++ u).size := by rw [ByteArray.size_append]; omega
  unfold bt
  rw [dif_pos h1, dif_pos h2, ByteArray.getElem_append_left h1]
theorem bt_append_right (s u : ByteArray) : bt (s ++ u) (s.size : Int) = bt u 0 := by
  unfold bt
  by_cases c : 0 < u.size
  · have h2 : ((s.size : Int)).toNat < (s ++ u).size := by rw [ByteArray.size_append]; omega
    rw [dif_pos h2, dif_pos (show (0 : Int).toNat < u.size from c), ByteArray.getElem_append_right (by omega)]
    simp
  · have h2 : ¬ ((s.size : Int)).toNat < (s ++ u).size := by rw [ByteArray.size_append]; omega
    rw [dif_neg h2, dif_neg (show ¬ (0 : Int).toNat < u.size from c)]
theorem bt_push (s : ByteArray) (i : Int) (h : 0 ≤ i) : bt (s ++ strOfNums [0]) i = bt s i := by
  have hz : strOfNums [0] = ⟨#[0]⟩ := rfl
  rw [hz]
  by_cases c : i < s.size
  · exact bt_append_left s _ i h c
  · rw [bt_out s i h (by omega)]
    by_cases d : i < s.size + 1
    · have e : i = s.size := by omega
      subst e
      rw [bt_append_right]
      rfl
    · rw [bt_out _ i h (by rw [ByteArray.size_append]; show ((s.size + 1 : Nat) : Int) ≤ i; omega)]
theorem words_l1 (s : ByteArray) (hs : s.size ≤ 1000008) (h4 : s.size % 4 = 0) (d : Nat) : ∀ n : Nat, n + d = s.size / 4 → Ev (fun k => rillmeterref02_words.l1 k s (wordsL s n) (4 * (n : Int))) (wordsL s (s.size / 4)) := by
  induction d with
  | zero =>
    intro n hn
    have e : n = s.size / 4 := by omega
    subst e
    refine Ev.step (f := fun _ => some (wordsL s (s.size / 4))) (fun k => ?_) (Ev.now _)
    simp only [rillmeterref02_words.l1]
    rw [if_neg (by omega)]
  | succ d ih =>
    intro n hn
    have h := ih (n + 1) (by omega)
    have hw := hword_range s (4 * (n : Int))
    have a := bt_range s (4 * (n : Int)); have b := bt_range s (4 * (n : Int) + 1); have c := bt_range s (4 * (n : Int) + 2); have e := bt_range s (4 * (n : Int) + 3)
    have hl : wordsL s (n + 1) = wordsL s n ++ [hword s (4 * (n : Int))] := by unfold wordsL; rw [List.range_succ, List.map_append]; rfl
    have hlen : (wordsL s n).length = n := by unfold wordsL; simp
    refine Ev.step (fun k => ?_) h
    simp only [rillmeterref02_words.l1]
    rw [w64_id (x := 4 * (n : Int) + 1) (by omega) (by omega), w64_id (x := 4 * (n : Int) + 2) (by omega) (by omega), w64_id (x := 4 * (n : Int) + 3) (by omega) (by omega), w64_id (x := 4 * (n : Int) + 4) (by omega) (by omega)]
    rw [if_pos (by omega), if_pos (by omega), if_pos (by omega), if_pos (by omega), if_pos (by omega), if_pos (by omega), if_pos (by omega), if_pos (by omega), if_pos (by omega), hl]
    rw [u64_id (x := bt s (4 * (n : Int))) (by omega) (by omega), u64_id (x := bt s (4 * (n : Int) + 1)) (by omega) (by omega), u64_id (x := bt s (4 * (n : Int) + 2)) (by omega) (by omega), u64_id (x := bt s (4 * (n : Int) + 3)) (by omega) (by omega)]
    rw [u64_id (x := bt s (4 * (n : Int)) * 16777216) (by omega) (by omega), u64_id (x := bt s (4 * (n : Int) + 1) * 65536) (by omega) (by omega), u64_id (x := bt s (4 * (n : Int) + 2) * 256) (by omega) (by omega)]
    rw [u64_id (x := bt s (4 * (n : Int)) * 16777216 + bt s (4 * (n : Int) + 1) * 65536) (by omega) (by omega), u64_id (x := bt s (4 * (n : Int)) * 16777216 + bt s (4 * (n : Int) + 1) * 65536 + bt s (4 * (n : Int) + 2) * 256) (by omega) (by omega), u64_id (by omega) (by omega)]
    rw [show bt s (4 * (n : Int)) * 16777216 + bt s (4 * (n : Int) + 1) * 65536 + bt s (4 * (n : Int) + 2) * 256 + bt s (4 * (n : Int) + 3) = hword s (4 * (n : Int)) by unfold hword; omega, show 4 * ((n + 1 : Nat) : Int) = 4 * (n : Int) + 4 by omega]
theorem words_l0 (d : Nat) : ∀ (s : ByteArray), s.size + d ≤ 1000008 → (s.size + d) % 4 = 0 → d < 4 → Ev (fun k => rillmeterref02_words.l0 k s) (wordsL s (nwords s)) := by
  induction d with
  | zero =>
    intro s hs h4 _
    have h := words_l1 s (by omega) (by omega) (s.size / 4) 0 (by omega)
    have hn : nwords s = s.size / 4 := by unfold nwords; omega
    rw [hn]
    refine Ev.step (fun k => ?_) h
    simp only [rillmeterref02_words.l0]
    rw [if_pos (by omega)]
    rfl
  | succ d ih =>
    intro s hs h4 hd
    have hz : (strOfNums [0]).size = 1 := rfl
    have hsz : (s ++ strOfNums [0]).size = s.size + 1 := by rw [ByteArray.size_append, hz]
    have h := ih (s ++ strOfNums [0]) (by omega) (by omega) (by omega)
    have hn : nwords (s ++ strOfNums [0]) = nwords s := by unfold nwords; rw [hsz]; omega
    have hw : wordsL (s ++ strOfNums [0]) (nwords s) = wordsL s (nwords s) := by
      unfold wordsL
      apply List.map_congr_left
      intro i _
      unfold hword
      rw [bt_push s _ (by omega), bt_push s _ (by omega), bt_push s _ (by omega), bt_push s _ (by omega)]
    rw [hn, hw] at h
    refine Ev.step (fun k => ?_) h
    simp only [rillmeterref02_words.l0]
    rw [if_neg (by omega), Option.bind_some, if_pos (by rw [hz]; omega)]
theorem words_ev (s : ByteArray) (hs : s.size ≤ 1000000) : Ev (fun k => rillmeterref02_words.f k s) (wordsL s (nwords s)) := by
  refine Ev.congr (fun k => ?_) (words_l0 ((4 - s.size % 4) % 4) s (by omega) (by omega) (by omega))
  unfold rillmeterref02_words.f; rfl
theorem ref02_Sum_l0 (s : ByteArray) (a : Int) (hs : s.size ≤ 1000000) (ha0 : 0 ≤ a) (d : Nat) : ∀ n : Nat, n + d = nwords s →
    Ev (fun k => rillmeterref02_Sum.l0 k a (hpoly a s n) (wordsL s (nwords s)) (n : Int)) ((hpoly a s (nwords s) * a % 2305843009213693951) ^ 17 % 2305843009213693951) := by
  have hlen : (wordsL s (nwords s)).length = nwords s := by unfold wordsL; simp
  have hnw : nwords s ≤ 1000008 := by unfold nwords; omega
  induction d with
  | zero =>
    intro n hn
    have e : n = nwords s := by omega
    subst e
    have hr := hpoly_range a s (nwords s)
    have hm := ref01_Mul_ev a (hpoly a s (nwords s)) ha0 hr.1
    rw [Int.mul_comm] at hm
    have hp := ref01_Pow_ev (hpoly a s (nwords s) * a % 2305843009213693951) (by omega) 17 (by omega)
    refine Ev.step (f := fun k => ((rillmeterref01_Mul.f k a (hpoly a s (nwords s))).bind fun t272 => ((rillmeterref01_Pow.f k t272 17).bind fun t273 => (some t273)))) (fun k => ?_) (Ev.bind (f := fun k t272 => ((rillmeterref01_Pow.f k t272 17).bind fun t273 => (some t273))) hm (Ev.bind (f := fun _ t => some t) hp (Ev.now _)))
    simp only [rillmeterref02_Sum.l0]
    rw [if_neg (by omega)]
  | succ d ih =>
    intro n hn
    have h := ih (n + 1) (by omega)
    have hr := hpoly_range a s n
    have hm := ref01_Mul_ev a (hpoly a s n) ha0 hr.1
    rw [Int.mul_comm] at hm
    have hwr := hword_range s (4 * (n : Int))
    have hrd : rd (wordsL s (nwords s)) (n : Int) = hword s (4 * (n : Int)) := by
      unfold rd wordsL
      rw [List.getD_eq_getElem?_getD, List.getElem?_map, List.getElem?_range (by omega)]
      simp
    refine Ev.step (f := fun k => ((rillmeterref01_Mul.f k a (hpoly a s n)).bind fun t268 => (((rillmeterref01_Add.f (hword s (4 * (n : Int))) 1).bind fun t270 => ((rillmeterref01_Add.f t268 t270).bind fun t271 => (rillmeterref02_Sum.l0 k a t271 (wordsL s (nwords s)) ((n + 1 : Nat) : Int))))))) (fun k => ?_) (Ev.bind (f := fun k t268 => (((rillmeterref01_Add.f (hword s (4 * (n : Int))) 1).bind fun t270 => ((rillmeterref01_Add.f t268 t270).bind fun t271 => (rillmeterref02_Sum.l0 k a t271 (wordsL s (nwords s)) ((n + 1 : Nat) : Int)))))) hm ?_)
    · simp only [rillmeterref02_Sum.l0]
      rw [if_pos (by omega), hrd, w64_id (by omega) (by omega)]
      simp only [if_pos (show 0 ≤ (n : Int) by omega)]
      rfl
    · have e1 := ref01_Add_f (hword s (4 * (n : Int))) 1 hwr.1 (by omega)
      have e2 := ref01_Add_f (hpoly a s n * a % 2305843009213693951) ((hword s (4 * (n : Int)) + 1) % 2305843009213693951) (by omega) (by omega)
      rw [← Int.add_emod] at e2
      simp only [e1, Option.bind_some, e2]
      exact h
theorem ref02_Sum_ev (seed : Int) (s : ByteArray) (h0 : 0 ≤ seed) (hs : s.size ≤ 1000000) : Ev (fun k => rillmeterref02_Sum.f k seed s) (hsum seed s) := by
  have h := ref02_Sum_l0 s ((seed + 2) % 2305843009213693951) hs (by omega) (nwords s) 0 (by omega)
  refine Ev.congr (f := fun k => (rillmeterref02_words.f k s).bind fun t265 => (rillmeterref02_Sum.l0 k ((seed + 2) % 2305843009213693951) ((s.size : Int) % 2305843009213693951) t265 0)) (fun k => ?_) (Ev.bind (f := fun k t265 => (rillmeterref02_Sum.l0 k ((seed + 2) % 2305843009213693951) ((s.size : Int) % 2305843009213693951) t265 0)) (words_ev s hs) h)
  unfold rillmeterref02_Sum.f
  rw [ref01_Add_f seed 2 h0 (by omega), Option.bind_some, u64_id (by omega) (by omega), ref01_Of_f _ (by omega), Option.bind_some]
theorem ref02_Cell_ev (seed : Int) (s : ByteArray) (n : Int) (h0 : 0 ≤ seed) (hs : s.size ≤ 1000000) (hn : n < 9223372036854775808) : Ev (fun k => rillmeterref02_Cell.f k seed s n) (hcell seed s n) := by
  unfold hcell rillmeterref02_Cell.f
  by_cases c : n < 1
  · simp only [if_pos c]; exact Ev.now _
  · simp only [if_neg c]
    have hr := hsum_range seed s
    have hm := Int.emod_lt_of_pos (hsum seed s) (show 0 < n by omega)
    have hm0 := Int.emod_nonneg (hsum seed s) (show n ≠ 0 by omega)
    refine Ev.bind (f := fun k t274 => (if (IntKind.u64.wrap n) = 0 then (none) else (some (wrap64 (Int.tmod t274 (IntKind.u64.wrap n)))))) (ref02_Sum_ev seed s h0 hs) ?_
    rw [u64_id (by omega) (by omega), if_neg (by omega), tmod_id _ _ hr.1, w64_id (by omega) (by omega)]
    exact Ev.now _
theorem ref02_Sign_ev (seed : Int) (s : ByteArray) (h0 : 0 ≤ seed) (hs : s.size ≤ 1000000) : Ev (fun k => rillmeterref02_Sign.f k seed s) (hsign seed s) := by
  unfold rillmeterref02_Sign.f hsign
  have hr := hsum_range seed s
  refine Ev.bind (f := fun k t282 => (if (Int.tmod t282 2) = 1 then (some 1) else (some (-1)))) (ref02_Sum_ev seed s h0 hs) ?_
  rw [tmod_id _ _ hr.1]
  by_cases c : hsum seed s % 2 = 1
  · rw [if_pos c, c]; exact Ev.now _
  · rw [if_neg c, show hsum seed s % 2 = 0 by omega]; exact Ev.now _
end Go.Proofs.Yteaeigpeaneicaa.G
end

section
-- Printed by gprint.py: a program of this session over the kit's print. Not trusted: Lean checks it.
namespace Go.Proofs.Yteaeigpeaneicaa.G
open Go.RowKit Go.Proofs.YteaeigpeaneicaaW.PrintWords Go.Proofs.YteaeigpeaneicaaW.PrintLast Go.Proofs.YteaeigpeaneicaaW.PrintMore
attribute [local go_sem] max2_int min2_int max_two min_two max_three min_three max_four min_four   -- for this text's walks alone
set_option linter.unusedVariables false
set_option linter.unusedSimpArgs false

/-! ### signed_place: function 30 -/
def signed_place.f (k : Nat) (a0_0 : Int) (l0_1 : List (List Int)) (a1 : ByteArray) (a2 : Int) : Option (Int × Int) := (hash_Row.f a0_0 (wrap64 (2 * a2))).bind fun t156 => (if 0 ≤ a2 then (if a2 < (l0_1.length : Int) then ((hash_Cell.f k t156 a1 ((rd_L1 l0_1 a2).length : Int)).bind fun t158 => ((hash_Row.f a0_0 (wrap64 ((wrap64 (2 * a2)) + 1))).bind fun t159 => ((hash_Sign.f k t159 a1).bind fun t160 => (some (t158, t160))))) else (none)) else (none))
theorem signed_place.mono : ∀ a0 a1 a2 a3 k, LeO (signed_place.f k a0 a1 a2 a3) (signed_place.f (k + 1) a0 a1 a2 a3) := by
 intro a0 a1 a2 a3 k
 unfold signed_place.f
 repeat' first
   | (with_reducible exact hash_Cell.mono _ _ _ _)
   | (with_reducible exact hash_Sign.mono _ _ _)
   | (with_reducible exact LeO.refl _)
   | (with_reducible exact LeO.none _)
   | (with_reducible refine LeO.ite ?_ ?_)
   | (with_reducible refine LeO.bind ?_ (fun _ => ?_))
   | exact hash_Cell.mono _ _ _ _
   | exact hash_Sign.mono _ _ _
   | exact LeO.none _
   | refine LeO.ite ?_ ?_
   | refine LeO.bind ?_ (fun _ => ?_)
def signed_place.T1 : Bool × List (List Nat × List Nat) := (true, [([], []), ([0], [0]), ([], []), ([2], [2]), ([1, 3], [1, 3]), ([], []), ([], []), ([6], [6]), ([], []), ([7, 8], [7, 8]), ([9], [9]), ([10], [10]), ([4, 5, 11, 4], [4, 5, 11]), ([], []), ([13], [13]), ([], []), ([15], [15]), ([16], [16]), ([14, 17, 12], [14, 17]), ([], []), ([18, 19, 18], [18, 19]), ([12, 20, 0, 1, 2, 3, 4, 5, 6, 7, 8, 9, 10, 11, 12], [12]), ([20, 21, 0, 1, 2, 3, 4, 5, 6, 7, 8, 9, 10, 11, 12, 13, 14, 15, 16, 17, 18, 19, 20, 21], [20])])
def signed_place.B1 : List Nat := [0, 1, 0, 4, 15, 0, 0, 64, 0, 448, 960, 1984, 4095, 0, 8192, 0, 32768, 98304, 262143, 0, 1048575, 2097151, 4194303]
theorem signed_place.tab1 : rtab .any (opsOf Try.f30 1) = signed_place.T1 := by kernel_rfl
theorem signed_place.bits1 : waitsOk signed_place.T1.2 signed_place.B1 = true := by kernel_rfl
set_option maxHeartbeats 8000000 in
set_option maxRecDepth 100000 in
theorem signed_place.calls (k : Nat) (a0_0 : Int) (A0_1 : Option Addr) (c0_1 : Nat) (l0_1 : List (List Int)) (a1 : ByteArray) (a2 : Int) (r1 : Int) (r2 : Int) (w : World) (hr0_1 : Kd.C (Kd.slice 3 (Kd.int .i64)) w A0_1 l0_1.length l0_1) (hc0_1 : l0_1.length ≤ c0_1) (h : signed_place.f k a0_0 l0_1 a1 a2 = some (r1, r2)) :
  Calls Try.prog 30 #[.agg #[.int .u64 a0_0, .slice A0_1 l0_1.length c0_1], .string a1, .int .i64 a2] w fun e w' => e = .returned (.tuple #[.int .i64 r1, .int .i64 r2]) ∧ Below w.heap.size w w' := by
 have hu25 := Try.underlying25
 have HR0_1 := Aside0.mk hr0_1
 have HC0_1 := Aside0.mk hc0_1
 clear hr0_1 hc0_1
 have HB := Aside0.mk (Below.refl w.heap.size w)
 have H : ((hash_Row.f a0_0 (wrap64 (2 * a2))).bind fun t156 => (if 0 ≤ a2 then (if a2 < (l0_1.length : Int) then ((hash_Cell.f k t156 a1 ((rd_L1 l0_1 a2).length : Int)).bind fun t158 => ((hash_Row.f a0_0 (wrap64 ((wrap64 (2 * a2)) + 1))).bind fun t159 => ((hash_Sign.f k t159 a1).bind fun t160 => (some (t158, t160))))) else (none)) else (none))) = some (r1, r2) := h
 clear h
 replace H := Option.bind_eq_some_iff.mp H
 obtain ⟨t156, A40, H⟩ := H
 replace H : (if 0 ≤ a2 then (if a2 < (l0_1.length : Int) then ((hash_Cell.f k t156 a1 ((rd_L1 l0_1 a2).length : Int)).bind fun t158 => ((hash_Row.f a0_0 (wrap64 ((wrap64 (2 * a2)) + 1))).bind fun t159 => ((hash_Sign.f k t159 a1).bind fun t160 => (some (t158, t160))))) else (none)) else (none)) = some (r1, r2) := H
 have A4 := Aside0.mk A40
 clear A40
 by_cases c5 : 0 ≤ a2
 ·
  rw [if_pos c5] at H
  have c5b0 : decide (0 ≤ a2) = true := decide_eq_true c5
  clear c5
  by_cases c6 : a2 < (l0_1.length : Int)
  ·
   rw [if_pos c6] at H
   have c6b0 : decide (a2 < (l0_1.length : Int)) = true := decide_eq_true c6
   clear c6
   replace H := Option.bind_eq_some_iff.mp H
   obtain ⟨t158, A70, H⟩ := H
   replace H : ((hash_Row.f a0_0 (wrap64 ((wrap64 (2 * a2)) + 1))).bind fun t159 => ((hash_Sign.f k t159 a1).bind fun t160 => (some (t158, t160)))) = some (r1, r2) := H
   have A7 := Aside0.mk A70
   clear A70
   replace H := Option.bind_eq_some_iff.mp H
   obtain ⟨t159, A80, H⟩ := H
   replace H : ((hash_Sign.f k t159 a1).bind fun t160 => (some (t158, t160))) = some (r1, r2) := H
   have A8 := Aside0.mk A80
   clear A80
   replace H := Option.bind_eq_some_iff.mp H
   obtain ⟨t160, A90, H⟩ := H
   replace H : (some (t158, t160)) = some (r1, r2) := H
   have A9 := Aside0.mk A90
   clear A90
   simp only [Option.some.injEq, Prod.mk.injEq] at H
   obtain ⟨rfl, rfl⟩ := H
   go_enter Try.func30, Try.ntmps30
   try go_wp2_with (first | ((with_reducible refine gate_dst (N := 3) rfl ?_); refine box_event ?hg (N := 3) ?hd (cs := #[.int .u64 a0_0, .slice A0_1 l0_1.length c0_1]) (t := 25) ?hr ?_; (case hd => rfl); (case hg => rfl); (case hr => first | (go_simp; done) | (go_simp; rfl)); intro gb155 hg w10 hbox hb; have BK155 := Aside0.mk (hbox); have GW155 := geN HB hg; have GE155 := geN HB hg; replace HB := stB HB hb; clear hb hbox hg))
   replace BK155 := Aside0.mk (blk_drew BK155.out)
   replace HB := Aside0.mk (below_drew1 HB.out)
   have p157 : 0 ≤ (a2 : Int) := of_decide_eq_true (by first | (with_reducible assumption) | assumption)
   have q157 : a2 < (l0_1.length : Int) := of_decide_eq_true (by first | (with_reducible assumption) | assumption)
   obtain ⟨ad157, A157_0, c157_0, e157, hx157_0, hl157_0, hi157_0⟩ := at_L1 HR0_1.out a2 p157 q157
   have hw157_0 := hx157_0
   cases e157
   replace hx157_0 := (HB.out.cell (World.block_lt_of_cell? w _ hx157_0)).trans hx157_0
   have HR157_0 := Aside0.mk hi157_0
   have HC157_0 := Aside0.mk hl157_0
   clear hi157_0 hl157_0
   replace p157 := eq_true p157
   replace q157 := eq_true q157
   refine start_ (n := 23) (S := fun w' => w'.cell? ⟨gb155, 0, none⟩ = some (.int .u64 a0_0) ∧ w'.cell? ⟨gb155, 1, none⟩ = some (.slice (some ad157) l0_1.length c0_1) ∧ w'.cell? (ad157.add (a2).toNat) = some (.slice A157_0 (rd_L1 l0_1 a2).length c157_0)) (ds := []) #[false, false, false, false, false, false, false, false, false, false, false, false, false, false, false, false, false, false, false, false, false, false, false] (by kernel_rfl) rfl rfl ⟨(blk_cell BK155.out 0).trans rfl, (blk_cell BK155.out 1).trans rfl, ((HB.out.cell (World.block_lt_of_cell? w _ hw157_0)).trans hw157_0)⟩ (fun hHeld => ?_); refine with_tabW signed_place.tab1 signed_place.bits1 (fun HT_ HW_ => ?_)
   generalize w10.drew = w11 at BK155 HB HR157_0 hx157_0 hHeld ⊢
   refine pure_ (i := 0) (N := some 8) (v := ?_) (a' := ?_) (mkB 23 1) rfl rfl (any_of HT_.out (by kernel_rfl)) (fun _ _ _ h => h) (Or.inl ⟨by rfl, ?_⟩) ?_ ?_
   rotate_left
   ·
    intro w'
    go_simp
    with_reducible rfl
   rotate_left
   ·
    simp only [Act.put, List.setIfInBounds_toArray, List.set_cons_zero, List.set_cons_succ, i64_w, i32_w]
    rfl
   refine pure_ (i := 2) (N := some 10) (v := ?_) (a' := ?_) (mkB 23 5) rfl rfl (any_of HT_.out (by kernel_rfl)) (fun _ _ _ h => h) (Or.inl ⟨by rfl, ?_⟩) ?_ ?_
   rotate_left
   ·
    intro w'
    go_simp
    with_reducible rfl
   rotate_left
   ·
    simp only [Act.put, List.setIfInBounds_toArray, List.set_cons_zero, List.set_cons_succ, i64_w, i32_w]
    rfl
   refine pure_ (i := 3) (N := some 11) (v := ?_) (a' := ?_) (mkB 23 13) rfl rfl (any_of HT_.out (by kernel_rfl)) (fun _ _ _ h => h) (Or.inl ⟨by rfl, ?_⟩) ?_ ?_
   rotate_left
   ·
    intro w'
    go_simp
    with_reducible rfl
   rotate_left
   ·
    simp only [Act.put, List.setIfInBounds_toArray, List.set_cons_zero, List.set_cons_succ, i64_w, i32_w]
    rfl
   refine pure_ (i := 5) (N := some 13) (v := ?_) (a' := ?_) (mkB 23 45) rfl rfl (any_of HT_.out (by kernel_rfl)) (fun _ _ _ h => h) (Or.inl ⟨by rfl, ?_⟩) ?_ ?_
   rotate_left
   ·
    intro w'
    go_simp
    with_reducible rfl
   rotate_left
   ·
    simp only [Act.put, List.setIfInBounds_toArray, List.set_cons_zero, List.set_cons_succ, i64_w, i32_w]
    rfl
   refine pure_ (i := 6) (N := some 14) (v := ?_) (a' := ?_) (mkB 23 109) rfl rfl (any_of HT_.out (by kernel_rfl)) (fun _ _ _ h => h) (Or.inl ⟨by rfl, ?_⟩) ?_ ?_
   rotate_left
   ·
    intro w'
    go_simp
    with_reducible rfl
   rotate_left
   ·
    simp only [Act.put, List.setIfInBounds_toArray, List.set_cons_zero, List.set_cons_succ, i64_w, i32_w]
    rfl
   refine pure_ (i := 8) (N := some 16) (v := ?_) (a' := ?_) (mkB 23 365) rfl rfl (any_of HT_.out (by kernel_rfl)) (fun _ _ _ h => h) (Or.inl ⟨by rfl, ?_⟩) ?_ ?_
   rotate_left
   ·
    intro w'
    go_simp
    with_reducible rfl
   rotate_left
   ·
    simp only [Act.put, List.setIfInBounds_toArray, List.set_cons_zero, List.set_cons_succ, i64_w, i32_w]
    rfl
   refine pure_ (i := 13) (N := some 21) (v := ?_) (a' := ?_) (mkB 23 8557) rfl rfl (any_of HT_.out (by kernel_rfl)) (fun _ _ _ h => h) (Or.inl ⟨by rfl, ?_⟩) ?_ ?_
   rotate_left
   ·
    intro w'
    go_simp
    with_reducible rfl
   rotate_left
   ·
    simp only [Act.put, List.setIfInBounds_toArray, List.set_cons_zero, List.set_cons_succ, i64_w, i32_w]
    rfl
   refine pure_ (i := 15) (N := some 23) (v := ?_) (a' := ?_) (mkB 23 41325) rfl rfl (any_of HT_.out (by kernel_rfl)) (fun _ _ _ h => h) (Or.inl ⟨by rfl, ?_⟩) ?_ ?_
   rotate_left
   ·
    intro w'
    go_simp
    with_reducible rfl
   rotate_left
   ·
    simp only [Act.put, List.setIfInBounds_toArray, List.set_cons_zero, List.set_cons_succ, i64_w, i32_w]
    rfl
   refine pure_ (i := 16) (N := some 24) (v := ?_) (a' := ?_) (mkB 23 106861) rfl rfl (any_of HT_.out (by kernel_rfl)) (fun _ _ _ h => h) (Or.inl ⟨by rfl, ?_⟩) ?_ ?_
   rotate_left
   ·
    intro w'
    go_simp
    with_reducible rfl
   rotate_left
   ·
    simp only [Act.put, List.setIfInBounds_toArray, List.set_cons_zero, List.set_cons_succ, i64_w, i32_w]
    rfl
   refine pure_ (i := 17) (N := some 25) (v := ?_) (a' := ?_) (mkB 23 237933) rfl rfl (any_of HT_.out (by kernel_rfl)) (fun _ _ _ h => h) (Or.inl ⟨by rfl, ?_⟩) ?_ ?_
   rotate_left
   ·
    intro w'
    go_simp
    with_reducible rfl
   rotate_left
   ·
    simp only [Act.put, List.setIfInBounds_toArray, List.set_cons_zero, List.set_cons_succ, i64_w, i32_w]
    rfl
   refine pure_ (i := 19) (N := some 27) (v := ?_) (a' := ?_) (mkB 23 762221) rfl rfl (any_of HT_.out (by kernel_rfl)) (fun _ _ _ h => h) (Or.inl ⟨by rfl, ?_⟩) ?_ ?_
   rotate_left
   ·
    intro w'
    go_simp
    with_reducible rfl
   rotate_left
   ·
    simp only [Act.put, List.setIfInBounds_toArray, List.set_cons_zero, List.set_cons_succ, i64_w, i32_w]
    rfl
   refine take_ (i := 1) (N := some 9) (v := ?_) (a' := ?_) (mkB 23 762223) rfl rfl (take_ofW HT_.out HW_.out (by kernel_rfl)) (fun _ _ _ h => h) (Or.inl ⟨by rfl, ?_⟩) hHeld ?_ ?_
   rotate_left
   ·
    rintro w' ⟨s0, s1, s2⟩
    go_simp
    with_reducible rfl
   rotate_left
   ·
    simp only [Act.put, List.setIfInBounds_toArray, List.set_cons_zero, List.set_cons_succ, i64_w, i32_w]
    rfl
   refine take_ (i := 7) (N := some 15) (v := ?_) (a' := ?_) (mkB 23 762351) rfl rfl (take_ofW HT_.out HW_.out (by kernel_rfl)) (fun _ _ _ h => h) (Or.inl ⟨by rfl, ?_⟩) hHeld ?_ ?_
   rotate_left
   ·
    rintro w' ⟨s0, s1, s2⟩
    go_simp
    with_reducible rfl
   rotate_left
   ·
    simp only [Act.put, List.setIfInBounds_toArray, List.set_cons_zero, List.set_cons_succ, i64_w, i32_w]
    rfl
   refine pure_ (i := 9) (N := some 17) (v := ?_) (a' := ?_) (mkB 23 762863) rfl rfl (any_of HT_.out (by kernel_rfl)) (fun _ _ _ h => h) (Or.inl ⟨by rfl, ?_⟩) ?_ ?_
   rotate_left
   ·
    intro w'
    go_simp
    with_reducible rfl
   rotate_left
   ·
    simp only [Act.put, List.setIfInBounds_toArray, List.set_cons_zero, List.set_cons_succ, i64_w, i32_w]
    rfl
   refine take_ (i := 10) (N := some 18) (v := ?_) (a' := ?_) (mkB 23 763887) rfl rfl (take_ofW HT_.out HW_.out (by kernel_rfl)) (fun _ _ _ h => h) (Or.inl ⟨by rfl, ?_⟩) hHeld ?_ ?_
   rotate_left
   ·
    rintro w' ⟨s0, s1, s2⟩
    go_simp
    with_reducible rfl
   rotate_left
   ·
    simp only [Act.put, List.setIfInBounds_toArray, List.set_cons_zero, List.set_cons_succ, i64_w, i32_w]
    rfl
   refine pure_ (i := 11) (N := some 19) (v := ?_) (a' := ?_) (mkB 23 765935) rfl rfl (any_of HT_.out (by kernel_rfl)) (fun _ _ _ h => h) (Or.inl ⟨by rfl, ?_⟩) ?_ ?_
   rotate_left
   ·
    intro w'
    go_simp
    with_reducible rfl
   rotate_left
   ·
    simp only [Act.put, List.setIfInBounds_toArray, List.set_cons_zero, List.set_cons_succ, i64_w, i32_w]
    rfl
   refine take_ (i := 14) (N := some 22) (v := ?_) (a' := ?_) (mkB 23 782319) rfl rfl (take_ofW HT_.out HW_.out (by kernel_rfl)) (fun _ _ _ h => h) (Or.inl ⟨by rfl, ?_⟩) hHeld ?_ ?_
   rotate_left
   ·
    rintro w' ⟨s0, s1, s2⟩
    go_simp
    with_reducible rfl
   rotate_left
   ·
    simp only [Act.put, List.setIfInBounds_toArray, List.set_cons_zero, List.set_cons_succ, i64_w, i32_w]
    rfl
   refine one_ (i := 4) (N := some 12) (mkB 23 782335) rfl rfl (one_of HT_.out (by kernel_rfl)) (by decide) (fun K hK => ?_)
   refine goesN_ Try.func41 #[.int .u64 a0_0, .int .i64 (wrap64 (2 * a2))] ?_
   with_reducible refine (hash_Row.calls a0_0 (wrap64 (2 * a2)) t156 _ A4.out).mono ?_
   rintro e w12 ⟨rfl, hb⟩
   refine ⟨_, rfl, ?_⟩
   replace BK155 := bB BK155 hb
   replace HB := stB HB hb
   (try clear hb)
   (try clear hb2)
   (try clear hk)
   (try clear hi)
   refine hK.out _ _ ⟨(blk_cell BK155.out 0).trans rfl, (blk_cell BK155.out 1).trans rfl, ((HB.out.cell (World.block_lt_of_cell? w _ hw157_0)).trans hw157_0)⟩ (fun hHeld => ?_)
   clear hK K
   refine norm_ (a' := ?_) ?_ ?_
   rotate_left
   ·
    show Act.put _ (some 12) _ = _
    simp only [Act.put, List.setIfInBounds_toArray, List.set_cons_zero, List.set_cons_succ, i64_w, i32_w]
    rfl
   refine one_ (i := 12) (N := some 20) (mkB 23 786431) rfl rfl (one_of HT_.out (by kernel_rfl)) (by decide) (fun K hK => ?_)
   refine goesN_ Try.func40 #[.int .u64 t156, .string a1, .int .i64 ((rd_L1 l0_1 a2).length : Int)] ?_
   with_reducible refine (hash_Cell.calls k t156 a1 ((rd_L1 l0_1 a2).length : Int) t158 _ A7.out).mono ?_
   rintro e w' ⟨rfl, ⟨nd, rfl⟩⟩
   refine ⟨_, rfl, ?_⟩
   refine hK.out _ _ ⟨(blk_cell BK155.out 0).trans rfl, (blk_cell BK155.out 1).trans rfl, ((HB.out.cell (World.block_lt_of_cell? w _ hw157_0)).trans hw157_0)⟩ (fun hHeld => ?_)
   clear hK K
   refine norm_ (a' := ?_) ?_ ?_
   rotate_left
   ·
    show Act.put _ (some 20) _ = _
    simp only [Act.put, List.setIfInBounds_toArray, List.set_cons_zero, List.set_cons_succ, i64_w, i32_w]
    rfl
   refine one_ (i := 18) (N := some 26) (mkB 23 1048575) rfl rfl (one_of HT_.out (by kernel_rfl)) (by decide) (fun K hK => ?_)
   refine goesN_ Try.func41 #[.int .u64 a0_0, .int .i64 (wrap64 ((wrap64 (2 * a2)) + 1))] ?_
   with_reducible refine (hash_Row.calls a0_0 (wrap64 ((wrap64 (2 * a2)) + 1)) t159 _ A8.out).mono ?_
   rintro e w13 ⟨rfl, hb⟩
   refine ⟨_, rfl, ?_⟩
   replace BK155 := bB BK155 hb
   replace HB := stB HB hb
   (try clear hb)
   (try clear hb2)
   (try clear hk)
   (try clear hi)
   refine hK.out _ _ ⟨(blk_cell BK155.out 0).trans rfl, (blk_cell BK155.out 1).trans rfl, ((HB.out.cell (World.block_lt_of_cell? w _ hw157_0)).trans hw157_0)⟩ (fun hHeld => ?_)
   clear hK K
   refine norm_ (a' := ?_) ?_ ?_
   rotate_left
   ·
    show Act.put _ (some 26) _ = _
    simp only [Act.put, List.setIfInBounds_toArray, List.set_cons_zero, List.set_cons_succ, i64_w, i32_w]
    rfl
   refine one_ (i := 20) (N := some 28) (mkB 23 2097151) rfl rfl (one_of HT_.out (by kernel_rfl)) (by decide) (fun K hK => ?_)
   refine goesN_ Try.func42 #[.int .u64 t159, .string a1] ?_
   with_reducible refine (hash_Sign.calls k t159 a1 t160 _ A9.out).mono ?_
   rintro e w' ⟨rfl, ⟨nd, rfl⟩⟩
   refine ⟨_, rfl, ?_⟩
   refine hK.out _ _ ⟨(blk_cell BK155.out 0).trans rfl, (blk_cell BK155.out 1).trans rfl, ((HB.out.cell (World.block_lt_of_cell? w _ hw157_0)).trans hw157_0)⟩ (fun hHeld => ?_)
   clear hK K
   refine norm_ (a' := ?_) ?_ ?_
   rotate_left
   ·
    show Act.put _ (some 28) _ = _
    simp only [Act.put, List.setIfInBounds_toArray, List.set_cons_zero, List.set_cons_succ, i64_w, i32_w]
    rfl
   refine pure_ (i := 21) (N := some 6) (v := ?_) (a' := ?_) (mkB 23 4194303) rfl rfl (any_of HT_.out (by kernel_rfl)) (fun _ _ _ h => h) (Or.inl ⟨by rfl, ?_⟩) ?_ ?_
   rotate_left
   ·
    intro w'
    go_simp
    with_reducible rfl
   rotate_left
   ·
    simp only [Act.put, List.setIfInBounds_toArray, List.set_cons_zero, List.set_cons_succ, i64_w, i32_w]
    rfl
   refine pure_ (i := 22) (N := some 7) (v := ?_) (a' := ?_) (mkB 23 8388607) rfl rfl (any_of HT_.out (by kernel_rfl)) (fun _ _ _ h => h) (Or.inl ⟨by rfl, ?_⟩) ?_ ?_
   rotate_left
   ·
    intro w'
    go_simp
    with_reducible rfl
   rotate_left
   ·
    simp only [Act.put, List.setIfInBounds_toArray, List.set_cons_zero, List.set_cons_succ, i64_w, i32_w]
    rfl
   refine done_ (done_of HT_.out (by kernel_rfl)) ?_
   try go_wp2
   go_ret2
   exact ⟨by first | rfl | (simp [errW_none, errW_some] <;> rfl) | (simp [*, errW_none, errW_some] <;> rfl), by repeat (first | (with_reducible first | exact HB.out | apply below_alloc | apply pw_below_drewN | apply below_drew1 | refine below_set ?_ GE155.out) | exact HB.out)⟩
  ·
   rw [if_neg c6] at H
   exact absurd H (by simp)
 ·
  rw [if_neg c5] at H
  exact absurd H (by simp)

end Go.Proofs.Yteaeigpeaneicaa.G
end

section
-- Printed by gprint.py: a program of this session over the kit's print. Not trusted: Lean checks it.
namespace Go.Proofs.Yteaeigpeaneicaa.G
open Go.RowKit Go.Proofs.YteaeigpeaneicaaW.PrintWords Go.Proofs.YteaeigpeaneicaaW.PrintLast Go.Proofs.YteaeigpeaneicaaW.PrintMore
attribute [local go_sem] max2_int min2_int max_two min_two max_three min_three max_four min_four   -- for this text's walks alone
set_option linter.unusedVariables false
set_option linter.unusedSimpArgs false

/-! ### slices_Clone_int_int: function 39 -/
-- GIVEN CloneInt.lean
def slices_Clone_int_int.f (l0 : List Int) : Option (List Int) := if l0.length < 17592186044416 then some l0 else none
set_option maxHeartbeats 1000000 in
theorem slices_Clone_int_int.calls (A0 : Option Addr) (c0 : Nat) (l0 : List Int) (r : List Int) (w : World) (hr0 : Kd.C (Kd.int .i64) w A0 l0.length l0) (hc0 : l0.length ≤ c0) (h : slices_Clone_int_int.f l0 = some r) :
    Calls Try.prog 39 #[.slice A0 l0.length c0] w fun e w' => ∃ v0_ : Value, e = .returned (v0_) ∧ Kd.R (Kd.int .i64) 3 w' w.heap.size (fun _ => True) v0_ r ∧ Below w.heap.size w w' := by
  have hlim : l0.length < 17592186044416 := by
    by_cases c : l0.length < 17592186044416
    · exact c
    · simp [slices_Clone_int_int.f, c] at h
  obtain rfl : l0 = r := by simpa [slices_Clone_int_int.f, hlim] using h
  clear h
  have HL := Aside0.mk hlim
  have HR := Aside0.mk hr0
  cases A0 with
  | none =>
    have hl : l0 = [] := by
      rcases Nat.eq_zero_or_pos l0.length with h | h
      · exact List.length_eq_zero_iff.1 h
      · obtain ⟨ad, he, _⟩ := hr0.2.2 h
        cases he
    have HN := Aside0.mk hl
    clear hl hr0 hlim
    have e1 := fun wx => Lib.run_eql_slice_nil (P := Try.prog) wx 33 3 none l0.length c0 0 0 Try.underlying33
    go_enter Try.func39, Try.ntmps39
    go_wp2
    go_ret
    refine ⟨.slice none 0 0, rfl, ?_, Below.refl _ _⟩
    rw [HN.out]
    exact Kd.R_nil _ _ _ _ _
  | some ad =>
    clear hr0 hlim
    have e1 := fun wx => Lib.run_eql_slice_nil (P := Try.prog) wx 33 3 (some ad) l0.length c0 0 0 Try.underlying33
    go_enter Try.func39, Try.ntmps39
    go_wp2_with (first | ((with_reducible refine gate_dst (N := 5) rfl ?_); refine Kd.R_lit (Kd.int .i64) (w0 := w) w.heap.size 3 ?hg (N := 5) ?hd (xs := []) (inner := []) (ok := fun _ => True) (okp := fun _ => True) ?hr (Reps.none _ _) (fun _ hk => hk) trivial (Below.refl _ _) (Nat.le_refl _) (by simp) ?_; (case hd => rfl); (case hg => rfl); (case hr => first | (go_simp; done) | (go_simp; rfl)); intro v1 w1 h1 hb1 hg1 hat1; have H1 := Aside0.mk h1; have HB1 := Aside0.mk hb1; clear h1 hb1 hg1 hat1) | ((with_reducible refine gate_builtin (b := .append) (xs := #[.tmp 5, .tmp 6]) rfl ?_); at_builtin; refine Kd.R_append_rows (Kd.int .i64) (w0 := w) w.heap.size rfl (.tmp 5) (.tmp 6) 33 3 (.int .i64 0) 8 rfl Try.underlying33 info3 rfl (by decide) (by omega) v1 [] l0 (some ad) _ c0 (fun _ => True) (fun _ => False) rfl rfl ?aO ?aR (fun _ _ h => h) (fun _ h => h.elim) (fun _ _ => trivial) ?aB ?aS ?aL ?_; (case aO => exact H1.out); (case aR => exact Kd.C_below HR.out HB1.out); (case aB => exact HB1.out); (case aS => exact below_size HB1.out); (case aL => have hq := HL.out; simp only [List.length_nil]; omega); intro v2 w2 h2 hb2 hg2 hat2; have H2 := Aside0.mk h2; have HB2 := Aside0.mk hb2; clear h2 hb2 hg2 hat2))
    go_ret
    exact ⟨_, rfl, H2.out, HB2.out⟩

end Go.Proofs.Yteaeigpeaneicaa.G
end

section
-- Printed by gprint.py: a program of this session over the kit's print. Not trusted: Lean checks it.
namespace Go.Proofs.Yteaeigpeaneicaa.G
open Go.RowKit Go.Proofs.YteaeigpeaneicaaW.PrintWords Go.Proofs.YteaeigpeaneicaaW.PrintLast Go.Proofs.YteaeigpeaneicaaW.PrintMore
attribute [local go_sem] max2_int min2_int max_two min_two max_three min_three max_four min_four   -- for this text's walks alone
set_option linter.unusedVariables false
set_option linter.unusedSimpArgs false

/-! ### signed_clone: function 29 -/
def signed_clone.l0 : Nat → List (List Int) → List (List Int) → Int → Int → Int → List (List Int) → Option (Int × (List (List Int)))
 | 0, _, _, _, _, _, _ => none
 | k + 1, x3, x11, x12, x13, x122000, x122001 => if x13 < x12 then (if 0 ≤ x13 then (if x13 < (x11.length : Int) then ((slices_Clone_int_int.f (rd_L1 x11 x13)).bind fun t127 => (if x13 < (x3.length : Int) then (signed_clone.l0 k (x3.set (x13 : Int).toNat t127) x11 x12 (wrap64 (x13 + 1)) x122000 x122001) else (none))) else (none)) else (none)) else (some (x122000, x3))
def signed_clone.f (k : Nat) (a0_0 : Int) (l0_1 : List (List Int)) : Option (Int × (List (List Int))) := if 0 ≤ (l0_1.length : Int) then (if ((l0_1.length : Int) : Int).toNat ≤ 11728124029610 then (signed_clone.l0 k (List.replicate ((l0_1.length : Int) : Int).toNat []) l0_1 (l0_1.length : Int) 0 a0_0 l0_1) else (none)) else (none)
theorem signed_clone.mono_l : ∀ k, (∀ y0 y1 y2 y3 y4 y5, LeO (signed_clone.l0 k y0 y1 y2 y3 y4 y5) (signed_clone.l0 (k + 1) y0 y1 y2 y3 y4 y5))
 | 0 => fun _ _ _ _ _ _ r h => by simp [signed_clone.l0] at h
 | k + 1 => by
  have ih0 := signed_clone.mono_l k
  ·
   intro y0 y1 y2 y3 y4 y5
   unfold signed_clone.l0
   repeat' first
   | (with_reducible exact ih0 _ _ _ _ _ _)
   | (with_reducible exact LeO.refl _)
   | (with_reducible exact LeO.none _)
   | (with_reducible refine LeO.ite ?_ ?_)
   | (with_reducible refine LeO.bind ?_ (fun _ => ?_))
   | exact ih0 _ _ _ _ _ _
   | exact LeO.none _
   | refine LeO.ite ?_ ?_
   | refine LeO.bind ?_ (fun _ => ?_)
theorem signed_clone.mono : ∀ a0 a1 k, LeO (signed_clone.f k a0 a1) (signed_clone.f (k + 1) a0 a1) := by
 intro a0 a1 k
 have ih0 := signed_clone.mono_l k
 unfold signed_clone.f
 repeat' first
   | (with_reducible exact ih0 _ _ _ _ _ _)
   | (with_reducible exact LeO.refl _)
   | (with_reducible exact LeO.none _)
   | (with_reducible refine LeO.ite ?_ ?_)
   | (with_reducible refine LeO.bind ?_ (fun _ => ?_))
   | exact ih0 _ _ _ _ _ _
   | exact LeO.none _
   | refine LeO.ite ?_ ?_
   | refine LeO.bind ?_ (fun _ => ?_)
set_option maxHeartbeats 8000000 in
set_option maxRecDepth 100000 in
theorem signed_clone.calls (k : Nat) (a0_0 : Int) (A0_1 : Option Addr) (c0_1 : Nat) (l0_1 : List (List Int)) (r1 : Int) (r2 : List (List Int)) (w : World) (hr0_1 : Kd.C (Kd.slice 3 (Kd.int .i64)) w A0_1 l0_1.length l0_1) (hc0_1 : l0_1.length ≤ c0_1) (h : signed_clone.f k a0_0 l0_1 = some (r1, r2)) :
  Calls Try.prog 29 #[.agg #[.int .u64 a0_0, .slice A0_1 l0_1.length c0_1]] w fun e w' => ∃ v1_ : Value, e = .returned (.agg #[.int .u64 r1, v1_]) ∧ Kd.S (Kd.slice 3 (Kd.int .i64)) 33 w' w.heap.size (fun _ => True) v1_ r2 ∧ Below w.heap.size w w' := by
 have hu25 := Try.underlying25
 have HR0_1 := Aside0.mk hr0_1
 have HC0_1 := Aside0.mk hc0_1
 clear hr0_1 hc0_1
 have HB := Aside0.mk (Below.refl w.heap.size w)
 have H : (if 0 ≤ (l0_1.length : Int) then (if ((l0_1.length : Int) : Int).toNat ≤ 11728124029610 then (signed_clone.l0 k (List.replicate ((l0_1.length : Int) : Int).toNat []) l0_1 (l0_1.length : Int) 0 a0_0 l0_1) else (none)) else (none)) = some (r1, r2) := h
 clear h
 by_cases c2 : 0 ≤ (l0_1.length : Int)
 ·
  rw [if_pos c2] at H
  have c2b0 := eq_true c2
  have c2b1 : decide (0 ≤ (l0_1.length : Int)) = true := decide_eq_true c2
  clear c2
  by_cases c3 : ((l0_1.length : Int) : Int).toNat ≤ 11728124029610
  ·
   rw [if_pos c3] at H
   have c3b0 := eq_true c3
   have c3b1 : decide (((l0_1.length : Int) : Int).toNat ≤ 11728124029610) = true := decide_eq_true c3
   clear c3
   obtain ⟨y123, hy123⟩ : ∃ y_ : List (List Int), y_ = (List.replicate ((l0_1.length : Int) : Int).toNat []) := ⟨_, rfl⟩
   replace H : (signed_clone.l0 k y123 l0_1 (l0_1.length : Int) 0 a0_0 l0_1) = some (r1, r2) := by first | (rw [hy123]; with_reducible exact H) | (have H2_ := (Option.bind_some _ _).symm.trans H; rw [hy123]; with_reducible exact H2_) | (have H2_ := (Option.bind_some _ _).symm.trans H; with_reducible exact H2_) | with_reducible exact H | (rw [hy123]; exact H) | exact H
   have Ny123 := Aside0.mk hy123
   clear hy123
   have H' := Aside0.mk H
   clear H
   go_enter Try.func29, Try.ntmps29
   go_wp2_with (first | ((with_reducible refine gate_dst (N := 1) rfl ?_); refine box_event ?hg (N := 1) ?hd (cs := #[.int .u64 a0_0, .slice A0_1 l0_1.length c0_1]) (t := 25) ?hr ?_; (case hd => rfl); (case hg => rfl); (case hr => first | (go_simp; done) | (go_simp; rfl)); intro gb121 hg w4 hbox hb; have BK121 := Aside0.mk (hbox); have GW121 := geN HB hg; have GE121 := geN HB hg; replace HB := stB HB hb; clear hb hbox hg) | ((with_reducible refine gate_dst (N := 2) rfl ?_); refine box_event ?hg (N := 2) ?hd (cs := #[.int .u64 0, .slice none 0 0]) (t := 25) ?hr ?_; (case hd => rfl); (case hg => rfl); (case hr => first | (go_simp; done) | (go_simp; rfl)); intro gb122 hg w5 hbox hb; have BK122 := Aside0.mk (hbox); have GW122 := geN HB hg; have GE122 := geN HB hg; have NB121_122 := neL BK121 hg; have NB122_121 := neG BK121 hg; replace BK121 := bB BK121 hb; replace HB := stB HB hb; clear hb hbox hg; have hnb6 := NB121_122.out; have hnc6 := NB122_121.out; have hcz7_0 : w5.cell? ⟨gb121, 0, none⟩ = some (.int .u64 a0_0) := (blk_cell BK121.out 0).trans rfl; have hcz7_1 : w5.cell? ⟨gb121, 1, none⟩ = some (.slice A0_1 l0_1.length c0_1) := (blk_cell BK121.out 1).trans rfl; have hfz7_0 := blk_frozen BK121.out 0; have hfz7_1 := blk_frozen BK121.out 1) | ((with_reducible refine gate_dst (N := 9) rfl ?_); refine Kd.S_make (Kd.slice 3 (Kd.int .i64)) _ 33 rfl (N := 9) rfl 23 _ _ rfl (l0_1.length : Int) rfl rfl Try.underlying23 (.slice none 0 0) 24 info33 rfl (by decide) (by omega) [] (ok := fun _ => True) (okp := fun _ => True) ⟨_, rfl, Kd.R_nil _ _ _ _ _⟩ (fun _ hk => hk) trivial (of_decide_eq_true (by first | (with_reducible assumption) | assumption)) (Nat.le_trans (Nat.mul_le_mul_right _ (of_decide_eq_true (by first | (with_reducible assumption) | assumption) : (l0_1.length : Int).toNat ≤ 11728124029610)) (by omega)) (Below.refl _ _) (Nat.le_refl _) ?_; intro v124 w8 ho9 hb hg_ hnew_; clear hg_ hnew_; (first | rw [← Ny123.out] at ho9 | (simp only [Int.reduceToNat] at ho9; rw [← Ny123.out] at ho9)); have HO125 := Aside0.mk (Kd.S_lower ho9 (below_size (pH HB))); replace BK121 := bB BK121 hb; replace BK122 := bB BK122 hb; replace HB := stB HB hb; clear hb ho9; have hcz10_0 : w8.cell? ⟨gb121, 0, none⟩ = some (.int .u64 a0_0) := (blk_cell BK121.out 0).trans rfl; have hcz10_1 : w8.cell? ⟨gb121, 1, none⟩ = some (.slice A0_1 l0_1.length c0_1) := (blk_cell BK121.out 1).trans rfl; have hfz10_0 := blk_frozen BK121.out 0; have hfz10_1 := blk_frozen BK121.out 1))
   go_loopg [13] k (fun kq v13 w' => ∃ (x3_1 : List (List Int)) (x13_1 : Int), v13 = .int .i64 x13_1 ∧ Aside0 (signed_clone.l0 kq x3_1 l0_1 (l0_1.length : Int) x13_1 a0_0 l0_1 = some (r1, r2)) ∧ Aside0 (kq ≤ k) ∧ Aside0 (Kd.S (Kd.slice 3 (Kd.int .i64)) 33 w' w.heap.size (fun _ => True) v124 x3_1) ∧ Aside0 (w'.heap[gb121]? = some (.cells #[.int .u64 a0_0, (.slice A0_1 l0_1.length c0_1)] 25 (0, 0))) ∧ Aside0 (w'.heap[gb122]? = some (.cells #[.int .u64 0, (.slice none 0 0)] 25 (0, 0))) ∧ Aside0 (Below w.heap.size w w'))
   case atStart => exact ⟨(y123), (0), (by first | rfl | (simp; done) | (simp [*]; done)), H', ⟨Nat.le_refl _⟩, ⟨pS HO125⟩, ⟨pB BK121⟩, ⟨pB BK122⟩, ⟨pH HB⟩⟩
   case round =>
    clear H'
    try clear c2
    try clear c2b0
    try clear c2b1
    try clear p2
    try clear c3
    try clear c3b0
    try clear c3b1
    try clear c6
    try clear hcz10_0
    try clear hcz10_1
    try clear hcz7_0
    try clear hcz7_1
    try clear hfz10_0
    try clear hfz10_1
    try clear hfz7_0
    try clear hfz7_1
    obtain ⟨x3_1, x13_1, rfl, HA, HK1, HO_3, BK121, BK122, HB⟩ := hrel
    cases gk with
    | zero => exact absurd HA.out (by simp [signed_clone.l0])
    | succ k1 =>
     have H := HA.out
     clear HA
     simp only [signed_clone.l0] at H
     by_cases c11 : x13_1 < (l0_1.length : Int)
     ·
      rw [if_pos c11] at H
      have c11b0 : decide (x13_1 < (l0_1.length : Int)) = true := decide_eq_true c11
      clear c11
      by_cases c12 : 0 ≤ x13_1
      ·
       rw [if_pos c12] at H
       have c12b0 : decide (0 ≤ x13_1) = true := decide_eq_true c12
       clear c12
       by_cases c13 : x13_1 < (l0_1.length : Int)
       ·
        rw [if_pos c13] at H
        have c13b0 : decide (x13_1 < (l0_1.length : Int)) = true := decide_eq_true c13
        clear c13
        replace H := Option.bind_eq_some_iff.mp H
        obtain ⟨t127, A140, H⟩ := H
        replace H : (if x13_1 < (x3_1.length : Int) then (signed_clone.l0 k1 (x3_1.set (x13_1 : Int).toNat t127) l0_1 (l0_1.length : Int) (wrap64 (x13_1 + 1)) a0_0 l0_1) else (none)) = some (r1, r2) := H
        have A14 := Aside0.mk A140
        clear A140
        by_cases c15 : x13_1 < (x3_1.length : Int)
        ·
         rw [if_pos c15] at H
         have c15b0 : decide (x13_1 < (x3_1.length : Int)) = true := decide_eq_true c15
         clear c15
         obtain ⟨y130, hy130⟩ : ∃ y_ : List (List Int), y_ = (x3_1.set (x13_1 : Int).toNat t127) := ⟨_, rfl⟩
         replace H : (signed_clone.l0 k1 y130 l0_1 (l0_1.length : Int) (wrap64 (x13_1 + 1)) a0_0 l0_1) = some (r1, r2) := by first | (rw [hy130]; with_reducible exact H) | (have H2_ := (Option.bind_some _ _).symm.trans H; rw [hy130]; with_reducible exact H2_) | (have H2_ := (Option.bind_some _ _).symm.trans H; with_reducible exact H2_) | with_reducible exact H | (rw [hy130]; exact H) | exact H
         have Ny130 := Aside0.mk hy130
         clear hy130
         have H' := Aside0.mk H
         clear H
         have p126 : 0 ≤ (x13_1 : Int) := of_decide_eq_true (by first | (with_reducible assumption) | assumption)
         have q126 : x13_1 < (l0_1.length : Int) := of_decide_eq_true (by first | (with_reducible assumption) | assumption)
         obtain ⟨ad126, A126_0, c126_0, e126, hx126_0, hl126_0, hi126_0⟩ := at_L1 HR0_1.out x13_1 p126 q126
         cases e126
         replace hx126_0 := (HB.out.cell (World.block_lt_of_cell? w _ hx126_0)).trans hx126_0
         have HR126_0 := Aside0.mk hi126_0
         have HC126_0 := Aside0.mk hl126_0
         clear hi126_0 hl126_0
         replace p126 := eq_true p126
         replace q126 := eq_true q126
         go_wp2_with (first | ((with_reducible refine gate_callee (f := 39) rfl ?_); refine goesM_ (some 21) Try.func39 #[.slice A126_0 (rd_L1 l0_1 x13_1).length c126_0] ?_; (with_reducible refine (slices_Clone_int_int.calls _ _ (rd_L1 l0_1 x13_1) t127 _ ?side1 ?side2 A14.out).mono ?_); (case side1 => repeat (first | exact (Kd.C_below HR126_0.out HB.out) | (with_reducible refine Kd.C_alloc ?_ _) | (with_reducible refine Kd.C_drewN ?_ _) | (with_reducible refine Kd.C_drew ?_))); (case side2 => exact HC126_0.out); rintro e w17 ⟨v128, rfl, ho0, hb⟩; refine ⟨_, rfl, ?_⟩; have HO129 := Aside0.mk (Kd.R_lower ho0 (below_size (pH HB))); replace HO_3 := Aside0.mk (Kd.S_elder' (pS HO_3) (Kd.R_base ho0) hb); replace BK121 := bB BK121 hb; replace BK122 := bB BK122 hb; replace HB := stB HB hb; (try clear hb); (try clear hb2); (try clear hk); (try clear hi); (try clear ho0); have p16 : 0 ≤ (x13_1 : Int) := of_decide_eq_true (by first | (with_reducible assumption) | assumption); have q16 : (x13_1 : Int) < ((x3_1.length : Int) : Int) := of_decide_eq_true (by first | (with_reducible assumption) | assumption); obtain ⟨go16, co16, eo16, gb16, gl16, cl16, HG16⟩ := Kd.S_form HO_3.out (by omega); (first | cases eo16 | (injection eo16 with ea_ en_ ec_; (first | subst ea_ | (injection ea_ with ea_; subst ea_)); subst ec_; clear en_)); have GB16 := Aside0.mk gb16; have GG16 := Aside0.mk HG16; clear gb16 gl16 HG16; obtain ⟨_, ce16, hcl16, hM16, hcc16, hfr16, _, _⟩ := Kd.S_elem HO_3.out [] (x13_1 : Int) p16 q16; obtain ⟨ve16_0, rfl, ge16_0⟩ := hM16; have hx16_0 := hcc16 0 _ rfl; have hf16_0 := hfr16 0; (try simp only [show ((Kd.slice 3 (Kd.int .i64))).sz = 1 from rfl, Nat.mul_one, Nat.add_zero] at hx16_0); (try simp only [show ((Kd.slice 3 (Kd.int .i64))).sz = 1 from rfl, Nat.mul_one, Nat.add_zero] at hf16_0); clear hcl16 hcc16 hfr16; (try clear hM16); replace p16 := eq_true p16; replace q16 := eq_true q16; obtain ⟨Ao18, co18, eo18⟩ := Kd.R_slice HO129.out; subst eo18; have n_ := Aside0.mk (Kd.S_mono (ok' := (fun k_ => some k_ ≠ (.slice Ao18 t127.length co18 : Value).ownBlock)) HO_3.out (fun k_ hk => hk.2)); clear HO_3; have HO_3 := n_; clear n_; have HX19 := Aside0.mk (show Kd.S (Kd.slice 3 (Kd.int .i64)) 33 w17 w.heap.size (fun k_ => ((fun _ => True)) k_ ∧ ¬ ((fun k_ => some k_ = (.slice Ao18 t127.length co18 : Value).ownBlock)) k_) (.slice (some ⟨go16, 0, none⟩) x3_1.length co16) x3_1 from (by (with_reducible repeat (first | apply Kd.S_alloc | apply Kd.S_drewN | apply Kd.S_drew)); exact Kd.S_mono HO_3.out (fun k_ hk => ⟨trivial, fun e_ => hk e_⟩))); obtain ⟨oki19, ce19, hcl19, hM19, hcc19, hfr19, hoki19, hH19⟩ := Kd.S_elem HX19.out [] (x13_1 : Int) (of_decide_eq_true (by first | (with_reducible assumption) | assumption)) (by have h_ : (x13_1 : Int) < ((x3_1.length : Int) : Int) := of_decide_eq_true (by first | (with_reducible assumption) | assumption); first | exact h_ | (have e_ := (Kd.S_reads' HO_3.out).1; omega) | simpa using h_); obtain ⟨ve19_0, rfl, ge19_0⟩ := hM19; have HP19 := Kd.S_seg hH19 (of_decide_eq_true (by first | (with_reducible assumption) | assumption)) (by have h_ : (x13_1 : Int) < ((x3_1.length : Int) : Int) := of_decide_eq_true (by first | (with_reducible assumption) | assumption); first | exact h_ | (have e_ := (Kd.S_reads' HO_3.out).1; omega) | simpa using h_) (seg := [.slice Ao18 t127.length co18]) (j := 0) (show 1 ≤ 1 from by decide) (x' := t127) (Kd.M_row (Kd.R_mono (Kd.R_tight rfl (Kd.R_mono (ok' := fun k_ => ((fun _ => True)) k_ ∧ k_ ≠ go16) (Kd.R_apart' (HO129.out) (Kd.S_typed HO_3.out) (by decide)) (fun k_ hk => ⟨trivial, fun e_ => (hk.2) (by rw [e_]; rfl)⟩))) (fun _ h_ => Or.inr (h_)))) (fun _ hk => hk) (fun k_ hk_ => ((Kd.R_mono (ok' := fun k_ => ((fun _ => True)) k_ ∧ k_ ≠ go16) (Kd.R_apart' (HO129.out) (Kd.S_typed HO_3.out) (by decide)) (fun k_ hk => ⟨trivial, fun e_ => (hk.2) (by rw [e_]; rfl)⟩))).1 k_ hk_.symm); have hx19_0 := hcc19 0 _ rfl; (try simp only [show ((Kd.slice 3 (Kd.int .i64))).sz = 1 from rfl, Nat.mul_one, Nat.add_zero] at hx19_0); have hf19_0 := hfr19 0; (try simp only [show ((Kd.slice 3 (Kd.int .i64))).sz = 1 from rfl, Nat.mul_one, Nat.add_zero] at hf19_0); clear hcl19 hcc19 hfr19; (try clear hM19); clear hoki19 hH19; (try simp only [show ((Kd.slice 3 (Kd.int .i64))).sz = 1 from rfl, Nat.mul_one, Nat.add_zero] at HP19)) | ((with_reducible refine gate_store (t := 33) (p := 22) rfl ?_); refine store_event (t := 33) (p := 22) (v := ?vo_w20) (w1 := (w17.setCell ⟨go16, (x13_1 : Int).toNat, none⟩ (.slice Ao18 t127.length co18))) ?hg ?ho ?hn ?hr ?_; (case ho => rfl); (case hg => rfl); (case hn => rfl); (case hr => first | (go_simp; done) | (go_simp; rfl)); intro w20 hw; have hg : w17.grownBy w20 (some go16) := (by rw [hw]; exact HP19.2); have hp_ : Kd.S (Kd.slice 3 (Kd.int .i64)) 33 w20 w.heap.size (fun _ => True) (.slice (some ⟨go16, 0, none⟩) x3_1.length co16) y130 := (by rw [hw, Ny130.out]; exact HP19.1); clear HP19; replace BK121 := Aside0.mk (blk_grown (g := gb121) (o := .cells #[.int .u64 a0_0, .slice (some ad126) l0_1.length c0_1] 25 (0, 0)) (pB BK121) hg (Kd.S_ne HO_3.out BK121.out (by decide))); replace BK122 := Aside0.mk (blk_grown (g := gb122) (o := .cells #[.int .u64 0, .slice none 0 0] 25 (0, 0)) (pB BK122) hg (Kd.S_ne HO_3.out BK122.out (by decide))); replace HO_3 := Aside0.mk (hp_); replace HB := Aside0.mk ((by rw [hw]; exact below_set (HB.out) GB16.out : Below w.heap.size w w20)); clear HO129; clear hg hw hp_))
         go_roundg k1
         case measure => have := HK1.out; omega
         case rel => exact ⟨(y130), (wrap64 (x13_1 + 1)), (by first | rfl | (simp; done) | (simp [*]; done)), H', ⟨by have := HK1.out; omega⟩, ⟨pS HO_3⟩, ⟨pB BK121⟩, ⟨pB BK122⟩, ⟨pH HB⟩⟩
        ·
         rw [if_neg c15] at H
         exact absurd H (by simp)
       ·
        rw [if_neg c13] at H
        exact absurd H (by simp)
      ·
       rw [if_neg c12] at H
       exact absurd H (by simp)
     ·
      rw [if_neg c11] at H
      have c11b0 : decide (x13_1 < (l0_1.length : Int)) = false := decide_eq_false c11
      clear c11
      simp only [Option.some.injEq, Prod.mk.injEq] at H
      obtain ⟨rfl, rfl⟩ := H
      obtain ⟨Ao21, co21, eo21⟩ := Kd.S_slice HO_3.out
      subst eo21
      have hnb22 := NB121_122.out
      have hnc22 := NB122_121.out
      have hcz23_0 : wr.cell? ⟨gb121, 0, none⟩ = some (.int .u64 a0_0) := (blk_cell BK121.out 0).trans rfl
      have hcz23_1 : wr.cell? ⟨gb121, 1, none⟩ = some (.slice A0_1 l0_1.length c0_1) := (blk_cell BK121.out 1).trans rfl
      have hfz23_0 := blk_frozen BK121.out 0
      have hfz23_1 := blk_frozen BK121.out 1
      have hcz24_0 : wr.cell? ⟨gb122, 0, none⟩ = some (.int .u64 0) := (blk_cell BK122.out 0).trans rfl
      have hcz24_1 : wr.cell? ⟨gb122, 1, none⟩ = some (.slice none 0 0) := (blk_cell BK122.out 1).trans rfl
      have hfz24_0 := blk_frozen BK122.out 0
      have hfz24_1 := blk_frozen BK122.out 1
      go_wp2
      refine bodyPost_ret (results_cell_row rfl _ _ gb122 25 #[.int .u64 a0_0, .slice Ao21 x3_1.length co21] (0, 0) _ rfl (by (with_reducible repeat (first | refine blk_drewN ?_ _ | refine blk_drew ?_ | refine blk_alloc ?_ _)); refine blk_put (cs := #[.int .u64 a0_0, .slice none 0 0]) ?_ 1 _ rfl; (with_reducible repeat (first | refine blk_drewN ?_ _ | refine blk_drew ?_ | refine blk_alloc ?_ _)); refine blk_put (cs := #[.int .u64 0, .slice none 0 0]) ?_ 0 _ rfl; (with_reducible repeat (first | refine blk_drewN ?_ _ | refine blk_drew ?_ | refine blk_alloc ?_ _)); refine blk_far ?_ NB122_121.out _; (with_reducible repeat (first | refine blk_drewN ?_ _ | refine blk_drew ?_ | refine blk_alloc ?_ _)); exact BK122.out) Try.underlying25 rfl (by kernel_rfl)) rfl ?_
      exact ⟨_, by first | rfl | (simp [errW_none, errW_some] <;> rfl) | (simp [*, errW_none, errW_some] <;> rfl), by (with_reducible repeat (first | apply Kd.S_alloc | apply Kd.S_drewN | apply Kd.S_drew)); exact Kd.S_mono (ok' := fun k_ => True) (Kd.S_far (p := ⟨gb122, 1, none⟩) (Kd.S_far (p := ⟨gb122, 0, none⟩) (Kd.S_far (p := ⟨gb121, 1, none⟩) (Kd.S_types (Kd.S_types HO_3.out BK121.out (by decide)) BK122.out (by decide)) (fun _ hk => hk.1.2) (.slice Ao21 x3_1.length co21)) (fun _ hk => hk.2) (.int .u64 a0_0)) (fun _ hk => hk.2) (.slice Ao21 x3_1.length co21)) (fun _ hk => trivial), by repeat (first | (with_reducible first | exact HB.out | apply below_alloc | apply pw_below_drewN | apply below_drew1 | refine below_set ?_ GE121.out | refine below_set ?_ GE122.out) | exact HB.out)⟩
  ·
   rw [if_neg c3] at H
   exact absurd H (by simp)
 ·
  rw [if_neg c2] at H
  exact absurd H (by simp)

end Go.Proofs.Yteaeigpeaneicaa.G
end

section
/- What signed.place and signed.clone come to, as printed. -/
namespace Go.Proofs.Yteaeigpeaneicaa.G
open Go Go.RowKit Go.Proofs.YteaeigpeaneicaaW.PrintWords Go.Proofs.YteaeigpeaneicaaPlain
/-- The cell of a key in row i of so many cells, and its sign there. -/
def scell (seed : Int) (key : ByteArray) (i n : Int) : Int := hcell (hrow seed (2 * i)) key n
def ssign (seed : Int) (key : ByteArray) (i : Int) : Int := hsign (hrow seed (2 * i + 1)) key
theorem signed_place_ev (seed : Int) (rows : List (List Int)) (key : ByteArray) (i : Int) (h0 : 0 ≤ seed) (h1 : seed < 18446744073709551616) (hs : key.size ≤ 140737488351232) (hi0 : 0 ≤ i) (hi : i < rows.length) (hl : rows.length ≤ 1000000) (hr : (rd_L1 rows i).length ≤ 17592186044416) :
    Ev (fun k => signed_place.f k seed rows key i) (scell seed key i ((rd_L1 rows i).length : Int), ssign seed key i) := by
  have r1 := hrow_range seed (2 * i)
  have r2 := hrow_range seed (2 * i + 1)
  refine Ev.congr (f := fun k => (hash_Cell.f k (hrow seed (2 * i)) key ((rd_L1 rows i).length : Int)).bind fun t158 => ((hash_Sign.f k (hrow seed (2 * i + 1)) key).bind fun t160 => (some (t158, t160)))) (fun k => ?_) ?_
  · unfold signed_place.f
    rw [w64_id (x := 2 * i) (by omega) (by omega), w64_id (x := 2 * i + 1) (by omega) (by omega), hash_Row_f seed (2 * i) h0 h1 (by omega), hash_Row_f seed (2 * i + 1) h0 h1 (by omega)]
    simp only [Option.bind_some]
    rw [if_pos hi0, if_pos hi]
  · refine Ev.bind (f := fun k t158 => ((hash_Sign.f k (hrow seed (2 * i + 1)) key).bind fun t160 => (some (t158, t160)))) (hash_Cell_ev _ key _ r1.1 (by omega) hs (by omega)) ?_
    refine Ev.bind (f := fun _ t160 => some (hcell (hrow seed (2 * i)) key ((rd_L1 rows i).length : Int), t160)) (hash_Sign_ev _ key r2.1 (by omega) hs) ?_
    exact Ev.now _
theorem signed_clone_l0 (seed : Int) (rows : List (List Int)) (hl : rows.length ≤ 1000000) (hr : ∀ r ∈ rows, r.length < 17592186044416) (d : Nat) : ∀ (i : Nat), i + d = rows.length →
    Ev (fun k => signed_clone.l0 k (rows.take i ++ List.replicate d []) rows (rows.length : Int) (i : Int) seed rows) (seed, rows) := by
  induction d with
  | zero =>
    intro i hi
    refine Ev.step (f := fun _ => some (seed, rows)) (fun k => ?_) (Ev.now _)
    simp only [signed_clone.l0]
    rw [if_neg (by omega), List.replicate_zero, List.append_nil, List.take_of_length_le (by omega)]
  | succ d ih =>
    intro i hi
    have hil : i < rows.length := by omega
    have hrd : rd_L1 rows (i : Int) = rows[i] := by simp [rd_L1, hil]
    have hc : slices_Clone_int_int.f (rd_L1 rows (i : Int)) = some rows[i] := by
      unfold slices_Clone_int_int.f
      rw [hrd, if_pos (hr _ (List.getElem_mem hil))]
    refine Ev.step (fun k => ?_) (ih (i + 1) (by omega))
    simp only [signed_clone.l0]
    have hlen : ((rows.take i ++ List.replicate (d + 1) ([] : List Int)).length : Int) = rows.length := by simp; omega
    rw [if_pos (by omega), if_pos (by omega), if_pos (by omega), hc]
    simp only [Option.bind_some]
    rw [if_pos (by omega), w64_id (by omega) (by omega)]
    congr 1
    rw [show ((i : Int)).toNat = i from by omega, List.set_append_right _ _ (by simp; omega)]
    rw [show i - (rows.take i).length = 0 from by simp; omega, List.replicate_succ, List.set_cons_zero, List.take_succ_eq_append_getElem hil, List.append_assoc]
    rfl
theorem signed_clone_ev (seed : Int) (rows : List (List Int)) (hl : rows.length ≤ 1000000) (hr : ∀ r ∈ rows, r.length < 17592186044416) : Ev (fun k => signed_clone.f k seed rows) (seed, rows) := by
  refine Ev.congr (fun k => ?_) (signed_clone_l0 seed rows hl hr rows.length 0 (by omega))
  unfold signed_clone.f
  rw [if_pos (by omega), if_pos (by omega)]
  rfl
end Go.Proofs.Yteaeigpeaneicaa.G
end

section
/- Plain lemmas on lists and numbers. -/
namespace Go.Proofs.YteaeigpeaneicaaPlain
/-- The place of the first element at which p holds, or -1. -/
def idxF {α : Type} (p : α → Bool) (l : List α) : Int := if l.any p then (l.findIdx p : Int) else -1
theorem idxF_at {α : Type} (p : α → Bool) (l : List α) (k : Nat) (h : k < l.length) (hp : p l[k] = true) (hn : ∀ j, j < k → ∀ x, l[j]? = some x → p x = false) : idxF p l = (k : Int) := by
  have ha : l.any p = true := List.any_eq_true.2 ⟨l[k], List.getElem_mem h, hp⟩
  unfold idxF
  rw [if_pos ha]
  congr 1
  rw [List.findIdx_eq h]
  exact ⟨hp, fun j hj => hn j hj _ (List.getElem?_eq_getElem (by omega))⟩
theorem idxF_none {α : Type} (p : α → Bool) (l : List α) (hn : ∀ j, j < l.length → ∀ x, l[j]? = some x → p x = false) : idxF p l = -1 := by
  have ha : ¬ l.any p = true := by
    rw [List.any_eq_true]
    rintro ⟨x, hx, hp⟩
    obtain ⟨j, hj, e⟩ := List.getElem_of_mem hx
    have := hn j hj x (by rw [List.getElem?_eq_getElem hj, e])
    rw [this] at hp
    cases hp
  unfold idxF
  rw [if_neg ha]
theorem idxF_ge {α : Type} (p : α → Bool) (l : List α) : decide (idxF p l ≥ 0) = l.any p := by
  unfold idxF
  split
  · rename_i h; rw [h]; simp
  · rename_i h; simp at h ⊢; simpa using h
end Go.Proofs.YteaeigpeaneicaaPlain
end

section
/- A store into a row inside a row of the call's own. -/
namespace Go.Proofs.YteaeigpeaneicaaInner
open Go Go.RowKit Go.Proofs.YteaeigpeaneicaaW.PrintWords
theorem S_put {β : Type} {enc : β → Value} {h1 : ∀ x, (enc x).oneCell' = true} {t e base n cap : Nat} {ok : Nat → Prop} {W : World} {ad : Addr} {xs : List (List β)} (z : β)
    (h : Kd.S (Kd.slice t (Kd.scalar enc h1)) e W base ok (.slice (some ad) n cap) xs) (i j : Int) (h0 : 0 ≤ i) (hi : i < n) (hj0 : 0 ≤ j) (hj : j < ((xs.getD i.toNat []).length : Int)) :
    ∃ g2 cap2 cells, W.cell? (ad.add i.toNat) = some (.slice (some ⟨g2, 0, none⟩) (xs.getD i.toNat []).length cap2) ∧ base ≤ g2 ∧ g2 < W.heap.size ∧ W.heap[g2]? = some (.cells cells t (0, 0)) ∧
      W.cell? ⟨g2, j.toNat, none⟩ = some (enc (rdOf z (xs.getD i.toNat []) j)) ∧ W.frozen? ⟨g2, j.toNat, none⟩ = false ∧
      ∀ x, Kd.S (Kd.slice t (Kd.scalar enc h1)) e (W.setCell ⟨g2, j.toNat, none⟩ (enc x)) base ok (.slice (some ad) n cap) (xs.set i.toNat ((xs.getD i.toNat []).set j.toNat x)) := by
  obtain ⟨oki, c, hcl, hM, hcell, hoki, hback⟩ := Kd.S_borrow h [] i h0 hi
  obtain ⟨v, rfl, hR⟩ := hM
  have hpos : 0 < (xs.getD i.toNat []).length := by omega
  obtain ⟨g2, cap2, rfl, hb, hlt, cells, hbk⟩ := Kd.R_form hR hpos
  obtain ⟨hc1, hf1⟩ := Kd.R_celln z hR j hj0 (by omega)
  refine ⟨g2, cap2, cells, ?_, hb, hlt, hbk, hc1, hf1, fun x => ?_⟩
  · have h2 := hcell 0 _ rfl
    rw [show i.toNat * (Kd.slice t (Kd.scalar enc h1)).sz + 0 = i.toNat from by show i.toNat * 1 + 0 = _; omega] at h2
    exact h2
  · obtain ⟨hR2, hg2⟩ := Kd.R_putg hR j x
    exact hback hg2 (fun k hk => by cases hk; exact hR.1 g2 (by simp [Value.ownBlock])) ⟨_, rfl, by
      have hl : ((xs.getD i.toNat []).set j.toNat x).length = (xs.getD i.toNat []).length := List.length_set
      rw [← hl] at hR2 ⊢
      exact hR2⟩
theorem blk_set_other {W : World} {g g2 t t2 : Nat} {cs cells : Array Value} (h : W.heap[g]? = some (.cells cs t (0, 0))) (h2 : W.heap[g2]? = some (.cells cells t2 (0, 0))) (ht : t ≠ t2) (j : Nat) (u : Value) : (W.setCell ⟨g2, j, none⟩ u).heap[g]? = some (.cells cs t (0, 0)) := by
  have hne : g ≠ g2 := by
    rintro rfl
    rw [h] at h2
    injection h2 with h2
    injection h2 with _ h2
    exact ht h2
  rw [Below.heap_setCell W ⟨g2, j, none⟩ u g hne]
  exact h
theorem box2 {W : World} {g t : Nat} {a b : Value} (h : W.heap[g]? = some (.cells #[a, b] t (0, 0))) : W.cell? ⟨g, 0, none⟩ = some a ∧ W.cell? ⟨g, 1, none⟩ = some b ∧ W.frozen? ⟨g, 0, none⟩ = false ∧ W.frozen? ⟨g, 1, none⟩ = false :=
  ⟨by rw [blk_cell h]; rfl, by rw [blk_cell h]; rfl, blk_frozen h 0, blk_frozen h 1⟩
/-- A struct of two cells is stored whole. -/
theorem box2_put {W : World} {g t : Nat} {a b : Value} (h : W.heap[g]? = some (.cells #[a, b] t (0, 0))) (c d : Value) : ((W.setCell ⟨g, 0, none⟩ c).setCell ⟨g, 1, none⟩ d).heap[g]? = some (.cells #[c, d] t (0, 0)) :=
  blk_put (cs := #[c, b]) (blk_put (cs := #[a, b]) h 0 c rfl) 1 d rfl
theorem box2_other {W : World} {g g' : Nat} {o : Option Obj} (h : W.heap[g']? = o) (hne : g' ≠ g) (c d : Value) : ((W.setCell ⟨g, 0, none⟩ c).setCell ⟨g, 1, none⟩ d).heap[g']? = o := by
  rw [Below.heap_setCell _ ⟨g, 1, none⟩ d g' hne, Below.heap_setCell _ ⟨g, 0, none⟩ c g' hne]; exact h
theorem below_put2 {W w : World} {g : Nat} (h : Below w.heap.size w W) (hg : w.heap.size ≤ g) (c d : Value) : Below w.heap.size w ((W.setCell ⟨g, 0, none⟩ c).setCell ⟨g, 1, none⟩ d) :=
  below_set (below_set h hg) hg
end Go.Proofs.YteaeigpeaneicaaInner
end

section
-- Printed by gprint.py: a program of this session over the kit's print. Not trusted: Lean checks it.
namespace Go.Proofs.Yteaeigpeaneicaa.G
open Go.RowKit Go.Proofs.YteaeigpeaneicaaW.PrintWords Go.Proofs.YteaeigpeaneicaaW.PrintLast Go.Proofs.YteaeigpeaneicaaW.PrintMore
attribute [local go_sem] max2_int min2_int max_two min_two max_three min_three max_four min_four   -- for this text's walks alone
set_option linter.unusedVariables false
set_option linter.unusedSimpArgs false

/-! ### signed_fits: function 28 -/
def signed_fits.f (a0 : Int) : Option (Bool) := if a0 ≥ (-1099511627776) then (some (decide (a0 ≤ 1099511627776))) else (some false)
set_option maxHeartbeats 8000000 in
set_option maxRecDepth 100000 in
theorem signed_fits.calls (a0 : Int) (r : Bool) (w : World) (h : signed_fits.f a0 = some r) :
    Calls Try.prog 28 #[.int .i64 a0] w fun e w' => e = .returned (.bool r) ∧ Drawn0 w w' := by
  have H : (if a0 ≥ (-1099511627776) then (some (decide (a0 ≤ 1099511627776))) else (some false)) = some r := h
  clear h
  by_cases c2 : a0 ≥ (-1099511627776)
  · rw [if_pos c2] at H
    have c2b0 : decide ((-1099511627776) ≤ a0) = true := decide_eq_true c2
    clear c2
    obtain rfl := Option.some.inj H
    go_enter Try.func28, Try.ntmps28
    go_wp2
    go_ret
    exact ⟨by first | rfl | (simp; done) | (simp [*]; done), by repeat (first | exact Drawn0.refl _ | apply Drawn0.step)⟩
  · rw [if_neg c2] at H
    have c2b0 : decide ((-1099511627776) ≤ a0) = false := decide_eq_false c2
    clear c2
    obtain rfl := Option.some.inj H
    go_enter Try.func28, Try.ntmps28
    go_wp2
    go_ret
    exact ⟨by first | rfl | (simp; done) | (simp [*]; done), by repeat (first | exact Drawn0.refl _ | apply Drawn0.step)⟩

end Go.Proofs.Yteaeigpeaneicaa.G
end

section
-- Printed by gprint.py: a program of this session over the kit's print. Not trusted: Lean checks it.
namespace Go.Proofs.Yteaeigpeaneicaa.G
open Go.RowKit Go.Proofs.YteaeigpeaneicaaW.PrintWords Go.Proofs.YteaeigpeaneicaaW.PrintLast Go.Proofs.YteaeigpeaneicaaW.PrintMore
attribute [local go_sem] max2_int min2_int max_two min_two max_three min_three max_four min_four   -- for this text's walks alone
set_option linter.unusedVariables false
set_option linter.unusedSimpArgs false

/-! ### slices_IndexFunc_int_int_45: function 45 -/
-- GIVEN IndexFuncOne.lean
open Go.Proofs.YteaeigpeaneicaaPlain
set_option maxHeartbeats 2000000 in
theorem slices_IndexFunc_int_int_45.calls (A0 : Option Addr) (c0 : Nat) (l0 : List (List Int)) (g : Nat) (cb : Array Value) (p : List Int → Bool) (w : World) (eg : ∀ args w, (callFunc g args).run Try.prog w = .ok (.enter g args) w) (hr0 : Kd.C (Kd.slice 3 (Kd.int .i64)) w A0 l0.length l0)
    (hp : ∀ (W : World) (x : List Int) (v : Value), x ∈ l0 → Below w.heap.size w W → Kd.K (Kd.slice 3 (Kd.int .i64)) W x [v] → Calls Try.prog g (#[v] ++ cb) W fun e w' => e = .returned (.bool (p x)) ∧ Below W.heap.size W w') :
    Calls Try.prog 45 #[.slice A0 l0.length c0, .func (.func g) #[] cb] w fun e w' => e = .returned (.int .i64 (idxF p l0)) ∧ Below w.heap.size w w' := by
  have hbig : l0.length ≤ 9223372036854775807 := hr0.2.1
  have HP := Aside0.mk hp
  have HR0 := Aside0.mk hr0
  clear hp hr0
  obtain ⟨n, hn⟩ : ∃ n, l0.length = n := ⟨_, rfl⟩
  have HR : Aside0 (Kd.C (Kd.slice 3 (Kd.int .i64)) w A0 n l0) := ⟨hn ▸ HR0.out⟩
  clear HR0
  rw [hn] at hbig ⊢
  have HN := Aside0.mk hn
  clear hn
  go_enter Try.func45, Try.ntmps45
  go_wp2
  go_loopg [5, 8] n (fun gg _ s8 wr => ∃ kk : Nat, kk ≤ n ∧ n - kk ≤ gg ∧ s8 = .int .i64 kk ∧ Aside0 (Below w.heap.size w wr) ∧ Aside0 (∀ j, j < kk → ∀ x, l0[j]? = some x → p x = false))
  case atStart => exact ⟨0, Nat.zero_le _, by omega, rfl, ⟨Below.refl _ _⟩, ⟨fun j hj => absurd hj (Nat.not_lt_zero _)⟩⟩
  case round =>
    obtain ⟨kk, hkk, hg, rfl, HB, HA⟩ := hrel
    by_cases hlt : kk < n
    · have hltz : (kk : Int) < (n : Int) := by omega
      have hl : kk < l0.length := by rw [HN.out]; exact hlt
      obtain ⟨ad, he, hcell0⟩ := HR.out.2.2 (by omega)
      obtain ⟨cs, hcs, hK, hcell⟩ := hcell0 kk l0[kk] (List.getElem?_eq_getElem hl)
      obtain ⟨v, rfl⟩ : ∃ v, cs = [v] := by
        match cs, hcs with
        | [v], _ => exact ⟨v, rfl⟩
      have hv : wr.cell? (ad.add kk) = some v := by
        have h1 := hcell 0 v rfl
        have h2 : w.cell? (ad.add kk) = some v := by simpa [show (Kd.sz (Kd.slice 3 (Kd.int .i64))) = 1 from rfl] using h1
        exact cell_later HB.out h2
      have hcall := HP.out wr l0[kk] v (List.getElem_mem hl) HB.out (Kd.K_below _ HB.out hK)
      clear hcell0 hcell hcs hK
      have HLX := Aside0.mk hl
      subst he
      have Hx := Aside0.mk (List.getElem?_eq_getElem hl)
      cases hq : p l0[kk] with
      | true =>
        rw [hq] at hcall
        have HQ := Aside0.mk hq
        clear hq
        go_wp2_with fail
        with_reducible refine hcall.mono ?_
        rintro e w1 ⟨rfl, hb⟩
        have HB1 := Aside0.mk (below_step HB.out hb)
        clear hb hcall
        go_wp2_with fail
        go_ret
        exact ⟨by rw [idxF_at p l0 kk hl HQ.out HA.out]; rfl, HB1.out⟩
      | false =>
        rw [hq] at hcall
        have HQ := Aside0.mk hq
        clear hq
        go_wp2_with fail
        with_reducible refine hcall.mono ?_
        rintro e w1 ⟨rfl, hb⟩
        have HB1 := Aside0.mk (below_step HB.out hb)
        clear hb hcall
        go_wp2_with fail
        go_roundg (n - (kk + 1))
        case measure => omega
        case rel =>
          refine ⟨kk + 1, by omega, by omega, by go_num, HB1, ⟨fun j hj x hx => ?_⟩⟩
          by_cases e : j = kk
          · subst e
            rw [Hx.out] at hx
            cases hx
            exact HQ.out
          · exact HA.out j (by omega) x hx
    · have hltz : ¬ (kk : Int) < (n : Int) := by omega
      obtain rfl : kk = n := by omega
      go_wp2
      go_ret
      exact ⟨by rw [idxF_none p l0 (fun j hj => HA.out j (by have := HN.out; omega))]; rfl, HB.out⟩

end Go.Proofs.Yteaeigpeaneicaa.G
end

section
-- Printed by gprint.py: a program of this session over the kit's print. Not trusted: Lean checks it.
namespace Go.Proofs.Yteaeigpeaneicaa.G
open Go.RowKit Go.Proofs.YteaeigpeaneicaaW.PrintWords Go.Proofs.YteaeigpeaneicaaW.PrintLast Go.Proofs.YteaeigpeaneicaaW.PrintMore
attribute [local go_sem] max2_int min2_int max_two min_two max_three min_three max_four min_four   -- for this text's walks alone
set_option linter.unusedVariables false
set_option linter.unusedSimpArgs false

/-! ### slices_ContainsFunc_int_int_32: function 32 -/
-- GIVEN ContainsFuncOne.lean
open Go.Proofs.YteaeigpeaneicaaPlain
set_option maxHeartbeats 1000000 in
theorem slices_ContainsFunc_int_int_32.calls (A0 : Option Addr) (c0 : Nat) (l0 : List (List Int)) (g : Nat) (cb : Array Value) (p : List Int → Bool) (w : World) (eg : ∀ args w, (callFunc g args).run Try.prog w = .ok (.enter g args) w) (hr0 : Kd.C (Kd.slice 3 (Kd.int .i64)) w A0 l0.length l0)
    (hp : ∀ (W : World) (x : List Int) (v : Value), x ∈ l0 → Below w.heap.size w W → Kd.K (Kd.slice 3 (Kd.int .i64)) W x [v] → Calls Try.prog g (#[v] ++ cb) W fun e w' => e = .returned (.bool (p x)) ∧ Below W.heap.size W w') :
    Calls Try.prog 32 #[.slice A0 l0.length c0, .func (.func g) #[] cb] w fun e w' => e = .returned (.bool (l0.any p)) ∧ Below w.heap.size w w' := by
  have hc := slices_IndexFunc_int_int_45.calls A0 c0 l0 g cb p w eg hr0 hp
  have HG := Aside0.mk (idxF_ge p l0)
  clear hr0 hp eg
  generalize hi : idxF p l0 = i at hc HG
  have HI := Aside0.mk hi
  clear hi
  go_enter Try.func32, Try.ntmps32
  go_wp2_with fail
  with_reducible refine hc.mono ?_
  rintro e w1 ⟨rfl, hb⟩
  have HB1 := Aside0.mk hb
  clear hb hc
  go_wp2_with fail
  go_ret
  exact ⟨by rw [← HG.out]; rfl, HB1.out⟩

end Go.Proofs.Yteaeigpeaneicaa.G
end

section
-- Printed by gprint.py: a program of this session over the kit's print. Not trusted: Lean checks it.
namespace Go.Proofs.Yteaeigpeaneicaa.G
open Go.RowKit Go.Proofs.YteaeigpeaneicaaW.PrintWords Go.Proofs.YteaeigpeaneicaaW.PrintLast Go.Proofs.YteaeigpeaneicaaW.PrintMore
attribute [local go_sem] max2_int min2_int max_two min_two max_three min_three max_four min_four   -- for this text's walks alone
set_option linter.unusedVariables false
set_option linter.unusedSimpArgs false

/-! ### slices_IndexFunc_int_int_46: function 46 -/
-- GIVEN IndexFuncOne.lean
open Go.Proofs.YteaeigpeaneicaaPlain
set_option maxHeartbeats 2000000 in
theorem slices_IndexFunc_int_int_46.calls (A0 : Option Addr) (c0 : Nat) (l0 : List Int) (g : Nat) (cb : Array Value) (p : Int → Bool) (w : World) (eg : ∀ args w, (callFunc g args).run Try.prog w = .ok (.enter g args) w) (hr0 : Kd.C (Kd.int .i64) w A0 l0.length l0)
    (hp : ∀ (W : World) (x : Int) (v : Value), x ∈ l0 → Below w.heap.size w W → Kd.K (Kd.int .i64) W x [v] → Calls Try.prog g (#[v] ++ cb) W fun e w' => e = .returned (.bool (p x)) ∧ Below W.heap.size W w') :
    Calls Try.prog 46 #[.slice A0 l0.length c0, .func (.func g) #[] cb] w fun e w' => e = .returned (.int .i64 (idxF p l0)) ∧ Below w.heap.size w w' := by
  have hbig : l0.length ≤ 9223372036854775807 := hr0.2.1
  have HP := Aside0.mk hp
  have HR0 := Aside0.mk hr0
  clear hp hr0
  obtain ⟨n, hn⟩ : ∃ n, l0.length = n := ⟨_, rfl⟩
  have HR : Aside0 (Kd.C (Kd.int .i64) w A0 n l0) := ⟨hn ▸ HR0.out⟩
  clear HR0
  rw [hn] at hbig ⊢
  have HN := Aside0.mk hn
  clear hn
  go_enter Try.func46, Try.ntmps46
  go_wp2
  go_loopg [5, 8] n (fun gg _ s8 wr => ∃ kk : Nat, kk ≤ n ∧ n - kk ≤ gg ∧ s8 = .int .i64 kk ∧ Aside0 (Below w.heap.size w wr) ∧ Aside0 (∀ j, j < kk → ∀ x, l0[j]? = some x → p x = false))
  case atStart => exact ⟨0, Nat.zero_le _, by omega, rfl, ⟨Below.refl _ _⟩, ⟨fun j hj => absurd hj (Nat.not_lt_zero _)⟩⟩
  case round =>
    obtain ⟨kk, hkk, hg, rfl, HB, HA⟩ := hrel
    by_cases hlt : kk < n
    · have hltz : (kk : Int) < (n : Int) := by omega
      have hl : kk < l0.length := by rw [HN.out]; exact hlt
      obtain ⟨ad, he, hcell0⟩ := HR.out.2.2 (by omega)
      obtain ⟨cs, hcs, hK, hcell⟩ := hcell0 kk l0[kk] (List.getElem?_eq_getElem hl)
      obtain ⟨v, rfl⟩ : ∃ v, cs = [v] := by
        match cs, hcs with
        | [v], _ => exact ⟨v, rfl⟩
      have hv : wr.cell? (ad.add kk) = some v := by
        have h1 := hcell 0 v rfl
        have h2 : w.cell? (ad.add kk) = some v := by simpa [show (Kd.sz (Kd.int .i64)) = 1 from rfl] using h1
        exact cell_later HB.out h2
      have hcall := HP.out wr l0[kk] v (List.getElem_mem hl) HB.out (Kd.K_below _ HB.out hK)
      clear hcell0 hcell hcs hK
      have HLX := Aside0.mk hl
      subst he
      have Hx := Aside0.mk (List.getElem?_eq_getElem hl)
      cases hq : p l0[kk] with
      | true =>
        rw [hq] at hcall
        have HQ := Aside0.mk hq
        clear hq
        go_wp2_with fail
        with_reducible refine hcall.mono ?_
        rintro e w1 ⟨rfl, hb⟩
        have HB1 := Aside0.mk (below_step HB.out hb)
        clear hb hcall
        go_wp2_with fail
        go_ret
        exact ⟨by rw [idxF_at p l0 kk hl HQ.out HA.out]; rfl, HB1.out⟩
      | false =>
        rw [hq] at hcall
        have HQ := Aside0.mk hq
        clear hq
        go_wp2_with fail
        with_reducible refine hcall.mono ?_
        rintro e w1 ⟨rfl, hb⟩
        have HB1 := Aside0.mk (below_step HB.out hb)
        clear hb hcall
        go_wp2_with fail
        go_roundg (n - (kk + 1))
        case measure => omega
        case rel =>
          refine ⟨kk + 1, by omega, by omega, by go_num, HB1, ⟨fun j hj x hx => ?_⟩⟩
          by_cases e : j = kk
          · subst e
            rw [Hx.out] at hx
            cases hx
            exact HQ.out
          · exact HA.out j (by omega) x hx
    · have hltz : ¬ (kk : Int) < (n : Int) := by omega
      obtain rfl : kk = n := by omega
      go_wp2
      go_ret
      exact ⟨by rw [idxF_none p l0 (fun j hj => HA.out j (by have := HN.out; omega))]; rfl, HB.out⟩

end Go.Proofs.Yteaeigpeaneicaa.G
end

section
-- Printed by gprint.py: a program of this session over the kit's print. Not trusted: Lean checks it.
namespace Go.Proofs.Yteaeigpeaneicaa.G
open Go.RowKit Go.Proofs.YteaeigpeaneicaaW.PrintWords Go.Proofs.YteaeigpeaneicaaW.PrintLast Go.Proofs.YteaeigpeaneicaaW.PrintMore
attribute [local go_sem] max2_int min2_int max_two min_two max_three min_three max_four min_four   -- for this text's walks alone
set_option linter.unusedVariables false
set_option linter.unusedSimpArgs false

/-! ### slices_ContainsFunc_int_int_34: function 34 -/
-- GIVEN ContainsFuncOne.lean
open Go.Proofs.YteaeigpeaneicaaPlain
set_option maxHeartbeats 1000000 in
theorem slices_ContainsFunc_int_int_34.calls (A0 : Option Addr) (c0 : Nat) (l0 : List Int) (g : Nat) (cb : Array Value) (p : Int → Bool) (w : World) (eg : ∀ args w, (callFunc g args).run Try.prog w = .ok (.enter g args) w) (hr0 : Kd.C (Kd.int .i64) w A0 l0.length l0)
    (hp : ∀ (W : World) (x : Int) (v : Value), x ∈ l0 → Below w.heap.size w W → Kd.K (Kd.int .i64) W x [v] → Calls Try.prog g (#[v] ++ cb) W fun e w' => e = .returned (.bool (p x)) ∧ Below W.heap.size W w') :
    Calls Try.prog 34 #[.slice A0 l0.length c0, .func (.func g) #[] cb] w fun e w' => e = .returned (.bool (l0.any p)) ∧ Below w.heap.size w w' := by
  have hc := slices_IndexFunc_int_int_46.calls A0 c0 l0 g cb p w eg hr0 hp
  have HG := Aside0.mk (idxF_ge p l0)
  clear hr0 hp eg
  generalize hi : idxF p l0 = i at hc HG
  have HI := Aside0.mk hi
  clear hi
  go_enter Try.func34, Try.ntmps34
  go_wp2_with fail
  with_reducible refine hc.mono ?_
  rintro e w1 ⟨rfl, hb⟩
  have HB1 := Aside0.mk hb
  clear hb hc
  go_wp2_with fail
  go_ret
  exact ⟨by rw [← HG.out]; rfl, HB1.out⟩

end Go.Proofs.Yteaeigpeaneicaa.G
end

section
-- Printed by gprint.py: a program of this session over the kit's print. Not trusted: Lean checks it.
namespace Go.Proofs.Yteaeigpeaneicaa.G
open Go.RowKit Go.Proofs.YteaeigpeaneicaaW.PrintWords Go.Proofs.YteaeigpeaneicaaW.PrintLast Go.Proofs.YteaeigpeaneicaaW.PrintMore
attribute [local go_sem] max2_int min2_int max_two min_two max_three min_three max_four min_four   -- for this text's walks alone
set_option linter.unusedVariables false
set_option linter.unusedSimpArgs false

/-! ### signed_Right: function 17 -/
-- GIVEN SignedRight.lean
open Go.Proofs.YteaeigpeaneicaaPlain
def signed_Right.fits (n : Int) : Bool := decide (-1099511627776 ≤ n) && decide (n ≤ 1099511627776)
def signed_Right.row (m : Nat) (r : List Int) : Bool := decide (1 ≤ r.length) && decide (r.length ≤ 256) && decide (r.length = m) && r.all signed_Right.fits
def signed_Right.ok (l0_1 : List (List Int)) : Bool := decide (l0_1.length ≤ 7) && decide (l0_1.length % 2 = 1) && l0_1.all (signed_Right.row (l0_1.headD []).length)
def signed_Right.f (a0_0 : Int) (l0_1 : List (List Int)) : Option Bool := some (signed_Right.ok l0_1)
theorem signed_Right.fits_f (x : Int) : signed_fits.f x = some (signed_Right.fits x) := by
  unfold signed_fits.f signed_Right.fits
  by_cases h : (-1099511627776 : Int) ≤ x
  · rw [if_pos h]; simp [h]
  · rw [if_neg h]; simp [h]
theorem signed_Right.c2 (x : Int) (W : World) : Calls Try.prog 35 #[.int .i64 x] W fun e w' => e = .returned (.bool (!signed_Right.fits x)) ∧ Below W.heap.size W w' := by
  have h := signed_fits.calls x _ W (signed_Right.fits_f x)
  generalize signed_Right.fits x = b at h ⊢
  go_enter Try.func35, Try.ntmps35
  go_wp2_with fail
  with_reducible refine h.mono ?_
  rintro e w1 ⟨rfl, hd⟩
  have HD := Aside0.mk hd.below
  clear hd h
  go_wp2_with fail
  go_ret
  exact ⟨rfl, HD.out⟩
set_option maxHeartbeats 2000000 in
theorem signed_Right.c1 (gb : Nat) (a : Int) (A : Option Addr) (c : Nat) (l : List (List Int)) (x : List Int) (v : Value) (W : World)
    (hb : W.heap[gb]? = some (.cells #[.int .u64 a, .slice A l.length c] 25 (0, 0))) (hl : Kd.C (Kd.slice 3 (Kd.int .i64)) W A l.length l) (hx : x ∈ l) (hv : Kd.K (Kd.slice 3 (Kd.int .i64)) W x [v]) :
    Calls Try.prog 33 #[v, .pointer (some ⟨gb, 0, none⟩)] W fun e w' => e = .returned (.bool (!signed_Right.row (l.headD []).length x)) ∧ Below W.heap.size W w' := by
  obtain ⟨A1, c1, hv1, hl1, hC1⟩ := hv
  obtain rfl : v = .slice A1 x.length c1 := by simpa using hv1
  have hpos : 0 < l.length := List.length_pos_of_mem hx
  obtain ⟨ad0, A2, c2, e2, hcell2, hl2, hC2⟩ := at_L1 hl 0 (by omega) (by omega)
  have hhd : rd_L1 l 0 = l.headD [] := by
    cases l with
    | nil => cases hx
    | cons y t => rfl
  rw [hhd] at hcell2
  obtain ⟨y, hy⟩ : ∃ y, y = l.headD [] := ⟨_, rfl⟩
  rw [← hy] at hcell2 ⊢
  clear hhd hC2 hl2 hv1
  have k0 : W.cell? ⟨gb, 0, none⟩ = some (.int .u64 a) := by rw [blk_cell hb]; rfl
  have k1 : W.cell? ⟨gb, 1, none⟩ = some (.slice A l.length c) := by rw [blk_cell hb]; rfl
  have hall := slices_ContainsFunc_int_int_34.calls A1 c1 x 35 #[] (fun n => !signed_Right.fits n) W (fun args w => by kernel_rfl) hC1 (fun W1 z u _ _ hu => by
    obtain rfl : u = .int .i64 z := by simpa using (show [u] = [Value.int .i64 z] from hu)
    simpa using signed_Right.c2 z W1)
  have hrow : (!signed_Right.row y.length x) = (decide (x.length < 1) || decide (256 < x.length) || !decide (x.length = y.length) || (x.any fun n => !signed_Right.fits n)) := by
    have hz : x.all signed_Right.fits = !(x.any fun n => !signed_Right.fits n) := by rw [List.all_eq_not_any_not]
    unfold signed_Right.row
    rw [hz]
    generalize (x.any fun n => !signed_Right.fits n) = b
    have e1 : decide (1 ≤ x.length) = !decide (x.length < 1) := by by_cases h : x.length < 1 <;> simp [h] <;> omega
    have e2 : decide (x.length ≤ 256) = !decide (256 < x.length) := by by_cases h : 256 < x.length <;> simp [h] <;> omega
    rw [e1, e2]
    cases decide (x.length < 1) <;> cases decide (256 < x.length) <;> cases decide (x.length = y.length) <;> cases b <;> rfl
  rw [hrow]
  generalize hany : (x.any fun n => !signed_Right.fits n) = b at hall
  have HC := Aside0.mk hall
  have HX := Aside0.mk hany
  clear hall hany hrow hl hC1 hx hy hl1
  subst e2
  obtain ⟨m, hm⟩ : ∃ m, m = x.length := ⟨_, rfl⟩
  obtain ⟨my, hmy⟩ : ∃ my, my = y.length := ⟨_, rfl⟩
  have HM := Aside0.mk hm
  have HMY := Aside0.mk hmy
  rw [← hm, ← hmy]
  rw [← hmy] at hcell2
  clear hm hmy
  have hcell3 : W.cell? ad0 = some (.slice A2 (my : Nat) c2) := by simpa [Addr.add] using hcell2
  clear hcell2
  cases q1 : decide (m < 1) with
  | true =>
    have z1 : decide ((m : Int) < 1) = true := by simp at q1 ⊢; omega
    go_enter Try.func33, Try.ntmps33
    go_wp2_with fail
    go_ret
    exact ⟨rfl, Below.refl _ _⟩
  | false =>
    have z1 : decide ((m : Int) < 1) = false := by simp at q1 ⊢; omega
    cases q2 : decide (256 < m) with
    | true =>
      have z2 : decide (256 < (m : Int)) = true := by simp at q2 ⊢; omega
      go_enter Try.func33, Try.ntmps33
      go_wp2_with fail
      go_ret
      exact ⟨rfl, Below.refl _ _⟩
    | false =>
      have z2 : decide (256 < (m : Int)) = false := by simp at q2 ⊢; omega
      cases q3 : decide (m = my) with
      | false =>
        have z3 : (m == my) = false := by simpa using q3
        have z4 : (m != my) = true := by simpa using q3
        have z5 : ((m : Int) != (my : Int)) = true := by simp at q3 ⊢; omega
        go_enter Try.func33, Try.ntmps33
        go_wp2_with fail
        go_ret
        exact ⟨rfl, Below.refl _ _⟩
      | true =>
        have z3 : (m == my) = true := by simpa using q3
        have z4 : (m != my) = false := by simpa using q3
        have z5 : ((m : Int) != (my : Int)) = false := by simp at q3 ⊢; omega
        rw [← HM.out] at HC
        go_enter Try.func33, Try.ntmps33
        go_wp2_with fail
        with_reducible refine HC.out.mono ?_
        rintro e w1 ⟨rfl, hd⟩
        have HD := Aside0.mk hd
        clear hd
        go_wp2_with fail
        go_ret
        exact ⟨rfl, HD.out⟩
set_option maxHeartbeats 2000000 in
theorem signed_Right.calls (a0_0 : Int) (A0_1 : Option Addr) (c0_1 : Nat) (l0_1 : List (List Int)) (r : Bool) (w : World) (hr0_1 : Kd.C (Kd.slice 3 (Kd.int .i64)) w A0_1 l0_1.length l0_1) (hc0_1 : l0_1.length ≤ c0_1) (h : signed_Right.f a0_0 l0_1 = some r) :
    Calls Try.prog 17 #[.agg #[.int .u64 a0_0, .slice A0_1 l0_1.length c0_1]] w fun e w' => e = .returned (.bool r) ∧ Below w.heap.size w w' := by
  have hz : l0_1.all (signed_Right.row (l0_1.headD []).length) = !(l0_1.any fun x => !signed_Right.row (l0_1.headD []).length x) := by rw [List.all_eq_not_any_not]
  unfold signed_Right.f signed_Right.ok at h
  rw [hz] at h
  obtain rfl := Option.some.inj h
  clear h hz
  have hu := Try.underlying25
  have hwalk : ∀ (gb : Nat) (w1 : World), w1.heap[gb]? = some (.cells #[.int .u64 a0_0, .slice A0_1 l0_1.length c0_1] 25 (0, 0)) → Below w.heap.size w w1 → Calls Try.prog 32 #[.slice A0_1 l0_1.length c0_1, .func (.func 33) #[] #[.pointer (some ⟨gb, 0, none⟩)]] w1 fun e w' => e = .returned (.bool (l0_1.any fun x => !signed_Right.row (l0_1.headD []).length x)) ∧ Below w1.heap.size w1 w' := by
    intro gb w1 hbk hB
    refine slices_ContainsFunc_int_int_32.calls A0_1 c0_1 l0_1 33 #[.pointer (some ⟨gb, 0, none⟩)] (fun x => !signed_Right.row (l0_1.headD []).length x) w1 (fun args w => by kernel_rfl) (Kd.C_below hr0_1 hB) (fun W x v hx hW hv => ?_)
    exact signed_Right.c1 gb a0_0 A0_1 c0_1 l0_1 x v W (blk_below hbk hW) (Kd.C_below (Kd.C_below hr0_1 hB) hW) hx hv
  generalize (l0_1.any fun x => !signed_Right.row (l0_1.headD []).length x) = b at hwalk ⊢
  have hlen : l0_1.length ≤ 9223372036854775807 := hr0_1.2.1
  have HW := Aside0.mk hwalk
  clear hwalk hr0_1
  obtain ⟨n, hn⟩ : ∃ n, n = l0_1.length := ⟨_, rfl⟩
  have HN := Aside0.mk hn
  rw [← hn] at HW hlen ⊢
  clear hn
  go_enter Try.func17, Try.ntmps17
  go_upto_region 1 with (first | ((with_reducible refine gate_dst (N := 1) rfl ?_); refine box_event ?hg (N := 1) ?hd (cs := #[.int .u64 a0_0, .slice A0_1 n c0_1]) (t := 25) ?hr ?_; (case hd => rfl); (case hg => rfl); (case hr => first | (go_simp; done) | (go_simp; rfl)); intro gb hg w1 hbk hb1; have HK := Aside0.mk hbk; have HB1 := Aside0.mk hb1; clear hbk hb1 hg))
  have k0 : w1.cell? ⟨gb, 0, none⟩ = some (.int .u64 a0_0) := by rw [blk_cell HK.out]; rfl
  have k1 : w1.cell? ⟨gb, 1, none⟩ = some (.slice A0_1 n c0_1) := by rw [blk_cell HK.out]; rfl
  have HV := Aside0.mk (HW.out gb w1 HK.out HB1.out)
  clear HW
  cases q1 : decide (7 < n) with
  | true =>
    have q0 : decide (n ≤ 7) = false := by simp at q1 ⊢; omega
    have z1 : decide (7 < (n : Int)) = true := by simp at q1 ⊢; omega
    have HQ := Aside0.mk q0
    clear q0
    go_wp2_with fail
    go_ret
    exact ⟨by rw [HQ.out]; rfl, HB1.out⟩
  | false =>
    have q0 : decide (n ≤ 7) = true := by simp at q1 ⊢; omega
    have z1 : decide (7 < (n : Int)) = false := by simp at q1 ⊢; omega
    cases q2 : decide (n % 2 = 1) with
    | false =>
      have z2 : ((n : Int) % 2 == 0) = true := by simp at q2 ⊢; omega
      have HQ := Aside0.mk (And.intro q0 q2)
      clear q0 q2
      go_wp2_with fail
      go_ret
      exact ⟨by rw [HQ.out.1, HQ.out.2]; rfl, HB1.out⟩
    | true =>
      have z2 : ((n : Int) % 2 == 0) = false := by simp at q2 ⊢; omega
      have HQ := Aside0.mk (And.intro q0 q2)
      clear q0 q2
      go_wp2_with fail
      with_reducible refine HV.out.mono ?_
      rintro e w2 ⟨rfl, hd⟩
      have HD := Aside0.mk (below_step HB1.out hd)
      clear hd
      go_wp2_with fail
      go_ret
      exact ⟨by rw [HQ.out.1, HQ.out.2]; rfl, HD.out⟩


end Go.Proofs.Yteaeigpeaneicaa.G
end

section
-- Printed by gprint.py: a program of this session over the kit's print. Not trusted: Lean checks it.
namespace Go.Proofs.Yteaeigpeaneicaa.G
open Go.RowKit Go.Proofs.YteaeigpeaneicaaW.PrintWords Go.Proofs.YteaeigpeaneicaaW.PrintLast Go.Proofs.YteaeigpeaneicaaW.PrintMore
attribute [local go_sem] max2_int min2_int max_two min_two max_three min_three max_four min_four   -- for this text's walks alone
set_option linter.unusedVariables false
set_option linter.unusedSimpArgs false

/-! ### signed_Add: function 15 -/
-- GIVEN SignedAdd.lean
open Go.Proofs.YteaeigpeaneicaaPlain
def signed_Add.fits (n : Int) : Bool := signed_Right.fits n
def signed_Add.new (seed : Int) (key : ByteArray) (n i : Int) (row : List Int) : Int := wrap64 (rd row (scell seed key i row.length) + wrap64 (ssign seed key i * n))
def signed_Add.upd (seed : Int) (key : ByteArray) (n i : Int) (row : List Int) : List Int := row.set (scell seed key i row.length).toNat (signed_Add.new seed key n i row)
def signed_Add.go (seed : Int) (key : ByteArray) (n : Int) : Nat → Nat → List (List Int) → Int × List (List Int) × Int
 | 0, _, rows => (seed, rows, 0)
 | d + 1, i, rows => if signed_Add.fits (signed_Add.new seed key n i (rd_L1 rows i)) = true then signed_Add.go seed key n d (i + 1) (rows.set i (signed_Add.upd seed key n i (rd_L1 rows i))) else (0, [], 5)
def signed_Add.f (a0_0 : Int) (l0_1 : List (List Int)) (a1 : ByteArray) (a2 : Int) : Option (Int × (List (List Int)) × Int) :=
 if (0 ≤ a0_0 ∧ a0_0 < 18446744073709551616) ∧ a1.size ≤ 140737488351232 then (if signed_Right.ok l0_1 = true then (if signed_Add.fits a2 = true then some (signed_Add.go a0_0 a1 a2 l0_1.length 0 l0_1) else some (0, [], 1)) else some (0, [], 1)) else none
set_option maxHeartbeats 4000000 in
set_option maxRecDepth 100000 in
theorem signed_Add.calls (a0_0 : Int) (A0_1 : Option Addr) (c0_1 : Nat) (l0_1 : List (List Int)) (a1 : ByteArray) (a2 : Int) (r1 : Int) (r2 : List (List Int)) (r3 : Int) (w : World) (hr0_1 : Kd.C (Kd.slice 3 (Kd.int .i64)) w A0_1 l0_1.length l0_1) (hc0_1 : l0_1.length ≤ c0_1) (h : signed_Add.f a0_0 l0_1 a1 a2 = some (r1, r2, r3)) :
  Calls Try.prog 15 #[.agg #[.int .u64 a0_0, .slice A0_1 l0_1.length c0_1], .string a1, .int .i64 a2] w fun e w' => ∃ v1_ : Value, e = .returned (.tuple #[.agg #[.int .u64 r1, v1_], .int .i64 r3]) ∧ Kd.S (Kd.slice 3 (Kd.int .i64)) 33 w' w.heap.size (fun _ => True) v1_ r2 ∧ Below w.heap.size w w' := by
 by_cases hg : (0 ≤ a0_0 ∧ a0_0 < 18446744073709551616) ∧ a1.size ≤ 140737488351232
 case neg => simp [signed_Add.f, hg] at h
 unfold signed_Add.f at h
 rw [if_pos hg] at h
 have HG := Aside0.mk hg
 clear hg
 have hR := fun W hC => signed_Right.calls a0_0 A0_1 c0_1 l0_1 (signed_Right.ok l0_1) W hC hc0_1 rfl
 have HR := Aside0.mk hR
 have HC := Aside0.mk hr0_1
 clear hR hr0_1
 have HF := Aside0.mk h
 clear h
 have hu := Try.underlying25
 go_enter Try.func15, Try.ntmps15
 go_upto_region 1 with (first | ((with_reducible refine gate_dst (N := 3) rfl ?_); refine box_event ?hg (N := 3) ?hd (cs := #[.int .u64 a0_0, .slice A0_1 l0_1.length c0_1]) (t := 25) ?hr ?_; (case hd => rfl); (case hg => rfl); (case hr => first | (go_simp; done) | (go_simp; rfl)); intro gb hg w1 hbk hb1; have HK := Aside0.mk hbk; have HB1 := Aside0.mk hb1; have GE1 := Aside0.mk (show w.heap.size ≤ gb by omega); clear hbk hb1 hg) | ((with_reducible refine gate_dst (N := 6) rfl ?_); refine box_event ?hg (N := 6) ?hd (cs := #[.int .u64 0, .slice none 0 0]) (t := 25) ?hr ?_; (case hd => rfl); (case hg => rfl); (case hr => first | (go_simp; done) | (go_simp; rfl)); intro gr hg w2 hbk2 hb2; have HK2 := Aside0.mk hbk2; have HK1 := Aside0.mk (blk_below HK.out hb2); have HB := Aside0.mk (below_step HB1.out hb2); have NE := Aside0.mk (show gb ≠ gr by have := blk_lt HK.out; omega); have GE2 := Aside0.mk (show w.heap.size ≤ gr by have := (HB1.out).size; omega); clear hbk2 hb2 hg HK HB1))
 have k0 : w2.cell? ⟨gb, 0, none⟩ = some (.int .u64 a0_0) := by rw [blk_cell HK1.out]; rfl
 have k1 : w2.cell? ⟨gb, 1, none⟩ = some (.slice A0_1 l0_1.length c0_1) := by rw [blk_cell HK1.out]; rfl
 have hcall := HR.out w2 (Kd.C_below HC.out HB.out)
 clear HR
 cases hok : signed_Right.ok l0_1 with
 | false =>
  rw [hok] at hcall
  have HOK := Aside0.mk hok
  clear hok
  go_wp2_with fail
  with_reducible refine hcall.mono ?_
  rintro e w3 ⟨rfl, hb⟩
  have HK3 := Aside0.mk (blk_below HK2.out hb)
  have HB3 := Aside0.mk (below_step HB.out hb)
  clear hb hcall k0 k1
  obtain ⟨z0, z1, y0, y1⟩ := YteaeigpeaneicaaInner.box2 HK3.out
  go_wp2_with fail
  have hres : (0, ([] : List (List Int)), (1 : Int)) = (r1, r2, r3) := by have := HF.out; rw [HOK.out] at this; simpa using this
  simp only [Prod.mk.injEq] at hres
  obtain ⟨rfl, rfl, rfl⟩ := hres
  refine bodyPost_ret (results_ct rfl _ _ gr 25 #[.int .u64 0, .slice none 0 0] (0, 0) _ rfl (YteaeigpeaneicaaInner.box2_put HK3.out _ _) Try.underlying25 rfl (by kernel_rfl)) rfl ?_
  exact ⟨_, rfl, Kd.S_nil _ _ _ _ _, YteaeigpeaneicaaInner.below_put2 HB3.out GE2.out _ _⟩
 | true =>
  rw [hok] at hcall
  have hrows : ∀ r ∈ l0_1, 1 ≤ r.length ∧ r.length ≤ 256 := by
   intro r hr
   have h1 := hok
   unfold signed_Right.ok at h1
   simp only [Bool.and_eq_true, List.all_eq_true] at h1
   have h2 := h1.2 r hr
   unfold signed_Right.row at h2
   simp only [Bool.and_eq_true, decide_eq_true_eq] at h2
   omega
  have hnum : l0_1.length ≤ 7 := by
   have h1 := hok
   unfold signed_Right.ok at h1
   simp only [Bool.and_eq_true, decide_eq_true_eq] at h1
   omega
  have HROWS := Aside0.mk hrows
  have HOK := Aside0.mk hok
  clear hok hrows
  go_wp2_with fail
  with_reducible refine hcall.mono ?_
  rintro e w3 ⟨rfl, hb⟩
  have HK23 := Aside0.mk (blk_below HK2.out hb)
  have HK13 := Aside0.mk (blk_below HK1.out hb)
  have HB3 := Aside0.mk (below_step HB.out hb)
  clear hb hcall k0 k1 HK1 HK2 HB
  have hfit := signed_fits.calls a2 _ w3 (signed_Right.fits_f a2)
  cases hq : signed_Add.fits a2 with
  | false =>
   rw [show signed_Right.fits a2 = false from hq] at hfit
   have HQ := Aside0.mk hq
   clear hq
   go_wp2_with fail
   with_reducible refine hfit.mono ?_
   rintro e w4 ⟨rfl, hd⟩
   have HB4 := Aside0.mk (below_step HB3.out hd.below)
   have HK4 := Aside0.mk (blk_below HK23.out hd.below)
   clear hd hfit
   obtain ⟨z0, z1, y0, y1⟩ := YteaeigpeaneicaaInner.box2 HK4.out
   go_wp2_with fail
   have hres : (0, ([] : List (List Int)), (1 : Int)) = (r1, r2, r3) := by have := HF.out; rw [HOK.out, HQ.out] at this; simpa using this
   simp only [Prod.mk.injEq] at hres
   obtain ⟨rfl, rfl, rfl⟩ := hres
   refine bodyPost_ret (results_ct rfl _ _ gr 25 #[.int .u64 0, .slice none 0 0] (0, 0) _ rfl (YteaeigpeaneicaaInner.box2_put HK4.out _ _) Try.underlying25 rfl (by kernel_rfl)) rfl ?_
   exact ⟨_, rfl, Kd.S_nil _ _ _ _ _, YteaeigpeaneicaaInner.below_put2 HB4.out GE2.out _ _⟩
  | true =>
   rw [show signed_Right.fits a2 = true from hq] at hfit
   have HF2 : Aside0 (signed_Add.go a0_0 a1 a2 l0_1.length 0 l0_1 = (r1, r2, r3)) := ⟨by have := HF.out; rw [HOK.out, hq] at this; simpa using this⟩
   clear hq HF HOK
   go_wp2_with fail
   with_reducible refine hfit.mono ?_
   rintro e w4 ⟨rfl, hd⟩
   have HB4 := Aside0.mk (below_step HB3.out hd.below)
   have HK24 := Aside0.mk (blk_below HK23.out hd.below)
   have HK14 := Aside0.mk (blk_below HK13.out hd.below)
   clear hd hfit HB3 HK13 HK23
   obtain ⟨x0, x1, q0, q1⟩ := YteaeigpeaneicaaInner.box2 HK14.out
   obtain ⟨kc, hkc⟩ := (signed_clone_ev a0_0 l0_1 (by omega) (fun r hr => by have := HROWS.out r hr; omega)).rounds
   have hcl := signed_clone.calls kc a0_0 A0_1 c0_1 l0_1 a0_0 l0_1 w4 (Kd.C_below HC.out HB4.out) hc0_1 hkc
   clear hkc
   go_wp2_with fail
   with_reducible refine hcl.mono ?_
   rintro e w5 ⟨v5, rfl, hS, hb⟩
   obtain ⟨A5, c5, rfl⟩ := Kd.S_slice hS
   have HS5 := Aside0.mk (Kd.S_lower hS HB4.out.size)
   have HB5 := Aside0.mk (below_step HB4.out hb)
   have HK25 := Aside0.mk (blk_below HK24.out hb)
   have HK15 := Aside0.mk (blk_below HK14.out hb)
   clear hS hb hcl HB4 HK24 HK14 x0 x1 q0 q1
   obtain ⟨x0, x1, q0, q1⟩ := YteaeigpeaneicaaInner.box2 HK15.out
   go_wp2_with fail
   have HS6 := Aside0.mk (Kd.S_set (Kd.S_set HS5.out HK15.out (by decide) 0 (.int .u64 a0_0)) (blk_put (cs := #[.int .u64 a0_0, .slice A0_1 l0_1.length c0_1]) HK15.out 0 (.int .u64 a0_0) rfl) (by decide) 1 (.slice A5 l0_1.length c5))
   have HK16 := Aside0.mk (YteaeigpeaneicaaInner.box2_put HK15.out (.int .u64 a0_0) (.slice A5 l0_1.length c5))
   have HK26 := Aside0.mk (YteaeigpeaneicaaInner.box2_other HK25.out (fun e => NE.out e.symm) (.int .u64 a0_0) (.slice A5 l0_1.length c5))
   have HB6 := Aside0.mk (YteaeigpeaneicaaInner.below_put2 HB5.out GE1.out (.int .u64 a0_0) (.slice A5 l0_1.length c5))
   generalize ((w5.setCell ⟨gb, 0, none⟩ (.int .u64 a0_0)).setCell ⟨gb, 1, none⟩ (.slice A5 l0_1.length c5)) = w6 at HS6 HK16 HK26 HB6 ⊢
   clear HS5 HK15 HK25 HB5 x0 x1 q0 q1
   obtain ⟨n, hn⟩ : ∃ n, n = l0_1.length := ⟨_, rfl⟩
   have HN := Aside0.mk hn
   rw [← hn] at HF2 HS6 HK16 hnum ⊢
   clear hn
   go_loopg [26] n (fun gg s26 wr => ∃ (i : Nat) (rows : List (List Int)), i ≤ n ∧ n - i ≤ gg ∧ s26 = .int .i64 i ∧ Aside0 (rows.length = n) ∧ Aside0 (∀ r ∈ rows, 1 ≤ r.length ∧ r.length ≤ 256) ∧ Aside0 (signed_Add.go a0_0 a1 a2 (n - i) i rows = (r1, r2, r3)) ∧ Aside0 (wr.heap[gb]? = some (.cells #[.int .u64 a0_0, .slice A5 n c5] 25 (0, 0))) ∧ Aside0 (wr.heap[gr]? = some (.cells #[.int .u64 0, .slice none 0 0] 25 (0, 0))) ∧ Aside0 (Kd.S (Kd.slice 3 (Kd.int .i64)) 33 wr w.heap.size (fun _ => True) (.slice A5 n c5) rows) ∧ Aside0 (Below w.heap.size w wr))
   case atStart => exact ⟨0, l0_1, Nat.zero_le _, by omega, rfl, ⟨HN.out.symm⟩, HROWS, HF2, HK16, HK26, HS6, HB6⟩
   case round =>
    clear HS6 HK16 HK26 HB6 HF2 HROWS
    obtain ⟨i, rows, hi, hgg, rfl, HL, HRW, HF, HK1, HK2, HS, HB⟩ := hrel
    by_cases hlt : i < n
    ·
     have hltz : (i : Int) < (n : Int) := by omega
     have hCr := (Kd.S_reads' HS.out).2.2
     obtain ⟨ad, he, _⟩ := hCr.2.2 (by have := HL.out; omega)
     subst he
     have hmem : rows.getD i [] ∈ rows := by
      rw [List.getD_eq_getElem?_getD, List.getElem?_eq_getElem (by have := HL.out; omega)]
      exact List.getElem_mem _
     have hrl := HRW.out _ hmem
     obtain ⟨g2, cap2, _, hcell, _⟩ := YteaeigpeaneicaaInner.S_put (0 : Int) HS.out (i : Int) 0 (by omega) hltz (by omega) (by rw [Int.toNat_natCast]; omega)
     rw [Int.toNat_natCast] at hcell
     have HC2 := Aside0.mk hcell
     have hput := fun (W : World) (hb : Below wr.heap.size wr W) (j : Int) (hj0 : 0 ≤ j) (hj : j < ((rows.getD i []).length : Int)) => YteaeigpeaneicaaInner.S_put (0 : Int) (Kd.S_below HS.out hb) (i : Int) j (by omega) hltz hj0 (by rw [Int.toNat_natCast]; exact hj)
     have HP := Aside0.mk hput
     clear hput hmem hCr
     have hrd : rd_L1 rows (i : Int) = rows.getD i [] := by simp [rd_L1]
     obtain ⟨kp, hkp⟩ := (signed_place_ev a0_0 rows a1 (i : Int) HG.out.1.1 HG.out.1.2 HG.out.2 (by omega) (by have := HL.out; omega) (by have := HL.out; omega) (by rw [hrd]; omega)).rounds
     rw [hrd] at hkp
     have hpl := signed_place.calls kp a0_0 (some ad) c5 rows a1 (i : Int) _ _ wr (Kd.S_reads' HS.out).2.2 (by have := (Kd.S_reads' HS.out).2.1; have := HL.out; omega) hkp
     rw [HL.out] at hpl
     clear hkp hrd
     have hcr := hcell_range (hrow a0_0 (2 * (i : Int))) a1 ((rows.getD i []).length : Int) (by omega)
     obtain ⟨row, hrow⟩ : ∃ row, row = rows.getD i [] := ⟨_, rfl⟩
     have HROW := Aside0.mk hrow
     have hP2 := HP.out
     simp only [Int.toNat_natCast, ← hrow] at hP2
     clear HP
     have HP := Aside0.mk hP2
     clear hP2
     rw [← hrow] at hpl hcr hrl HC2
     have hcell2 := HC2.out
     clear hrow hcell
     obtain ⟨c, hc⟩ : ∃ c, c = scell a0_0 a1 (i : Int) (row.length : Int) := ⟨_, rfl⟩
     obtain ⟨sg, hsg⟩ : ∃ s, s = ssign a0_0 a1 (i : Int) := ⟨_, rfl⟩
     rw [show hcell (hrow a0_0 (2 * (i : Int))) a1 (row.length : Int) = c from hc.symm] at hcr
     rw [← hc, ← hsg] at hpl
     have HCC := Aside0.mk hc
     have HSG := Aside0.mk hsg
     clear hc hsg
     obtain ⟨x0, x1, q0, q1⟩ := YteaeigpeaneicaaInner.box2 HK1.out
     obtain ⟨hc0, hc1⟩ := hcr
     go_wp2_with fail
     with_reducible refine hpl.mono ?_
     rintro e w7 ⟨rfl, hb⟩
     obtain ⟨g3, cap3, cells, hcell3, hg3, hlt3, hbk3, hval, hfr, hback⟩ := HP.out w7 hb c hc0 hc1
     have hsame : some (Value.slice (some ⟨g3, 0, none⟩) row.length cap3) = some (Value.slice (some ⟨g2, 0, none⟩) row.length cap2) := by
      exact hcell3.symm.trans (cell_later hb HC2.out)
     simp only [Option.some.injEq, Value.slice.injEq, Addr.mk.injEq, and_true, true_and] at hsame
     obtain ⟨hs1, _⟩ := hsame
     subst hs1
     have HB7 := Aside0.mk (below_step HB.out hb)
     have HK17 := Aside0.mk (blk_below HK1.out hb)
     have HK27 := Aside0.mk (blk_below HK2.out hb)
     have HBK := Aside0.mk hbk3
     have HBACK := Aside0.mk hback
     have HG3 := Aside0.mk hg3
     clear hb hpl hcell2 hbk3 hback hg3 hlt3 hcell3 HP x0 x1 q0 q1
     rw [show rdOf (0 : Int) row c = rd row c from rfl] at hval
     go_wp2_with fail
     have HB8 := Aside0.mk (below_set (j := c.toNat) (v := .int .i64 (wrap64 (rd row c + wrap64 (sg * a2)))) HB7.out HG3.out)
     have HK18 := Aside0.mk (YteaeigpeaneicaaInner.blk_set_other HK17.out HBK.out (by decide) c.toNat (.int .i64 (wrap64 (rd row c + wrap64 (sg * a2)))))
     have HK28 := Aside0.mk (YteaeigpeaneicaaInner.blk_set_other HK27.out HBK.out (by decide) c.toNat (.int .i64 (wrap64 (rd row c + wrap64 (sg * a2)))))
     have HS8 := Aside0.mk (HBACK.out (wrap64 (rd row c + wrap64 (sg * a2))))
     generalize hnv : wrap64 (rd row c + wrap64 (sg * a2)) = nv at *
     have HNV := Aside0.mk hnv
     clear hnv
     generalize w7.setCell ⟨g3, c.toNat, none⟩ (.int .i64 nv) = w8 at *
     clear HB7 HK17 HK27 HBK HBACK HG3 hval hfr
     have hfit := signed_fits.calls nv _ w8 (signed_Right.fits_f nv)
     have HF2 : Aside0 ((if signed_Add.fits nv = true then signed_Add.go a0_0 a1 a2 (n - (i + 1)) (i + 1) (rows.set i (row.set c.toNat nv)) else (0, [], 5)) = (r1, r2, r3)) := ⟨by
      have h1 := HF.out
      rw [show n - i = (n - (i + 1)) + 1 by omega] at h1
      have h2 : rd_L1 rows (i : Int) = row := by rw [HROW.out]; simp [rd_L1]
      have h3 : signed_Add.new a0_0 a1 a2 (i : Int) row = nv := by unfold signed_Add.new; rw [← HCC.out, ← HSG.out, HNV.out]
      have h4 : signed_Add.upd a0_0 a1 a2 (i : Int) row = row.set c.toNat nv := by unfold signed_Add.upd; rw [h3, ← HCC.out]
      unfold signed_Add.go at h1
      rw [h2, h3, h4] at h1
      exact h1⟩
     have HRW2 : Aside0 (∀ r ∈ rows.set i (row.set c.toNat nv), 1 ≤ r.length ∧ r.length ≤ 256) := ⟨fun r hr => by
      rcases List.mem_or_eq_of_mem_set hr with h | h
      ·
       exact HRW.out r h
      ·
       rw [h, List.length_set]; exact hrl⟩
     have HL2 : Aside0 ((rows.set i (row.set c.toNat nv)).length = n) := ⟨by rw [List.length_set]; exact HL.out⟩
     clear HF HRW HL HNV HCC HSG HROW HC2
     cases hq : signed_Add.fits nv with
     | false =>
      rw [show signed_Right.fits nv = false from hq] at hfit
      have HQ := Aside0.mk hq
      clear hq
      with_reducible refine hfit.mono ?_
      rintro e w9 ⟨rfl, hd⟩
      have HB9 := Aside0.mk (below_step HB8.out hd.below)
      have HK9 := Aside0.mk (blk_below HK28.out hd.below)
      clear hd hfit
      obtain ⟨z0, z1, y0, y1⟩ := YteaeigpeaneicaaInner.box2 HK9.out
      go_wp2_with fail
      have hres : (0, ([] : List (List Int)), (5 : Int)) = (r1, r2, r3) := by have := HF2.out; rw [HQ.out] at this; simpa using this
      simp only [Prod.mk.injEq] at hres
      obtain ⟨rfl, rfl, rfl⟩ := hres
      refine bodyPost_ret (results_ct rfl _ _ gr 25 #[.int .u64 0, .slice none 0 0] (0, 0) _ rfl (YteaeigpeaneicaaInner.box2_put HK9.out _ _) Try.underlying25 rfl (by kernel_rfl)) rfl ?_
      exact ⟨_, rfl, Kd.S_nil _ _ _ _ _, YteaeigpeaneicaaInner.below_put2 HB9.out GE2.out _ _⟩
     | true =>
      rw [show signed_Right.fits nv = true from hq] at hfit
      have HF3 : Aside0 (signed_Add.go a0_0 a1 a2 (n - (i + 1)) (i + 1) (rows.set i (row.set c.toNat nv)) = (r1, r2, r3)) := ⟨by have := HF2.out; rw [hq] at this; simpa using this⟩
      clear hq HF2
      with_reducible refine hfit.mono ?_
      rintro e w9 ⟨rfl, hd⟩
      have HB9 := Aside0.mk (below_step HB8.out hd.below)
      have HK29 := Aside0.mk (blk_below HK28.out hd.below)
      have HK19 := Aside0.mk (blk_below HK18.out hd.below)
      have HS9 := Aside0.mk (Kd.S_below HS8.out hd.below)
      clear hd hfit
      go_wp2_with fail
      go_roundg (n - (i + 1))
      case measure => omega
      case rel => exact ⟨i + 1, _, by omega, by omega, by go_num, HL2, HRW2, HF3, HK19, HK29, HS9, HB9⟩
    ·
     have hltz : ¬ (i : Int) < (n : Int) := by omega
     have hin : i = n := by omega
     have hres : (a0_0, rows, (0 : Int)) = (r1, r2, r3) := by have := HF.out; rw [show n - i = 0 by omega] at this; exact this
     simp only [Prod.mk.injEq] at hres
     obtain ⟨rfl, rfl, rfl⟩ := hres
     obtain ⟨x0, x1, q0, q1⟩ := YteaeigpeaneicaaInner.box2 HK1.out
     obtain ⟨z0, z1, y0, y1⟩ := YteaeigpeaneicaaInner.box2 HK2.out
     clear hin
     go_wp2_with fail
     have HS6 := Aside0.mk (Kd.S_set (Kd.S_set HS.out HK2.out (by decide) 0 (.int .u64 a0_0)) (blk_put (cs := #[.int .u64 0, .slice none 0 0]) HK2.out 0 (.int .u64 a0_0) rfl) (by decide) 1 (.slice A5 n c5))
     refine bodyPost_ret (results_ct rfl _ _ gr 25 #[.int .u64 a0_0, .slice A5 n c5] (0, 0) _ rfl (YteaeigpeaneicaaInner.box2_put HK2.out _ _) Try.underlying25 rfl (by kernel_rfl)) rfl ?_
     exact ⟨_, rfl, HS6.out, YteaeigpeaneicaaInner.below_put2 HB.out GE2.out _ _⟩

end Go.Proofs.Yteaeigpeaneicaa.G
end

section
/-
  DERIVED: THE SHELF's CONTRACTS AT THIS DUMP, IN PLAIN WORDS (tools/lay-plain.mjs out of 'YteaeigpeaneicaaShelfSrc.lean', which tools/lay-shelf.mjs wrote): THE SAME DECLARATIONS UNDER THE SAME NAMES: 'import', 'namespace', 'open', 'def', 'theorem' AND NOTHING ELSE: no command of the shelf's: FOR A HAND-IN. Each laying: the table of numbers ('.._ren') and one theorem, a field a fact of the dump's own or the kernel's comparison; each contract: ONE APPLICATION.
-/
namespace Go.Proofs
open Go.Shelf
def Try.lays215_ren : Go.Shelf.Ren := ⟨fun | 215 => 76 | n => n, fun | 3 => 3 | 4 => 4 | n => n, fun | n => n⟩
theorem Try.lays215 : Go.Proofs.Lays.n215 Try.prog Try.lays215_ren := {
  mixed := by kernel_rfl
  f215 := Try.func76.trans (congrArg some (by kernel_rfl))
  t3 := Try.underlying3
  a3 := Try.isAgg3
  z3 := Try.sizeOf3
  v3 := Try.zeroValue3
  t4 := Try.underlying4
  a4 := Try.isAgg4
  z4 := Try.sizeOf4
  v4 := Try.zeroValue4 }
open Go.RowKit in
/-- cmp.isNaN at int: 'x != x': false. (LAID: no walk: one application.) -/
theorem Try.cmp_isNaN_int (x : Int) (w : World) :
    Calls Try.prog 76 #[.int .i64 x] w fun e w' => e = .returned (.bool false) ∧ w' = w := Any.cmp_isNaN_int Try.lays215 x w
def Try.lays189_ren : Go.Shelf.Ren := ⟨fun | 189 => 31 | 125 => 44 | 257 => 43 | 128 => 64 | 129 => 65 | 294 => 55 | 295 => 56 | 296 => 57 | 297 => 58 | 298 => 59 | 299 => 60 | 216 => 61 | 300 => 62 | 301 => 63 | 328 => 71 | 329 => 72 | 330 => 73 | 331 => 74 | 332 => 75 | 215 => 76 | 343 => 77 | n => n, fun | 28 => 33 | 3 => 3 | 46 => 72 | 0 => 0 | 51 => 87 | 53 => 22 | 4 => 4 | 183 => 79 | 182 => 78 | 131 => 84 | 5 => 5 | 9 => 9 | 218 => 94 | 222 => 98 | 228 => 101 | 229 => 60 | n => n, fun | n => n⟩
theorem Try.lays189 : Go.Proofs.Lays.n189 Try.prog Try.lays189_ren := {
  mixed := by kernel_rfl
  f125 := Try.func44.trans (congrArg some (by kernel_rfl))
  f128 := Try.func64.trans (congrArg some (by kernel_rfl))
  f129 := Try.func65.trans (congrArg some (by kernel_rfl))
  f189 := Try.func31.trans (congrArg some (by kernel_rfl))
  f215 := Try.func76.trans (congrArg some (by kernel_rfl))
  f216 := Try.func61.trans (congrArg some (by kernel_rfl))
  f257 := Try.func43.trans (congrArg some (by kernel_rfl))
  f294 := Try.func55.trans (congrArg some (by kernel_rfl))
  f295 := Try.func56.trans (congrArg some (by kernel_rfl))
  f296 := Try.func57.trans (congrArg some (by kernel_rfl))
  f297 := Try.func58.trans (congrArg some (by kernel_rfl))
  f298 := Try.func59.trans (congrArg some (by kernel_rfl))
  f299 := Try.func60.trans (congrArg some (by kernel_rfl))
  f300 := Try.func62.trans (congrArg some (by kernel_rfl))
  f301 := Try.func63.trans (congrArg some (by kernel_rfl))
  f328 := Try.func71.trans (congrArg some (by kernel_rfl))
  f329 := Try.func72.trans (congrArg some (by kernel_rfl))
  f330 := Try.func73.trans (congrArg some (by kernel_rfl))
  f331 := Try.func74.trans (congrArg some (by kernel_rfl))
  f332 := Try.func75.trans (congrArg some (by kernel_rfl))
  f343 := Try.func77.trans (congrArg some (by kernel_rfl))
  t0 := Try.underlying0
  a0 := Try.isAgg0
  z0 := Try.sizeOf0
  v0 := Try.zeroValue0
  t3 := Try.underlying3
  a3 := Try.isAgg3
  z3 := Try.sizeOf3
  v3 := Try.zeroValue3
  t4 := Try.underlying4
  a4 := Try.isAgg4
  z4 := Try.sizeOf4
  v4 := Try.zeroValue4
  t5 := Try.underlying5
  a5 := Try.isAgg5
  z5 := Try.sizeOf5
  v5 := Try.zeroValue5
  t9 := Try.underlying9
  a9 := Try.isAgg9
  z9 := Try.sizeOf9
  v9 := Try.zeroValue9
  t28 := Try.underlying33
  a28 := Try.isAgg33
  z28 := Try.sizeOf33
  v28 := Try.zeroValue33
  t46 := Try.underlying72
  a46 := Try.isAgg72
  z46 := Try.sizeOf72
  v46 := Try.zeroValue72
  t51 := Try.underlying87
  a51 := Try.isAgg87
  z51 := Try.sizeOf87
  v51 := Try.zeroValue87
  t53 := Try.underlying22
  a53 := Try.isAgg22
  z53 := Try.sizeOf22
  v53 := Try.zeroValue22
  t131 := Try.underlying84
  a131 := Try.isAgg84
  z131 := Try.sizeOf84
  v131 := Try.zeroValue84
  t182 := Try.underlying78
  a182 := Try.isAgg78
  z182 := Try.sizeOf78
  v182 := Try.zeroValue78
  t183 := Try.underlying79
  a183 := Try.isAgg79
  z183 := Try.sizeOf79
  v183 := Try.zeroValue79
  t218 := Try.underlying94
  a218 := Try.isAgg94
  z218 := Try.sizeOf94
  v218 := Try.zeroValue94
  t222 := Try.underlying98
  a222 := Try.isAgg98
  z222 := Try.sizeOf98
  v222 := Try.zeroValue98
  t228 := Try.underlying101
  a228 := Try.isAgg101
  z228 := Try.sizeOf101
  v228 := Try.zeroValue101
  t229 := Try.underlying60
  a229 := Try.isAgg60
  z229 := Try.sizeOf60
  v229 := Try.zeroValue60 }
open Go.Sort Go.RowKit in
theorem Try.slices_Sort_int (blk off cap : Nat) (zs : List Int) (w : World) (hH : Holds (Value.int .i64) w blk off zs.toArray) (hblk : blk < w.heap.size) (hsz : zs.length < 4611686018427387904) :
    Calls Try.prog 31 #[.slice (some ⟨blk, off, none⟩) zs.length cap] w fun e w' =>
      e = .returned (.tuple #[]) ∧ ∃ n os, w' = grow (putRow (Value.int .i64) (Sort.ahead w n) blk off (zs.mergeSort fun x y => decide (x ≤ y)).toArray) os := Any.slices_Sort_int Try.lays189 blk off cap zs w hH hblk hsz
open Go.RowKit Go.Sort in
/-- .. and plain. (LAID: no walk: one application.) -/
theorem Try.slices_Sort_int_none (p : Option Addr) (cap : Nat) (w : World) :
    Calls Try.prog 31 #[.slice p 0 cap] w fun e w' => e = .returned (.tuple #[]) ∧ w' = w := Any.slices_Sort_int_none Try.lays189 p cap w
end Go.Proofs
end
