/- Steps shared by the proofs of this seat's statements (part 1). -/
import Derived.Test.YtonkhpeahbjmmaaDoorK0
import Derived.Laws.Entries
import Derived.Test.YtonkhpeahbjmmaaDoorProg
import Derived.KernelRfl
import Derived.Sort.Grow
section
/- Code and functions, where no statement's order is open. -/
namespace Go.Proofs.Vm
open Go

variable {P : Program} {X : Cx}

inductive Ex where
  | normal
  | exit (id : Nat)
  | ret

def Ex.go : Ex → Exit
  | .normal => .normal
  | .exit id => .exit id
  | .ret => .ret

def iter : Nat → (St → Option (Ex × St)) → St → Option (Ex × St)
  | 0, _, _ => none
  | n + 1, f, s => match f s with
    | some (.normal, s') => iter n f s'
    | r => r

def vcode (P : Program) (T : Tab) (N : Fx) (n : Nat) : Code → St → Option (Ex × St)
  | .skip, s => some (.normal, s)
  | .region _ ops _, s => match runV P T N ops ops.toList s with
    | some s' => some (.normal, s')
    | none => none
  | .seq a b, s => match vcode P T N n a s with
    | some (.normal, s') => vcode P T N n b s'
    | r => r
  | .cond c x y, s => match evo s.env c with
    | some (.one (.c (.v (.bool t)))) => if t then vcode P T N n x s else vcode P T N n y s
    | _ => none
  | .block id c, s => match vcode P T N n c s with
    | some (.exit k, s') => if k = id then some (.normal, s') else some (.exit k, s')
    | r => r
  | .loop c, s => iter n (vcode P T N n c) s
  | .exit id, s => some (.exit id, s)
  | .ret, s => some (.ret, s)
  | _, _ => none

/-- What is shown of a region whose order is open. -/
def OpenOk (P : Program) (N : Fx) (ops : Array Oper) : Prop :=
  ∀ (T : Tab) (X : Cx) (id : Nat) (s s' : St) (act : Act) (Q : Exit → Act → World → Prop), TOk P T → SR X → Dom X → Rel X N s act → runV P T N ops ops.toList s = some s' →
    (∀ Y act', Nxt X Y → Rel Y N s' act' → Q .normal act' Y.w) → (Code.region id ops true).wp P Q act X.w

/-- All regions of a code whose order is open are shown. -/
def CodeOk (P : Program) (N : Fx) : Code → Prop
  | .region _ ops true => OpenOk P N ops
  | .seq a b => CodeOk P N a ∧ CodeOk P N b
  | .cond _ x y => CodeOk P N x ∧ CodeOk P N y
  | .block _ c => CodeOk P N c
  | .loop c => CodeOk P N c
  | _ => True

theorem run_seq {T : Tab} (hT : TOk P T) {N : Fx} {ops : Array Oper} {Q : Exit → Act → World → Prop} : ∀ (l : List Nat) {X : Cx} {s s' : St} {act : Act}, SR X → Dom X → Rel X N s act → (∀ i ∈ l, i < ops.size) →
    runV P T N ops (l.map fun i => (ops[i]?).getD default) s = some s' → (∀ Y act', Nxt X Y → Rel Y N s' act' → Q .normal act' Y.w) → wpOps P ops Q l act X.w
  | [], X, s, s', act, S, M, R, _, h, hQ => by
    cases h
    exact hQ X act (.refl S M) R
  | i :: r, X, s, s', act, S, M, R, hl, h, hQ => by
    rw [wpOps_cons]
    have hi : ops[i]? = some ((ops[i]?).getD default) := by
      rw [Array.getElem?_eq_getElem (hl i (by simp))]
      rfl
    simp only [List.map_cons, runV] at h
    split at h
    case h_2 => cases h
    rename_i s1 h1
    refine step_seq hT S M R hi h1 fun Y act' hN hR => ?_
    exact run_seq hT r hN.sr hN.dom hR (fun j hj => hl j (by simp [hj])) h fun Z act'' h2 h3 => hQ Z act'' (hN.trans h2) h3

theorem code_sound {T : Tab} (hT : TOk P T) {N : Fx} {n : Nat} : ∀ (c : Code) {X : Cx} {s s' : St} {ex : Ex} {act : Act} {Q : Exit → Act → World → Prop}, CodeOk P N c → SR X → Dom X → Rel X N s act →
    vcode P T N n c s = some (ex, s') → (∀ Y act', Nxt X Y → Rel Y N s' act' → Q ex.go act' Y.w) → c.wp P Q act X.w := by
  intro c
  induction c with
  | skip =>
    intro X s s' ex act Q _ S M R h hQ
    cases h
    exact wp_skip (hQ X act (.refl S M) R)
  | region id ops draw =>
    intro X s s' ex act Q hc S M R h hQ
    simp only [vcode] at h
    split at h
    case h_2 => cases h
    rename_i s1 h1
    cases h
    cases draw with
    | true => exact hc T X id s s' act Q hT S M R h1 hQ
    | false =>
      refine wp_region (run_seq hT _ S M R (fun i hi => by simpa using hi) ?_ hQ)
      have : (List.range ops.size).map (fun i => (ops[i]?).getD default) = ops.toList := by
        apply List.ext_getElem?
        intro j
        rw [List.getElem?_map]
        by_cases hj : j < ops.size
        · rw [List.getElem?_range hj]
          simp [hj]
        · rw [List.getElem?_eq_none (by simp; omega), List.getElem?_eq_none (by simp; omega)]
          rfl
      rw [this]
      exact h1
  | seq a b iha ihb =>
    intro X s s' ex act Q hc S M R h hQ
    simp only [vcode] at h
    refine wp_seq ?_
    split at h
    · rename_i s1 h1
      refine iha hc.1 S M R h1 fun Y act' hN hR => ?_
      exact ihb hc.2 hN.sr hN.dom hR h fun Z act'' h2 h3 => hQ Z act'' (hN.trans h2) h3
    · rename_i h1
      refine iha hc.1 S M R h fun Y act' hN hR => ?_
      have := hQ Y act' hN hR
      cases ex with
      | normal => exact absurd h (h1 _)
      | exit id => exact this
      | ret => exact this
  | cond c x y ihx ihy =>
    intro X s s' ex act Q hc S M R h hQ
    simp only [vcode] at h
    split at h
    case h_2 => cases h
    rename_i t ht
    have hv := evo_sound R.env c _ ht
    have hv' : act.eval c = .bool t := by
      generalize act.eval c = q at hv
      cases hv
      rfl
    cases t with
    | true => exact wp_cond_true hv' (ihx hc.1 S M R h hQ)
    | false => exact wp_cond_false hv' (ihy hc.2 S M R h hQ)
  | block id c ih =>
    intro X s s' ex act Q hc S M R h hQ
    simp only [vcode] at h
    refine wp_block ?_
    split at h
    · rename_i k s1 h1
      refine ih hc S M R h1 fun Y act' hN hR => ?_
      show (if k = id then _ else _)
      split at h
      · rename_i hk
        cases h
        rw [if_pos hk]
        exact hQ Y act' hN hR
      · rename_i hk
        cases h
        rw [if_neg hk]
        exact hQ Y act' hN hR
    · rename_i h1
      refine ih hc S M R h fun Y act' hN hR => ?_
      have := hQ Y act' hN hR
      cases ex with
      | normal => exact this
      | exit k => exact absurd h (h1 _ _)
      | ret => exact this
  | loop c ih =>
    intro X s s' ex act Q hc S M R h hQ
    simp only [vcode] at h
    refine wp_loop_rounds n ?_
    have key : ∀ (k : Nat) {X : Cx} {s : St} {act : Act}, SR X → Dom X → Rel X N s act → iter k (vcode P T N n c) s = some (ex, s') → (∀ Y act', Nxt X Y → Rel Y N s' act' → Q ex.go act' Y.w) → Code.rounds P c Q k act X.w := by
      intro k
      induction k with
      | zero => intro X s act S M R h; cases h
      | succ k ihk =>
        intro X s act S M R h hQ
        rw [rounds_succ]
        simp only [iter] at h
        split at h
        · rename_i s1 h1
          refine ih hc S M R h1 fun Y act' hN hR => ?_
          exact ihk hN.sr hN.dom hR h fun Z act'' h2 h3 => hQ Z act'' (hN.trans h2) h3
        · rename_i h1
          refine ih hc S M R h fun Y act' hN hR => ?_
          have := hQ Y act' hN hR
          cases ex with
          | normal => exact absurd h (h1 _)
          | exit id => exact this
          | ret => exact this
    exact key n S M R h hQ
  | exit id =>
    intro X s s' ex act Q _ S M R h hQ
    cases h
    exact wp_exit (hQ X act (.refl S M) R)
  | ret =>
    intro X s s' ex act Q _ S M R h hQ
    cases h
    exact wp_ret (hQ X act (.refl S M) R)
  | rangeFunc f params assign body _ _ => intro X s s' ex act Q _ S M R h; cases h
  | scope body _ => intro X s s' ex act Q _ S M R h; cases h
  | label l => intro X s s' ex act Q _ S M R h; cases h
  | goto l => intro X s s' ex act Q _ S M R h; cases h
  | refuse why => intro X s s' ex act Q _ S M R h; cases h

/-- A function's results. -/
def vres (P : Program) (s : St) : ResultVar → Option AV
  | .tmp t => some (s.env t)
  | .cell a t => match vload P s.H t (s.env a) with
    | some (b, [], []) => some b
    | _ => none

def comps : List AV → Option (List (Bool × List Cell))
  | [] => some []
  | a :: r => match comps r with
    | some l => match a with
      | .one c => some ((false, [c]) :: l)
      | .agg cs => some ((true, cs) :: l)
      | .tup _ => none
    | none => none

def join (l : List AV) : Option AV :=
  match l with
  | [a] => some a
  | l => (comps l).map .tup

def env0 (args : List CA) : Nat → AV := fun k => match args[k]? with | some a => a.av | none => und

/-- What a function comes to. -/
def vfun (P : Program) (T : Tab) (N : Fx) (n : Nat) (fn : Func) (args : List CA) : Option CA :=
  match fn.body with
  | some c => if args.length ≤ fn.ntmps ∧ N.N = fn.ntmps then
      match vcode P T N n c ⟨env0 args, []⟩ with
      | some (.exit _, _) => none
      | some (_, s) => match mapO (vres P s) fn.results.toList with
        | some l => match join l with
          | some a => fza s.H a
          | none => none
        | none => none
      | none => none
    else none
  | none => none

def resSem (tmps : Array Value) : ResultVar → Sem Value
  | .tmp t => pure (tmps.getD t undef)
  | .cell a t => do loadVar t (← asAddr (tmps.getD a undef))

theorem results_eq (fn : Func) (tmps : Array Value) : results fn tmps = (do
    let vs ← fn.results.mapM (resSem tmps)
    pure (if h : vs.size = 1 then vs[0] else .tuple vs)) := by
  unfold results
  congr 1

theorem res_run {s : St} {act : Act} {N : Fx} (S : SR X) (M : Dom X) (R : Rel X N s act) : ∀ {l : List ResultVar} {ags : List AV}, mapO (vres P s) l = some ags →
    ∃ vs : List Value, (l.mapM (resSem act.tmps)).run P X.w = .ok vs X.w ∧ RAs X ags vs
  | [], ags, h => by
    cases h
    exact ⟨[], rfl, rfl, fun j a v h => by simp at h⟩
  | x :: r, ags, h => by
    unfold mapO at h
    split at h
    case h_2 => cases h
    rename_i y l hy hl
    cases h
    obtain ⟨vs, h1, h2⟩ := res_run S M R hl
    have key : ∃ v, (resSem act.tmps x).run P X.w = .ok v X.w ∧ RA X y v := by
      cases x with
      | tmp t =>
        cases hy
        exact ⟨_, rfl, R.env t⟩
      | cell a t =>
        simp only [vres] at hy
        split at hy
        case h_2 => cases hy
        rename_i b hb
        obtain rfl : b = y := by cases hy; rfl
        clear hy
        rw [← R.H] at hb
        have hv := R.env a
        obtain ⟨v, Y, e1, e2, e3⟩ := vload_does (P := P) (nid := 0) S M hb hv (fun k e hk => by simp at hk) (fun id hi => by cases hi)
        have hbh : ∃ cs, behind X.H (s.env a) = some cs := by
          unfold vload at hb
          split at hb
          · exact ⟨_, by assumption⟩
          · cases hb
        obtain ⟨cs, hcs⟩ := hbh
        obtain ⟨bb, o, us, hp, _, _⟩ := behind_sound S hcs hv
        rw [hp] at e1
        -- a load leaves the world ags it is
        have hsame : ∃ v', (Instr.loadAt t (.pointer (some ⟨bb, o, none⟩))).run P X.w = .ok v' X.w ∧ RA X b v' := by
          rw [hp] at hv
          unfold vload at hb
          rw [hcs] at hb
          dsimp only at hb
          obtain ⟨b', o', us', hp', hr', hc'⟩ := behind_sound S hcs hv
          cases hp'
          split at hb
          · rename_i ht
            split at hb
            case h_2 => cases hb
            rename_i n hn
            split at hb
            case isFalse => cases hb
            rename_i hle
            cases hb
            have hvs : n ≤ us'.length := by rw [← hr'.1]; exact hle
            refine ⟨.agg (us'.take n).toArray, ?_, us'.take n, rfl, hr'.take n⟩
            have hl := run_loadCells_list (P := P) X.w ⟨bb, o, none⟩ (us'.take n) (fun j y hy => by
              rw [add_plain]
              rw [List.getElem?_take] at hy
              split at hy
              · exact hc' j y hy
              · cases hy)
            rw [List.length_take, Nat.min_eq_left hvs] at hl
            simp [Instr.loadAt, Instr.sureAddr, loadVar, pv_run ht, pv_run hn, hl]
          · rename_i ht
            split at hb
            case h_2 => cases hb
            rename_i c r' 
            cases hb
            cases us' with
            | nil => simp [RCells] at hr'
            | cons y r'' =>
              refine ⟨y, ?_, hr'.2 0 _ y rfl rfl⟩
              have := hc' 0 y rfl
              simp only [Nat.add_zero] at this
              simp [Instr.loadAt, Instr.sureAddr, loadVar, pv_run ht, this]
          · cases hb
        obtain ⟨v', f1, f2⟩ := hsame
        refine ⟨v', ?_, f2⟩
        show (do loadVar t (← asAddr (act.tmps.getD a undef)) : Sem Value).run P X.w = _
        rw [hp]
        simpa [Instr.loadAt, Instr.sureAddr, asAddr] using f1
    obtain ⟨v, k1, k2⟩ := key
    refine ⟨v :: vs, ?_, by simp [h2.1], fun j a u ha hu => ?_⟩
    · rw [List.mapM_cons]
      simp only [Sem.run_bind]
      rw [k1]
      simp only [Result.andThen_ok]
      rw [h1]
      rfl
    · cases j with
      | zero => simp at ha hu; subst ha; subst hu; exact k2
      | succ j => exact h2.2 j a u ha hu

theorem comps_sound : ∀ {ags : List AV} {l : List (Bool × List Cell)} {vs : List Value}, comps ags = some l → RAs X ags vs → l.length = vs.length ∧ ∀ (j : Nat) p y, l[j]? = some p → vs[j]? = some y → RP X p y
  | [], l, vs, h, hv => by
    cases h
    have := hv.1
    exact ⟨by simpa using this, fun j p y hp => by simp at hp⟩
  | a :: r, l, vs, h, hv => by
    cases vs with
    | nil => exact absurd hv.1 (by simp)
    | cons v vs =>
      unfold comps at h
      split at h
      case h_2 => cases h
      rename_i l' hl
      obtain ⟨h1, h2⟩ := comps_sound hl (vs := vs) ⟨by simpa using hv.1, fun j a' y' ha hy => hv.2 (j + 1) a' y' ha hy⟩
      have hr := hv.2 0 a v rfl rfl
      split at h
      · cases h
        refine ⟨by simp [h1], fun j p y hp hy => ?_⟩
        cases j with
        | zero => simp at hp hy; subst hp; subst hy; exact ⟨_, rfl, hr⟩
        | succ j => exact h2 j p y hp hy
      · cases h
        refine ⟨by simp [h1], fun j p y hp hy => ?_⟩
        cases j with
        | zero => simp at hp hy; subst hp; subst hy; exact hr
        | succ j => exact h2 j p y hp hy
      · cases h

theorem join_sound {ags : List AV} {a : AV} {vs : List Value} (h : join ags = some a) (hv : RAs X ags vs) : RA X a (if h : vs.toArray.size = 1 then vs.toArray[0] else .tuple vs.toArray) := by
  unfold join at h
  split at h
  · cases h
    have h1 : vs.length = 1 := hv.1.symm
    cases vs with
    | nil => simp at h1
    | cons v r =>
      cases r with
      | nil => exact hv.2 0 _ v rfl rfl
      | cons _ _ => simp at h1
  · rename_i hne
    obtain ⟨l, hl, rfl⟩ := Option.map_eq_some_iff.1 h
    obtain ⟨h1, h2⟩ := comps_sound hl hv
    have : ¬ vs.toArray.size = 1 := by
      intro e
      have e' : ags.length = 1 := by rw [hv.1]; simpa using e
      match ags, e' with
      | [a], _ => exact hne a rfl
    rw [dif_neg this]
    exact ⟨vs, rfl, h1, h2⟩

/-- WHAT A FUNCTION COMES TO, the machine comes to. -/
theorem ctr_of_fun {T : Tab} (hT : TOk P T) {f : FuncId} {fn : Func} {c : Code} (hf : P.funcs[f]? = some fn) (hb : fn.body = some c) {N : Fx} (hc : CodeOk P N c) {n : Nat} {args : List CA} {r : CA}
    (h : vfun P T N n fn args = some r) : Ctr P f args r := by
  intro I w vals hI hTb hv
  unfold vfun at h
  rw [hb] at h
  dsimp only at h
  split at h
  case isFalse => cases h
  rename_i hlen
  obtain ⟨hlen, hNN⟩ := hlen
  have hvl : vals.length = args.length := hv.1.symm
  let X : Cx := ⟨w.heap.size, w, fun _ => False, [], fun _ => ⟨none, none, 0, 0⟩, I, w⟩
  have S : SR X := ⟨fun id e hd => hd.elim, fun i j b hi => hi.elim, Nat.le_refl _, fun b _ => rfl, hI, .refl _, hTb⟩
  have M : Dom X := fun id hd => hd.elim
  have R : Rel X N ⟨env0 args, []⟩ { tmps := vals.toArray ++ Array.replicate (fn.ntmps - vals.toArray.size) undef, defers := [] } := by
    refine ⟨rfl, fun id => ⟨fun h => h.elim, fun h => by simp at h⟩, by simp [hvl, hNN]; omega, fun k => ?_, rfl⟩
    show RA X (env0 args k) _
    unfold env0
    by_cases hk : k < args.length
    · rw [List.getElem?_eq_getElem hk]
      have hk' : k < vals.length := by omega
      have e : (vals.toArray ++ Array.replicate (fn.ntmps - vals.toArray.size) undef).getD k undef = vals[k] := by
        rw [Array.getD_eq_getD_getElem?, Array.getElem?_append_left (by simpa using hk')]
        simp [hk']
      rw [e]
      exact ra_of_rk (hv.2 k _ _ (List.getElem?_eq_getElem hk) (List.getElem?_eq_getElem hk'))
    · rw [List.getElem?_eq_none (by omega)]
      have e : (vals.toArray ++ Array.replicate (fn.ntmps - vals.toArray.size) undef).getD k undef = undef := by
        rw [Array.getD_eq_getD_getElem?, Array.getElem?_append_right (by simp; omega)]
        by_cases h2 : k - vals.toArray.size < fn.ntmps - vals.toArray.size
        · rw [Array.getElem?_replicate, if_pos h2]; rfl
        · rw [Array.getElem?_replicate, if_neg h2]; rfl
      rw [e]
      exact und_ra X
  have fin : ∀ (s : St) (l : List AV) (a : AV), mapO (vres P s) fn.results.toList = some l → join l = some a → fza s.H a = some r → ∀ (Y : Cx) (act' : Act), Nxt X Y → Rel Y N s act' →
      act'.defers = [] ∧ ∃ v, (results fn act'.tmps).run P Y.w = .ok v Y.w ∧ ∃ v' I', Ending.returned v = .returned v' ∧ (∀ b, I b → I' b) ∧ (∀ b, I' b → I b ∨ w.heap.size ≤ b) ∧ (∀ b, I' b → b < Y.w.heap.size) ∧
        w.heap.size ≤ Y.w.heap.size ∧ (∀ b, b < w.heap.size → Y.w.heap[b]? = w.heap[b]?) ∧ Stl w Y.w ∧ RK I' Y.w r v' := by
    intro s l a h1 h2 h3 Y act' hN hR
    refine ⟨hR.defers, ?_⟩
    obtain ⟨vs, hrun, hra⟩ := res_run (P := P) hN.sr hN.dom hR h1
    have hj := join_sound h2 hra
    refine ⟨if h : vs.toArray.size = 1 then vs.toArray[0] else .tuple vs.toArray, ?_, _, fun b => Y.I b ∨ ∃ id, Y.D id ∧ (Y.σ id).blk = some b, rfl, fun b hb => .inl (hN.I b hb), fun b hb => ?_, fun b hb => ?_, ?_, fun b hb => ?_, ?_, ?_⟩
    · rw [results_eq, Array.mapM_eq_mapM_toList]
      simp only [Sem.run_bind, Sem.run_map]
      rw [hrun]
      rfl
    · rcases hb with hb | ⟨id, hd, hb⟩
      · exact hN.I' b hb
      · exact .inr (by have := (hN.sr.blk hN.dom id b hd hb).2; rw [hN.base] at this; exact this)
    · rcases hb with hb | ⟨id, hd, hb⟩
      · exact hN.sr.imm b hb
      · exact (hN.sr.blk hN.dom id b hd hb).1
    · have := hN.sr.size
      rw [hN.base] at this
      exact this
    · have := hN.sr.old b (by rw [hN.base]; exact hb)
      rw [this, hN.w0]
    · have := hN.sr.kp
      rw [hN.w0] at this
      exact this
    · rw [← hR.H] at h3
      exact fza_sound hN.sr (fun b hb => .inl hb) h3 hj (fun id hi hd e he hm b hb => .inr ⟨id, hd, hb⟩)
  refine calls_of_wp hf hb ?_
  split at h
  · cases h
  · rename_i ex s hne hcode
    split at h
    case h_2 => cases h
    rename_i l hl
    split at h
    case h_2 => cases h
    rename_i a ha
    refine code_sound hT c hc S M R hcode fun Y act' hN hR => ?_
    have := fin s l a hl ha h Y act' hN hR
    cases ex with
    | normal => exact this
    | exit id => exact absurd rfl (hne id)
    | ret => exact this
  · cases h

end Go.Proofs.Vm
end

section
/- Regions whose order is open: what each operation hangs on. -/
namespace Go.Proofs.Vm
open Go

variable {P : Program} {X : Cx}

def pureOp (P : Program) (o : Oper) : Bool :=
  match o.op with
  | .move x | .assign x => !isNil x
  | .pick .. | .unOp .. => true
  | .convert s d _ => !(isU8 P s || isU8 P d)
  | .extract .. | .field .. | .index .. | .makeFunc .. => true
  | .binOp _ t _ _ _ => match pv P (underlying t) with
    | some (.pointer _) => false
    | some (.slice _) => false
    | _ => true
  | .call c => match c.callee with
    | .builtin .max => true
    | .builtin .min => true
    | _ => false
  | _ => false

theorem qa_inv {a : AV} {r : AV × List Ent × List Nat} (h : qa a = some r) : r.2 = ([], []) := by cases h; rfl

theorem ofPv_inv {x : Option Value} {r : AV × List Ent × List Nat} (h : ofPv x = some r) : r.2 = ([], []) := by
  unfold ofPv one? at h
  split at h
  · split at h
    · exact qa_inv h
    · cases h
  · cases h

theorem vrd_pure {T : Tab} {nest : Bool} {H : Hp} {nid : Nat} {ρ : Operand → Option AV} {o : Oper} {r : AV × List Ent × List Nat} (hp : pureOp P o = true) (h : vrd P T nest H nid ρ o = some r) :
    r.2 = ([], []) ∧ ∀ K n, vrd P T nest K n ρ o = some r := by
  unfold pureOp at hp
  unfold vrd at h ⊢
  split at hp
  · rename_i x ho
    simp only [Bool.not_eq_true'] at hp
    simp only [ho, vmove, hp, Bool.false_eq_true, if_false] at h ⊢
    refine ⟨?_, fun _ _ => h⟩
    split at h
    · exact qa_inv h
    · cases h
  · rename_i x ho
    simp only [Bool.not_eq_true'] at hp
    simp only [ho, vmove, hp, Bool.false_eq_true, if_false] at h ⊢
    refine ⟨?_, fun _ _ => h⟩
    split at h
    · exact qa_inv h
    · cases h
  · rename_i ho
    simp only [ho] at h ⊢
    refine ⟨?_, fun _ _ => h⟩
    unfold vpick at h
    split at h
    · split at h
      · exact qa_inv h
      · cases h
    · cases h
  · rename_i ho
    simp only [ho] at h ⊢
    refine ⟨?_, fun _ _ => h⟩
    split at h
    · unfold vun at h
      split at h
      · exact ofPv_inv h
      · cases h
    · cases h
  · rename_i ho
    simp only [ho] at h ⊢
    refine ⟨?_, fun _ _ => h⟩
    split at h
    · unfold vconvert at h
      split at h
      · exact ofPv_inv h
      · cases h
    · cases h
  · rename_i ho
    simp only [ho] at h ⊢
    refine ⟨?_, fun _ _ => h⟩
    split at h
    · unfold vextract at h
      split at h
      · split at h <;> first | exact qa_inv h | cases h
      · cases h
    · cases h
  · rename_i ho
    simp only [ho] at h ⊢
    refine ⟨?_, fun _ _ => h⟩
    split at h
    · unfold vfield at h
      split at h
      · split at h
        · split at h
          · split at h
            · exact qa_inv h
            · cases h
          · cases h
        · split at h
          · exact qa_inv h
          · cases h
        · cases h
      · cases h
    · cases h
  · rename_i ho
    simp only [ho] at h ⊢
    refine ⟨?_, fun _ _ => h⟩
    split at h
    · split at h
      · exact ofPv_inv h
      · cases h
    · cases h
  · rename_i ho
    simp only [ho] at h ⊢
    refine ⟨?_, fun _ _ => h⟩
    split at h
    · unfold vmakeFunc at h
      split at h
      · split at h
        · exact qa_inv h
        · cases h
      · cases h
    · cases h
  · rename_i op t x y ty ho
    simp only [ho] at h ⊢
    split at h
    case h_2 => cases h
    rename_i a b ha hb
    have nos : ∀ {a : AV} {u : Value}, a.sc = some u → isPtr a = false := by
      intro a u h
      cases a with
      | one c => cases c <;> first | (cases h; done) | rfl | skip
                 rename_i x
                 cases x <;> first | rfl | cases h
      | agg l => rfl
      | tup l => rfl
    unfold vbin at h ⊢
    split at h
    · exfalso
      split at hp
      · cases hp
      · cases hp
      · rename_i hne
        split at h
        · rename_i e _ he
          exact hne _ he
        · rename_i e _ he
          exact hne _ he
        · cases h
    rename_i hc0
    rw [show (∀ (K : Hp) (n : Nat), (if (neSl a && isNils b) = true then _ else vbin0 P K op t x y a b) = some r) = (∀ (K : Hp) (n : Nat), vbin0 P K op t x y a b = some r) from by simp only [if_neg hc0]]
    unfold vbin0 at h ⊢
    split at h
    · exfalso
      split at hp
      · cases hp
      · cases hp
      · rename_i hne _
        split at h
        · rename_i e he
          exact hne _ he
        · rename_i e he
          exact hne _ he
        · cases h
    · split at h
      case h_2 => cases h
      rename_i u v hu hv
      refine ⟨ofPv_inv h, fun K n => ?_⟩
      rw [if_neg (by rw [nos hu, nos hv]; simp)]
      exact h
  · rename_i c ho
    simp only [ho] at h ⊢
    split at hp
    · rename_i hc
      simp only [hc] at h ⊢
      refine ⟨?_, fun _ _ => h⟩
      split at h
      · split at h
        · exact ofPv_inv h
        · cases h
      · cases h
    · rename_i hc
      simp only [hc] at h ⊢
      refine ⟨?_, fun _ _ => h⟩
      split at h
      · split at h
        · exact ofPv_inv h
        · cases h
      · cases h
    · cases hp
  · cases hp

theorem mapO_eq {α β : Type} {f g : α → Option β} : ∀ {l : List α}, (∀ x ∈ l, f x = g x) → mapO f l = mapO g l
  | [], _ => rfl
  | x :: r, h => by
    simp only [mapO]
    rw [h x (by simp), mapO_eq fun y hy => h y (by simp [hy])]

theorem partsOf_eq {ρ ρ' : Operand → Option AV} : ∀ {l : List (Nat × Operand)}, (∀ p ∈ l, ρ p.2 = ρ' p.2) → partsOf ρ l = partsOf ρ' l
  | [], _ => rfl
  | (i, x) :: r, h => by
    simp only [partsOf]
    rw [h (i, x) (by simp), partsOf_eq fun y hy => h y (by simp [hy])]

theorem optOp_eq {ρ ρ' : Operand → Option AV} {x : Option Operand} (h : ∀ y, x = some y → ρ y = ρ' y) : optOp ρ x = optOp ρ' x := by
  cases x with
  | none => rfl
  | some x => simp only [optOp, h x rfl]

theorem vrd_eq {T : Tab} {nest : Bool} {H : Hp} {nid : Nat} {ρ ρ' : Operand → Option AV} {o : Oper} (h : ∀ x ∈ o.op.operands, ρ x = ρ' x) : vrd P T nest H nid ρ o = vrd P T nest H nid ρ' o := by
  unfold vrd
  cases ho : o.op <;> simp only [ho, Op.operands] at h ⊢
  case move x => simp only [vmove]; rw [h x (by simp)]
  case assign x => simp only [vmove]; rw [h x (by simp)]
  case pick c a b => simp only [vpick]; rw [h c (by simp), h a (by simp), h b (by simp)]
  case box t x => rw [h x (by simp)]
  case build t ps =>
    simp only [vbuild]
    rw [partsOf_eq fun p hp => h p.2 (by simp; exact ⟨p.1, by simpa using hp⟩)]
  case buildSlice t n ps =>
    simp only [vbuildSlice, vbuildSlice1]
    rw [partsOf_eq fun p hp => h p.2 (by simp; exact ⟨p.1, by simpa using hp⟩)]
  case load t x => rw [h x (by simp)]
  case nilCheck x => rw [h x (by simp)]
  case binOp op t x y ty => rw [h x (by simp), h y (by simp)]
  case unOp op t x => rw [h x (by simp)]
  case convert s d x => rw [h x (by simp)]
  case makeFunc fn first caps => rw [mapO_eq fun x hx => h x (by simp at hx ⊢; exact .inr hx)]
  case makeSlice t l c => rw [h l (by simp), h c (by simp)]
  case slice t x lo hi mx =>
    rw [h x (by simp), optOp_eq fun y hy => h y (by simp [hy]), optOp_eq (x := hi) fun y hy => h y (by simp [hy]), optOp_eq (x := mx) fun y hy => h y (by simp [hy])]
  case fieldAddr s x f => rw [h x (by simp)]
  case field s x f => rw [h x (by simp)]
  case indexAddr t x i => rw [h x (by simp), h i (by simp)]
  case index t x i => rw [h x (by simp), h i (by simp)]
  case extract x i => rw [h x (by simp)]
  case lookup t x i cok => rw [h x (by simp), h i (by simp)]
  case call c =>
    simp only [Call.operands] at h
    cases hc : c.callee with
    | value f =>
      simp only [hc] at h ⊢
      rw [h f (by simp), mapO_eq fun x hx => h x (by simp at hx ⊢; exact .inr hx)]
    | invoke r m => rfl
    | builtin b =>
      cases b <;> try rfl
      · simp only [hc] at h ⊢
        split
        · rename_i x hx
          rw [h x (by
            have : x ∈ c.args.toList := by rw [hx]; simp
            simpa using this)]
        · rfl
      · simp only [hc] at h ⊢
        rw [mapO_eq fun x hx => h x (by simpa using hx)]
      · simp only [hc] at h ⊢
        rw [mapO_eq fun x hx => h x (by simpa using hx)]

theorem vwr_eq {T : Tab} {N : Fx} {H : Hp} {ρ ρ' : Operand → Option AV} {o : Oper} (h : ∀ x ∈ o.op.operands, ρ x = ρ' x) : vwr P T N H ρ o = vwr P T N H ρ' o := by
  unfold vwr
  cases ho : o.op <;> simp only [ho, Op.operands] at h ⊢
  case store t a x => rw [h a (by simp), h x (by simp)]
  case makeMap t rv => cases rv <;> rfl
  case mapUpdate t m k x => rw [h m (by simp), h k (by simp), h x (by simp)]
  case mapEntry t m k => rw [h m (by simp), h k (by simp)]
  case entryStore t m k x => rw [h m (by simp), h k (by simp), h x (by simp)]
  case convert s d x => rw [h x (by simp)]
  case call c =>
    simp only [Call.operands] at h
    split
    · rename_i s x t tx hc ha ht
      have m1 : s ∈ c.args := by
        have : s ∈ c.args.toList := by rw [ha]; simp
        simpa using this
      have m2 : x ∈ c.args := by
        have : x ∈ c.args.toList := by rw [ha]; simp
        simpa using this
      rw [h s (by simp [hc, m1]), h x (by simp [hc, m2])]
    · rename_i s x t tx hc ha ht
      have m1 : s ∈ c.args := by
        have : s ∈ c.args.toList := by rw [ha]; simp
        simpa using this
      have m2 : x ∈ c.args := by
        have : x ∈ c.args.toList := by rw [ha]; simp
        simpa using this
      rw [h s (by simp [hc, m1]), h x (by simp [hc, m2])]
    · rename_i s x t tx hc ha ht
      have m1 : s ∈ c.args := by
        have : s ∈ c.args.toList := by rw [ha]; simp
        simpa using this
      have m2 : x ∈ c.args := by
        have : x ∈ c.args.toList := by rw [ha]; simp
        simpa using this
      rw [h s (by simp [hc, m1]), h x (by simp [hc, m2])]
    · rename_i g hc
      rw [mapO_eq fun x hx => h x (by simp [hc]; exact .inr (by simpa using hx))]
    · rfl

theorem wantV_eq {env env' : Nat → AV} {ops : Array Oper} {o : Oper} (h : ∀ t, t ∈ o.looksAt ops → env t = env' t) : wantV env ops o = wantV env' ops o := by
  unfold wantV
  cases hg : o.guard with
  | none => rfl
  | some p =>
    obtain ⟨j, want⟩ := p
    dsimp only
    cases hd : (ops[j]?).bind (·.dst) with
    | none => rfl
    | some d =>
      dsimp only
      rw [h d (by simp [Oper.looksAt, hg, hd])]

theorem evo_eq {env env' : Nat → AV} {ops : Array Oper} {o : Oper} (h : ∀ t, t ∈ o.looksAt ops → env t = env' t) (x : Operand) (hx : x ∈ o.op.operands) : evo env x = evo env' x := by
  cases x with
  | tmp t =>
    simp only [evo]
    rw [h t]
    simp only [Oper.looksAt, List.mem_append, List.mem_filterMap]
    exact .inl ⟨.tmp t, by simpa using hx, rfl⟩
  | const v => cases v <;> rfl
  | global g => rfl
  | func f => rfl

end Go.Proofs.Vm
end

section
/- Regions whose order is open: whatever the order, the value machine's answer is the machine's. -/
namespace Go.Proofs.Vm
open Go

variable {P : Program}

theorem frz_frz (e : Ent) : e.frz.frz = e.frz := by cases e <;> rfl

open Classical in
/-- A heap that has grown, and of which more is given up. -/
theorem sub_nxt {X : Cx} (S : SR X) (M : Dom X) (_hd : ∀ id, X.D id → id < X.H.length) {K : Hp} (U : Sub X.H K) : ∃ Y, Nxt X Y ∧ Y.H = K ∧ Y.D = X.D ∧ Y.w = X.w := by
  let ms : List Nat := (List.range X.H.length).filter fun id => decide ((K[id]?) = (X.H[id]?).map Ent.frz)
  let L : Hp := X.H ++ K.drop X.H.length
  have hlen : X.H.length ≤ K.length := by
    rcases Nat.lt_or_ge K.length X.H.length with h | h
    · obtain ⟨e', he, _⟩ := U K.length _ (List.getElem?_eq_getElem h)
      rw [List.getElem?_eq_none (Nat.le_refl _)] at he
      cases he
    · exact h
  have hL : ∀ (id : Nat) e, X.H[id]? = some e → L[id]? = some e := fun id e he => by
    show (X.H ++ _)[id]? = _
    rw [List.getElem?_append_left (List.getElem?_eq_some_iff.1 he).1]
    exact he
  have N1 := longer_nxt S M hL
  have F := frozeOf_is (longer X L) ms
  have N2 := F.nxt N1.sr N1.dom
  refine ⟨frozeOf (longer X L) ms, N1.trans N2, ?_, rfl, rfl⟩
  show frzAll L ms = K
  apply List.ext_getElem?
  intro id
  rw [frzAll_get]
  by_cases hid : id < X.H.length
  · have hx := List.getElem?_eq_getElem hid
    obtain ⟨e', h1, h2⟩ := U id _ hx
    have hLid := hL id _ hx
    by_cases hm : id ∈ ms
    · rw [if_pos hm, hLid]
      have := (List.mem_filter.1 hm).2
      rw [decide_eq_true_eq, hx] at this
      exact this.symm
    · rw [if_neg hm, hLid, h1]
      rcases h2 with rfl | rfl
      · rfl
      · exact absurd (List.mem_filter.2 ⟨List.mem_range.2 hid, by rw [decide_eq_true_eq, h1, hx]; rfl⟩) hm
  · have hm : id ∉ ms := fun h => hid (List.mem_range.1 (List.mem_filter.1 h).1)
    rw [if_neg hm]
    show (X.H ++ K.drop X.H.length)[id]? = _
    rw [List.getElem?_append_right (by omega), List.getElem?_drop]
    congr 1
    omega

/-- It looks at memory, and makes nothing. -/
def plainRd (o : Oper) : Bool :=
  match o.op with
  | .load .. => true
  | .indexAddr .. => true
  | .fieldAddr .. => true
  | _ => false
theorem vrd_plain {T : Tab} {nest : Bool} {H : Hp} {nid : Nat} {ρ : Operand → Option AV} {o : Oper} {r : AV × List Ent × List Nat} (hp : plainRd o = true) (h : vrd P T nest H nid ρ o = some r) : r.2 = ([], []) := by
  unfold plainRd at hp
  unfold vrd at h
  split at hp
  · rename_i ho
    simp only [ho] at h
    split at h
    · unfold vload at h
      split at h
      · split at h
        · split at h
          · split at h
            · exact qa_inv h
            · cases h
          · cases h
        · split at h
          · exact qa_inv h
          · cases h
        · cases h
      · cases h
    · cases h
  · rename_i ho
    simp only [ho] at h
    split at h
    · unfold vindexAddr at h
      revert h
      repeat' split
      all_goals (intro h; first | exact qa_inv h | cases h)
    · cases h
  · rename_i ho
    simp only [ho] at h
    split at h
    · unfold vfieldAddr shift at h
      revert h
      repeat' split
      all_goals (intro h; first | exact qa_inv h | cases h)
    · cases h
  · cases hp

/-- It writes nothing that was there when an operation ahead of it was done. -/
def softW (P : Program) (ops : Array Oper) (o : Oper) (i j : Nat) : Bool :=
  match o.op with
  | .call c => match c.callee with
    | .value (.func g) => isCl P g
    | _ => false
  | .convert .. => true
  | .store _ (.tmp t) _ => (List.range i).any fun a => decide (j < a) && match ops[a]? with
    | some q => (q.dst == some t) && (match q.op with | .alloc _ => true | _ => false)
    | none => false
  | _ => false

theorem vstore_sub {nest : Bool} {H K : Hp} {t : TypeId} {p : Pt} {x : AV} (h : vstore P nest H t (.one (.ptr p)) x = some K) {id : Nat} (hid : id ≠ p.id) {e : Ent} (he : H[id]? = some e) : ∃ e', K[id]? = some e' ∧ Le e e' := by
  unfold vstore at h
  split at h
  case h_2 => cases h
  rename_i p' cs hp hcs
  cases hp
  split at h
  · split at h
    case isFalse => cases h
    split at h
    case h_2 => cases h
    split at h
    case isFalse => cases h
    cases h
    exact ⟨e, by rw [set_get hid]; exact he, .inl rfl⟩
  · split at h
    case isFalse => cases h
    split at h
    · split at h
      case h_2 => cases h
      split at h
      case isFalse => cases h
      cases h
      exact ⟨e, by rw [set_get hid]; exact he, .inl rfl⟩
    · split at h
      case h_2 => cases h
      dsimp only at h
      split at h
      case isFalse => cases h
      cases h
      rename_i h3
      by_cases hm : id ∈ (cs.map (rch 5 H)).flatten
      · exact ⟨e.frz, by rw [set_get hid, frzAll_get, if_pos hm, he]; rfl, .inr rfl⟩
      · exact ⟨e, by rw [set_get hid, frzAll_get, if_neg hm, he], .inl rfl⟩
  · cases h

/-- What is looked up of a region whose order is open. -/
structure OpenC (P : Program) (N : Fx) (ops : Array Oper) (B : Nat → Nat → Prop) : Prop where
  edge : ∀ (i : Nat) o e, ops[i]? = some o → e ∈ o.after → Region.binds .any e = true → e.on < i
  bef : ∀ (i : Nat) o j, ops[i]? = some o → B i j → ∃ e ∈ o.after, Region.binds .any e = true ∧ (e.on = j ∨ B e.on j)
  dst : ∀ (i j : Nat) o q d, ops[i]? = some o → ops[j]? = some q → o.dst = some d → q.dst = some d → i = j
  reads : ∀ (i j : Nat) o q t, ops[i]? = some o → ops[j]? = some q → t ∈ o.looksAt ops → q.dst = some t → (j < i ∧ B i j) ∨ (i < j ∧ B j i)
  wr : ∀ (i j : Nat) o q, ops[i]? = some o → ops[j]? = some q → isWr P N o = true → pureOp P q = false → (j < i → B i j ∨ isWr P N q = false ∧ plainRd q = true ∧ softW P ops o i j = true) ∧ (i < j → B j i)
  sel : True

/-- The states of the run in the text's order. -/
inductive Trail (P : Program) (T : Tab) (N : Fx) (ops : Array Oper) : Nat → (Nat → St) → Prop
  | mk (k : Nat) (s : Nat → St) (h : ∀ i, i < k → ∃ o, ops[i]? = some o ∧ stepV P T N ops o (s i) = some (s (i + 1))) : Trail P T N ops k s

theorem trail_of {T : Tab} {N : Fx} {ops : Array Oper} : ∀ (os : List Oper) (k : Nat) (s s' : St), runV P T N ops os s = some s' → (∀ j o, os[j]? = some o → ops[k + j]? = some o) →
    ∃ f : Nat → St, f k = s ∧ f (k + os.length) = s' ∧ ∀ i, k ≤ i → i < k + os.length → ∃ o, ops[i]? = some o ∧ stepV P T N ops o (f i) = some (f (i + 1))
  | [], k, s, s', h, _ => by
    cases h
    exact ⟨fun _ => s, rfl, rfl, fun i h1 h2 => by simp at h2; omega⟩
  | o :: r, k, s, s', h, ho => by
    simp only [runV] at h
    split at h
    case h_2 => cases h
    rename_i s1 h1
    obtain ⟨f, f1, f2, f3⟩ := trail_of r (k + 1) s1 s' h (fun j o hj => by
      have := ho (j + 1) o (by simpa using hj)
      rwa [show k + (j + 1) = k + 1 + j by omega] at this)
    refine ⟨fun i => if i = k then s else f i, by simp, ?_, fun i h1' h2 => ?_⟩
    · have : k + (o :: r).length ≠ k := by simp
      simp only [this, if_false]
      rw [← f2]
      congr 1
      simp
      omega
    · by_cases hi : i = k
      · subst hi
        refine ⟨o, by simpa using ho 0 o rfl, ?_⟩
        have : i + 1 ≠ i := by omega
        simp only [if_true, this, if_false, f1]
        exact h1
      · have h4 : i + 1 ≠ k := by omega
        simp only [hi, h4, if_false]
        exact f3 i (by omega) (by simp at h2; omega)

section
variable {T : Tab} (hT : TOk P T) {N : Fx} {ops : Array Oper} {B : Nat → Nat → Prop} (C : OpenC P N ops B) {s : Nat → St}
  (hs : ∀ i, i < ops.size → ∃ o, ops[i]? = some o ∧ stepV P T N ops o (s i) = some (s (i + 1)))
include C hs

omit C in
theorem step_env {i : Nat} {o : Oper} (hi : ops[i]? = some o) {t : Nat} (ht : o.dst ≠ some t) : (s (i + 1)).env t = (s i).env t := by
  have hlt := (Array.getElem?_eq_some_iff.1 hi).1
  obtain ⟨o', ho', h⟩ := hs i hlt
  rw [hi] at ho'
  cases ho'
  have put : ∀ {s0 s1 : St} {a : AV}, putV N s0 o.dst a = some s1 → s1.env t = s0.env t := by
    intro s0 s1 a h
    unfold putV at h
    split at h
    · cases h; rfl
    · rename_i d hd
      split at h
      case isFalse => cases h
      cases h
      simp only [upd]
      rw [if_neg (fun e => ht (by rw [hd, e]))]
  unfold stepV at h
  split at h
  · exact put h
  · split at h
    · split at h
      · have := put h; exact this
      · cases h
    · split at h
      · have := put h; exact this
      · cases h
  · cases h

omit C in
/-- A slot that is written by one operation at most. -/
theorem env_of {t : Nat} {a b : Nat} (hab : a ≤ b) (hb : b ≤ ops.size) (h : ∀ i o, a ≤ i → i < b → ops[i]? = some o → o.dst ≠ some t) : (s b).env t = (s a).env t := by
  induction b with
  | zero => have : a = 0 := by omega
            rw [this]
  | succ b ih =>
    by_cases hab' : a = b + 1
    · rw [hab']
    · obtain ⟨o, ho, _⟩ := hs b (by omega)
      rw [step_env hs ho (h b o (by omega) (by omega) ho)]
      exact ih (by omega) (by omega) fun i o h1 h2 => h i o h1 (by omega)

omit C in
/-- An operation that does not write: the heap grows. -/
theorem step_sub {i : Nat} {o : Oper} (hi : ops[i]? = some o) (hw : isWr P N o = false) : Sub (s i).H (s (i + 1)).H := by
  have hlt := (Array.getElem?_eq_some_iff.1 hi).1
  obtain ⟨o', ho', h⟩ := hs i hlt
  rw [hi] at ho'
  cases ho'
  have put : ∀ {s0 s1 : St} {a : AV}, putV N s0 o.dst a = some s1 → s1.H = s0.H := by
    intro s0 s1 a h
    unfold putV at h
    split at h
    · cases h; rfl
    · split at h
      · cases h; rfl
      · cases h
  unfold stepV at h
  split at h
  · rw [put h]; exact fun id e he => ⟨e, he, .inl rfl⟩
  · rw [hw] at h
    simp only [Bool.false_eq_true, if_false] at h
    split at h
    case h_2 => cases h
    rw [put h]
    exact (sub_append _ _).trans (sub_frz _ _)
  · cases h

omit C in
theorem subs {a b : Nat} (hab : a ≤ b) (hb : b ≤ ops.size) (h : ∀ i o, a ≤ i → i < b → ops[i]? = some o → isWr P N o = false) : Sub (s a).H (s b).H := by
  induction b with
  | zero => have : a = 0 := by omega
            rw [this]
            exact fun id e he => ⟨e, he, .inl rfl⟩
  | succ b ih =>
    by_cases hab' : a = b + 1
    · rw [hab']
      exact fun id e he => ⟨e, he, .inl rfl⟩
    · obtain ⟨o, ho, _⟩ := hs b (by omega)
      exact (ih (by omega) (by omega) fun i o h1 h2 => h i o h1 (by omega)).trans (step_sub hs ho (h b o (by omega) (by omega) ho))

/-- A list of operations that are done: with each all that goes before it. -/
def Down (ops : Array Oper) (L : Nat → Prop) : Prop := ∀ (i : Nat) o e, L i → ops[i]? = some o → e ∈ o.after → Region.binds .any e = true → L e.on

omit hs in
theorem down_bef {L : Nat → Prop} (hL : Down ops L) : ∀ (n i : Nat), i < n → ∀ o, ops[i]? = some o → (∀ e ∈ o.after, Region.binds .any e = true → L e.on) → ∀ j, B i j → L j := by
  intro n
  induction n with
  | zero => intro i hi; omega
  | succ n ih =>
    intro i hi o ho hready j hj
    obtain ⟨e, he, hb, h⟩ := C.bef i o j ho hj
    have hle := hready e he hb
    rcases h with rfl | h
    · exact hle
    · have hlt := C.edge i o e ho he hb
      have hsz := (Array.getElem?_eq_some_iff.1 ho).1
      have hq : ops[e.on]? = some (ops[e.on]'(by omega)) := Array.getElem?_eq_getElem (by omega)
      exact ih e.on (by omega) _ hq (fun e' he' hb' => hL e.on _ e' hle hq he' hb') j h

end

end Go.Proofs.Vm
end

section
/- Regions whose order is open: the theorem. -/
namespace Go.Proofs.Vm
open Go

variable {P : Program}

theorem wr_not_pure {N : Fx} {o : Oper} (h : isWr P N o = true) : pureOp P o = false := by
  unfold isWr at h
  unfold pureOp
  split at h
  · rename_i ho
    rw [ho]
  · rename_i ho
    rw [ho]
  · rename_i ho
    rw [ho]
  · rename_i ho
    rw [ho]
  · rename_i ho
    rw [ho]
  · rename_i ho
    rw [ho]
    simp [h]
  · rename_i c ho
    rw [ho]
    split at h
    · rename_i hc
      simp only [hc]
    · rename_i hc
      simp only [hc]
    · rename_i hc
      simp only [hc]
    · rename_i hc
      simp only [hc]
    · cases h
  · cases h

theorem set_len {H : Hp} {id : Nat} {e : Ent} : H.length ≤ (H.set id e).length := by simp
theorem vmapUpdate_len {H L : Hp} {t : TypeId} {a b c r : AV} (h : vmapUpdate P H t a b c = some (r, L)) : H.length ≤ L.length := by
  unfold vmapUpdate at h
  split at h
  · split at h
    · split at h
      · cases h; simp
      · cases h
    · cases h
  · cases h
theorem vmapEntry_len {H L : Hp} {t : TypeId} {a b r : AV} (h : vmapEntry P H t a b = some (r, L)) : H.length ≤ L.length := by
  unfold vmapEntry at h
  split at h
  · split at h
    · split at h
      · split at h
        · cases h; simp
        · cases h
      · cases h
    · cases h
  · cases h
theorem ventryStore_len {H L : Hp} {a b c r : AV} (h : ventryStore H a b c = some (r, L)) : H.length ≤ L.length := by
  unfold ventryStore at h
  split at h
  · split at h
    · cases h; simp
    · cases h
  · cases h
theorem vdelete_len {H L : Hp} {t : TypeId} {a b r : AV} (h : vdelete P H t a b = some (r, L)) : H.length ≤ L.length := by
  unfold vdelete at h
  split at h
  · split at h
    · split at h
      · cases h; simp
      · cases h; simp
      · cases h
    · cases h
  · cases h
theorem vconvW_len {H L : Hp} {s d : TypeId} {a r : AV} (h : vconvW P H s d a = some (r, L)) : H.length ≤ L.length := by
  unfold vconvW at h
  split at h
  · split at h
    · split at h
      · cases h
      · cases h; simp
    · cases h
  · split at h
    · split at h
      · split at h
        · cases h; simp
        · cases h
      · cases h
    · cases h
theorem vwr_len {T : Tab} {N : Fx} (hT : TOk P T) {H : Hp} {ρ : Operand → Option AV} {o : Oper} {a : AV} {L : Hp} (hv : vwr P T N H ρ o = some (a, L)) : H.length ≤ L.length := by
  unfold vwr at hv
  split at hv
  · split at hv
    case h_2 => cases hv
    obtain ⟨H', hst, he⟩ := Option.map_eq_some_iff.1 hv
    cases he
    exact Nat.le_of_eq (vstore_len hst).symm
  · cases hv; simp
  · split at hv
    case h_2 => cases hv
    exact vmapUpdate_len hv
  · split at hv
    case h_2 => cases hv
    exact vmapEntry_len hv
  · split at hv
    case h_2 => cases hv
    exact ventryStore_len hv
  · split at hv
    case h_2 => cases hv
    exact vconvW_len hv
  · split at hv
    · split at hv
      case h_2 => cases hv
      exact Nat.le_of_eq (vappend_len hv).symm
    · split at hv
      case h_2 => cases hv
      exact vdelete_len hv
    · split at hv
      case h_2 => cases hv
      exact Nat.le_of_eq (vcopy_len hv).symm
    · split at hv
      case isFalse => cases hv
      split at hv
      case h_2 => cases hv
      exact (hT.2 _ _ _ _ _ hv).1.1
    · cases hv
  · cases hv

theorem cellsAt_lt {H : Hp} {p : Pt} {cs : List Cell} (h : cellsAt H p = some cs) : p.id < H.length := by
  unfold cellsAt at h
  split at h
  · rename_i he
    exact (List.getElem?_eq_some_iff.1 he).1
  · rename_i he
    exact (List.getElem?_eq_some_iff.1 he).1
  · cases h

theorem rch_lt {H : Hp} : ∀ (n : Nat) {c : Cell} {x : CV}, fzc n H c = some x → ∀ id, id ∈ rch n H c → id < H.length := by
  intro n
  induction n with
  | zero => intro c x h; cases h
  | succ n ih =>
    have hptr : ∀ {p : Pt} {x : CV}, fzc (n + 1) H (.ptr p) = some x → ∀ id, id ∈ rch (n + 1) H (.ptr p) → id < H.length := by
      intro p x h id hid
      simp only [fzc, rch] at h hid
      split at h
      case h_2 => cases h
      rename_i cs hcs
      obtain ⟨xs, hxs, rfl⟩ := Option.map_eq_some_iff.1 h
      simp only [hcs] at hid
      rcases List.mem_cons.1 hid with rfl | hid
      · exact cellsAt_lt hcs
      · obtain ⟨l, hl, hid⟩ := List.mem_flatten.1 hid
        obtain ⟨c, hc, rfl⟩ := List.mem_map.1 hl
        obtain ⟨j, hj⟩ := List.getElem?_of_mem hc
        obtain ⟨y, _, hy⟩ := (mapO_spec hxs).2 j c hj
        exact ih hy id hid
    intro c x h id hid
    cases c with
    | c y => simp [rch] at hid
    | sl i o m tot =>
      simp only [fzc, rch] at h hid
      split at h
      · rename_i l f he
        have hlt := (List.getElem?_eq_some_iff.1 he).1
        rw [he] at hid
        rcases List.mem_cons.1 hid with rfl | hid
        · exact hlt
        · cases hid
      · rename_i l f he
        have hlt := (List.getElem?_eq_some_iff.1 he).1
        rw [he] at hid
        dsimp only at hid
        split at h
        case isFalse => cases h
        obtain ⟨xs, hxs, rfl⟩ := Option.map_eq_some_iff.1 h
        rcases List.mem_cons.1 hid with rfl | hid
        · exact hlt
        · obtain ⟨l1, hl1, hid⟩ := List.mem_flatten.1 hid
          obtain ⟨e, he, rfl⟩ := List.mem_map.1 hl1
          obtain ⟨l2, hl2, hid⟩ := List.mem_flatten.1 hid
          obtain ⟨c, hc, rfl⟩ := List.mem_map.1 hl2
          obtain ⟨j, hj⟩ := List.getElem?_of_mem he
          obtain ⟨y, _, hy⟩ := (mapO_spec hxs).2 j e hj
          obtain ⟨k, hk⟩ := List.getElem?_of_mem hc
          obtain ⟨z, _, hz⟩ := (mapO_spec hy).2 k c hk
          exact ih hz id hid
      · cases h
    | ptr p => exact hptr h id hid
    | fn f caps =>
      simp only [fzc, rch] at h hid
      obtain ⟨xs, hxs, rfl⟩ := Option.map_eq_some_iff.1 h
      obtain ⟨l, hl, hid⟩ := List.mem_flatten.1 hid
      obtain ⟨c, hc, rfl⟩ := List.mem_map.1 hl
      obtain ⟨j, hj⟩ := List.getElem?_of_mem hc
      obtain ⟨y, _, hy⟩ := (mapO_spec hxs).2 j c hj
      cases c with
      | inl z => cases hid
      | inr p => exact ih hy id hid
    | mp i => simp [rch] at hid

theorem rchl_lt {H : Hp} {l : List Cell} {xs : List CV} (h : mapO (fzc 5 H) l = some xs) {id : Nat} (hid : id ∈ (l.map (rch 5 H)).flatten) : id < H.length := by
  obtain ⟨m, hm, hid⟩ := List.mem_flatten.1 hid
  obtain ⟨c, hc, rfl⟩ := List.mem_map.1 hm
  obtain ⟨j, hj⟩ := List.getElem?_of_mem hc
  obtain ⟨y, _, hy⟩ := (mapO_spec h).2 j c hj
  exact rch_lt 5 hy id hid

theorem rcha_lt {H : Hp} {a : AV} {k : CA} (h : fza H a = some k) {id : Nat} (hid : id ∈ rcha H a) : id < H.length := by
  cases a with
  | one c =>
    obtain ⟨x, hx, rfl⟩ := Option.map_eq_some_iff.1 h
    exact rch_lt 5 hx id hid
  | agg l =>
    obtain ⟨x, hx, rfl⟩ := Option.map_eq_some_iff.1 h
    exact rchl_lt hx hid
  | tup l =>
    obtain ⟨x, hx, rfl⟩ := Option.map_eq_some_iff.1 h
    obtain ⟨m, hm, hid⟩ := List.mem_flatten.1 hid
    obtain ⟨p, hp, rfl⟩ := List.mem_map.1 hm
    obtain ⟨j, hj⟩ := List.getElem?_of_mem hp
    obtain ⟨y, _, hy⟩ := (mapO_spec hx).2 j p hj
    obtain ⟨z, hz, rfl⟩ := Option.map_eq_some_iff.1 hy
    exact rchl_lt hz hid

theorem parts_lt {H : Hp} : ∀ {ps : List (Nat × List Cell)} {qs : List (Nat × List CV)}, fzParts H ps = some qs → ∀ id, id ∈ rchParts H ps → id < H.length := by
  intro ps
  induction ps with
  | nil => intro qs _ id hid; simp [rchParts] at hid
  | cons p r ih =>
    intro qs h id hid
    obtain ⟨i, cs⟩ := p
    rw [fzParts_cons] at h
    rw [rchParts_cons] at hid
    split at h
    case h_2 => cases h
    rename_i x l hx hl
    rcases List.mem_append.1 hid with hid | hid
    · exact rchl_lt hx hid
    · exact ih hl id hid

/-- What is given up was there. -/
theorem given_mem {T : Tab} {nest : Bool} {H : Hp} {nid : Nat} {ρ : Operand → Option AV} {o : Oper} {a : AV} {news : List Ent} {ms : List Nat} (h : vrd P T nest H nid ρ o = some (a, news, ms)) {id : Nat} (hid : id ∈ ms) : id < H.length := by
  have nil : ∀ {r : RR}, r = some (a, news, ms) → (∀ q, r = some q → q.2.2 = []) → False := by
    intro r hr hq
    have := hq _ hr
    dsimp only at this
    rw [this] at hid
    cases hid
  unfold vrd at h
  split at h
  case h_7 =>
    unfold vbuildSlice at h
    split at h
    · split at h
      case h_2 => cases h
      split at h
      case h_2 => cases h
      cases h
      cases hid
    unfold vbuildSlice1 at h
    split at h
    case h_2 => cases h
    split at h
    case h_2 => cases h
    rename_i i z qs hi hz hqs
    split at h
    case isFalse => cases h
    cases h
    exact parts_lt hqs id hid
  case h_21 =>
    split at h
    · exact (nil h (by
        intro q hq
        split at hq
        case h_2 => cases hq
        split at hq
        case h_2 => cases hq
        unfold vlen at hq
        split at hq
        case h_2 => cases hq
        split at hq
        · split at hq
          · split at hq
            · exact congrArg Prod.snd (ofPv_inv (x := some _) hq)
            · cases hq
          · cases hq
        · split at hq
          · exact congrArg Prod.snd (ofPv_inv (x := some _) hq)
          · cases hq
        · split at hq
          · split at hq
            · exact congrArg Prod.snd (ofPv_inv (x := some _) hq)
            · cases hq
          · cases hq
        · split at hq
          · exact congrArg Prod.snd (ofPv_inv hq)
          · cases hq)).elim
    · exact (nil h (by
        intro q hq
        split at hq
        case h_2 => cases hq
        split at hq
        case h_2 => cases hq
        exact congrArg Prod.snd (ofPv_inv hq))).elim
    · exact (nil h (by
        intro q hq
        split at hq
        case h_2 => cases hq
        split at hq
        case h_2 => cases hq
        exact congrArg Prod.snd (ofPv_inv hq))).elim
    · split at h
      case h_2 => cases h
      rename_i fv args hf ha
      unfold vcall at h
      split at h
      case h_2 => cases h
      rename_i g cs ks hcal hks
      split at h
      case h_2 => cases h
      rename_i r hr
      cases h
      split at hid
      · cases hid
      · rcases List.mem_append.1 hid with hid | hid
        · unfold calleeOf at hcal
          split at hcal
          · split at hcal
            case h_2 => cases hcal
            rename_i hfz
            exact rch_lt 5 hfz id hid
          · simp [rcha, rch] at hid
          · cases hcal
        · obtain ⟨l, hl, hid⟩ := List.mem_flatten.1 hid
          obtain ⟨a, haa, rfl⟩ := List.mem_map.1 hl
          obtain ⟨j, hj⟩ := List.getElem?_of_mem haa
          obtain ⟨y, _, hy⟩ := (mapO_spec hks).2 j a hj
          exact rcha_lt hy hid
    · cases h
  case h_22 => exact (nil h (by
    intro q hq
    split at hq
    case h_2 => cases hq
    unfold vlookup at hq
    split at hq
    case h_2 => cases hq
    split at hq
    case isFalse => cases hq
    split at hq
    · split at hq
      · exact congrArg Prod.snd (qa_inv hq)
      · cases hq
    · exact congrArg Prod.snd (qa_inv hq)
    · cases hq)).elim
  all_goals (exact (nil h (by
    intro q hq
    revert hq
    try simp only [vmove, vpick, valloc, vbox, vbuild, vload, vnil, vbin, vbin0, vun, vconvert, vmakeFunc, vmakeSlice, vslice, vfieldAddr, shift, vfield, vindexAddr, vextract, qa, ofPv, one?]
    repeat' split
    all_goals (intro hq; first | (cases hq; rfl) | cases hq))).elim)

section
variable {T : Tab} (hT : TOk P T) {N : Fx} {ops : Array Oper} {B : Nat → Nat → Prop} (C : OpenC P N ops B) {s : Nat → St}
  (hs : ∀ i, i < ops.size → ∃ o, ops[i]? = some o ∧ stepV P T N ops o (s i) = some (s (i + 1)))

def Done (ops : Array Oper) (L : Nat → Prop) (t : Nat) : Prop := ∃ i o, L i ∧ ops[i]? = some o ∧ o.dst = some t

open Classical in
noncomputable def envL (ops : Array Oper) (s : Nat → St) (L : Nat → Prop) (t : Nat) : AV := if Done ops L t then (s ops.size).env t else (s 0).env t

structure Inv (P : Program) (N : Fx) (ops : Array Oper) (s : Nat → St) (L : Nat → Prop) (m : Nat) (X : Cx) (act : Act) : Prop where
  le : m ≤ ops.size
  pre : ∀ (i : Nat) o, i < m → ops[i]? = some o → isWr P N o = true → L i
  at_ : m < ops.size → (∃ o, ops[m]? = some o ∧ isWr P N o = true) ∧ ¬ L m
  down : Down ops L
  lt : ∀ i, L i → i < ops.size
  H : X.H = (s m).H
  D : ∀ id, X.D id ↔ id < (s 0).H.length ∨ ∃ i, L i ∧ (s i).H.length ≤ id ∧ id < (s (i + 1)).H.length
  size : act.tmps.size = N.N
  defers : act.defers = []
  env : ∀ t, RA X (envL ops s L t) (act.tmps.getD t undef)

include C hs

omit C in
theorem step_cases {i : Nat} {o : Oper} (hi : ops[i]? = some o) :
    (wantV (s i).env ops o = some false ∧ putV N (s i) o.dst und = some (s (i + 1))) ∨
    (wantV (s i).env ops o = some true ∧ isWr P N o = true ∧ ∃ a L, vwr P T N (s i).H (evo (s i).env) o = some (a, L) ∧ putV N { s i with H := L } o.dst a = some (s (i + 1))) ∨
    (wantV (s i).env ops o = some true ∧ isWr P N o = false ∧ ∃ a news ms, vrd P T N.nest (s i).H (s i).H.length (evo (s i).env) o = some (a, news, ms) ∧ putV N { s i with H := frzAll ((s i).H ++ news) ms } o.dst a = some (s (i + 1))) := by
  obtain ⟨o', ho', h⟩ := hs i (Array.getElem?_eq_some_iff.1 hi).1
  rw [hi] at ho'
  cases ho'
  unfold stepV at h
  split at h
  · rename_i hw
    exact .inl ⟨hw, h⟩
  · rename_i hw
    split at h
    · rename_i hwr
      split at h
      · rename_i a L hv
        exact .inr (.inl ⟨hw, hwr, a, L, hv, h⟩)
      · cases h
    · rename_i hwr
      split at h
      · rename_i a news ms hv
        exact .inr (.inr ⟨hw, by simpa using hwr, a, news, ms, hv, h⟩)
      · cases h
  · cases h

omit C hs in
theorem putV_facts {s0 s1 : St} {d : Option Tmp} {a : AV} (h : putV N s0 d a = some s1) : s1.H = s0.H ∧ ∀ t, d = some t → t < N.N ∧ s1.env t = a := by
  unfold putV at h
  split at h
  · cases h
    exact ⟨rfl, fun t h => by cases h⟩
  · split at h
    case isFalse => cases h
    rename_i d hd
    cases h
    refine ⟨rfl, fun t h => ?_⟩
    cases h
    exact ⟨hd, by simp [upd]⟩

omit C in
theorem len_step (hT : TOk P T) {i : Nat} {o : Oper} (hi : ops[i]? = some o) : (s i).H.length ≤ (s (i + 1)).H.length ∧ (pureOp P o = true → (s (i + 1)).H.length = (s i).H.length) := by
  rcases step_cases hs hi with ⟨_, h⟩ | ⟨_, hw, a, L, hv, h⟩ | ⟨_, hw, a, news, ms, hv, h⟩
  · rw [(putV_facts h).1]
    exact ⟨Nat.le_refl _, fun _ => rfl⟩
  · rw [(putV_facts h).1]
    exact ⟨vwr_len hT hv, fun hp => by rw [wr_not_pure hw] at hp; cases hp⟩
  · rw [(putV_facts h).1]
    simp only [frzAll_length, List.length_append]
    refine ⟨by omega, fun hp => ?_⟩
    have := (vrd_pure hp hv).1
    simp only [Prod.mk.injEq] at this
    rw [this.1]
    rfl

omit C hs in
theorem ids_of {n : Nat} {id : Nat} (h : id < (s n).H.length) : id < (s 0).H.length ∨ ∃ i, i < n ∧ (s i).H.length ≤ id ∧ id < (s (i + 1)).H.length := by
  induction n with
  | zero => exact .inl h
  | succ n ih =>
    by_cases hlt : id < (s n).H.length
    · rcases ih hlt with h | ⟨i, h1, h2⟩
      · exact .inl h
      · exact .inr ⟨i, by omega, h2⟩
    · exact .inr ⟨n, by omega, by omega, h⟩

omit C in
theorem len_mono (hT : TOk P T) {a b : Nat} (hab : a ≤ b) (hb : b ≤ ops.size) : (s a).H.length ≤ (s b).H.length := by
  induction b with
  | zero => have : a = 0 := by omega
            rw [this]; exact Nat.le_refl _
  | succ b ih =>
    by_cases h : a = b + 1
    · rw [h]; exact Nat.le_refl _
    · exact Nat.le_trans (ih (by omega) (by omega)) (len_step hs hT (Array.getElem?_eq_getElem (show b < ops.size by omega))).1

omit C in
theorem plain_len {i : Nat} {o : Oper} (hi : ops[i]? = some o) (hw : isWr P N o = false) (hp : plainRd o = true) : (s (i + 1)).H.length = (s i).H.length := by
  rcases step_cases hs hi with ⟨_, h⟩ | ⟨_, hw', a, L, hv, h⟩ | ⟨_, hw', a, news, ms, hv, h⟩
  · rw [(putV_facts h).1]
  · rw [hw] at hw'; cases hw'
  · rw [(putV_facts h).1]
    have := vrd_plain hp hv
    simp only [Prod.mk.injEq] at this
    obtain ⟨rfl, rfl⟩ := this
    simp [frzAll]

/-- What is made in the region, as it is told later on. -/
theorem alloc_at {a k : Nat} {q : Oper} {t : Tmp} {ty : TypeId} (ha : ops[a]? = some q) (hd : q.dst = some t) (hop : q.op = .alloc ty) (hk : a < k) (hks : k ≤ ops.size) :
    (s k).env t = und ∨ (s k).env t = .one (.ptr ⟨(s a).H.length, 0, 0, 1⟩) := by
  have e1 := env_of (t := t) hs (a := a + 1) (b := k) hk hks (fun j o' k1 k2 hj hd' => by
    have := C.dst j a o' q t hj ha hd' hd
    omega)
  rw [e1]
  rcases step_cases hs ha with ⟨_, h⟩ | ⟨_, hw', x, L, hv, h⟩ | ⟨_, hw', x, news, ms, hv, h⟩
  · exact .inl ((putV_facts h).2 t hd).2
  · unfold isWr at hw'
    rw [hop] at hw'
    cases hw'
  · right
    rw [((putV_facts h).2 t hd).2]
    unfold vrd at hv
    simp only [hop] at hv
    unfold valloc at hv
    split at hv
    · split at hv
      · cases hv; rfl
      · cases hv
    · cases hv

/-- From an operation on, where whatever writes writes nothing that was there. -/
theorem softs (hT : TOk P T) {i b : Nat} (hib : i ≤ b) (hb : b ≤ ops.size) (h : ∀ (k : Nat) q, i ≤ k → k < b → ops[k]? = some q → isWr P N q = false ∨ i < k ∧ softW P ops q k i = true) : Sub (s i).H (s b).H := by
  induction b with
  | zero => have : i = 0 := by omega
            rw [this]
            exact fun id e he => ⟨e, he, .inl rfl⟩
  | succ b ih =>
    by_cases hib' : i = b + 1
    · rw [hib']
      exact fun id e he => ⟨e, he, .inl rfl⟩
    · have U := ih (by omega) (by omega) fun k q h1 h2 => h k q h1 (by omega)
      obtain ⟨o, ho, _⟩ := hs b (by omega)
      rcases h b o (by omega) (Nat.lt_succ_self _) ho with hw | ⟨hlt, hsw⟩
      · exact U.trans (step_sub hs ho hw)
      · rcases step_cases hs ho with ⟨_, h⟩ | ⟨_, hw', x, L, hv, h⟩ | ⟨_, hw', x, news, ms, hv, h⟩
        · rw [(putV_facts h).1]; exact U
        · rw [(putV_facts h).1]
          unfold softW at hsw
          unfold vwr at hv
          split at hsw
          · rename_i c hop
            split at hsw
            case h_2 => cases hsw
            rename_i g hcal
            simp only [hop, hcal] at hv
            split at hv
            case isFalse => cases hv
            split at hv
            case h_2 => cases hv
            obtain ⟨K, rfl⟩ := (hT.2 _ _ _ _ _ hv).1.2 hsw
            exact U.trans (sub_append _ _)
          · rename_i hop
            simp only [hop] at hv
            split at hv
            case h_2 => cases hv
            unfold vconvW at hv
            split at hv
            · split at hv
              · split at hv
                · cases hv
                · cases hv; exact U.trans (sub_append _ _)
              · cases hv
            · split at hv
              · split at hv
                · split at hv
                  · cases hv; exact U
                  · cases hv
                · cases hv
              · cases hv
          · rename_i ty t x0 hop
            simp only [hop] at hv
            split at hv
            case h_2 => cases hv
            rename_i av xv hav hxv
            obtain ⟨K, hst, he⟩ := Option.map_eq_some_iff.1 hv
            cases he
            obtain ⟨a, ha, hq⟩ := List.any_eq_true.1 hsw
            rw [Bool.and_eq_true] at hq
            have hia : i < a := of_decide_eq_true hq.1
            have hab : a < b := List.mem_range.1 ha
            have hq2 := hq.2
            split at hq2
            case h_2 => cases hq2
            rename_i q hqa
            rw [Bool.and_eq_true] at hq2
            have hqd : q.dst = some t := by simpa using hq2.1
            have hqo : ∃ ty, q.op = .alloc ty := by
              have := hq2.2
              split at this
              · rename_i ty' h'; exact ⟨ty', h'⟩
              · cases this
            obtain ⟨ty', hqo⟩ := hqo
            have hav' : av = (s b).env t := by simpa [evo] using hav.symm
            rcases alloc_at C hs hqa hqd hqo hab (by omega) with hu | hu
            · rw [hav', hu] at hst
              simp [vstore, und] at hst
            · rw [hav', hu] at hst
              intro id e he
              obtain ⟨e', g1, g2⟩ := U id e he
              have hidl := (List.getElem?_eq_some_iff.1 he).1
              have hm := len_mono hs hT (a := i) (b := a) (by omega) (by omega)
              obtain ⟨e2, g3, g4⟩ := vstore_sub hst (id := id) (by show id ≠ (s a).H.length; omega) g1
              exact ⟨e2, g3, g2.trans g4⟩
          · cases hsw
        · rw [(putV_facts h).1]
          exact U.trans ((sub_append _ _).trans (sub_frz _ _))

/-- What an operation reads is what the run in the text's order reads. -/
theorem reads_env {L : Nat → Prop} (hL : Down ops L) {i : Nat} {o : Oper} (hi : ops[i]? = some o) (hn : ¬ L i) (hr : ∀ e ∈ o.after, Region.binds .any e = true → L e.on) {t : Nat} (ht : t ∈ o.looksAt ops) :
    (s i).env t = envL ops s L t := by
  have hsz := (Array.getElem?_eq_some_iff.1 hi).1
  have hB := down_bef C hL (i + 1) i (Nat.lt_succ_self _) o hi hr
  unfold envL
  by_cases hw : ∃ (j : Nat) (q : Oper), ops[j]? = some q ∧ q.dst = some t
  · obtain ⟨j, q, hj, hq⟩ := hw
    have hjs := (Array.getElem?_eq_some_iff.1 hj).1
    rcases C.reads i j o q t hi hj ht hq with ⟨h1, h2⟩ | ⟨h1, h2⟩
    · rw [if_pos ⟨j, q, hB j h2, hj, hq⟩]
      have e1 := env_of (t := t) hs (a := j + 1) (b := i) (by omega) (by omega) (fun k o' k1 k2 hk hd => by
        have := C.dst k j o' q t hk hj hd hq
        omega)
      have e2 := env_of (t := t) hs (a := j + 1) (b := ops.size) (by omega) (by omega) (fun k o' k1 k2 hk hd => by
        have := C.dst k j o' q t hk hj hd hq
        omega)
      rw [e1, e2]
    · have hnj : ¬ Done ops L t := by
        rintro ⟨k, o', hk, hk', hd⟩
        have hkj := C.dst k j o' q t hk' hj hd hq
        subst hkj
        exact hn (down_bef C hL (k + 1) k (Nat.lt_succ_self _) q hj (fun e he hb => hL k q e hk hj he hb) i h2)
      rw [if_neg hnj]
      exact env_of (t := t) hs (a := 0) (b := i) (by omega) (by omega) (fun k o' k1 k2 hk hd => by
        have := C.dst k j o' q t hk hj hd hq
        omega)
  · have hnj : ¬ Done ops L t := fun ⟨k, o', hk, hk', hd⟩ => hw ⟨k, o', hk', hd⟩
    rw [if_neg hnj]
    exact env_of (t := t) hs (a := 0) (b := i) (by omega) (by omega) (fun k o' k1 k2 hk hd => hw ⟨k, o', hk, hd⟩)

/-- The slots behind one operation more. -/
theorem envL_step {L : Nat → Prop} {i : Nat} {o : Oper} (hi : ops[i]? = some o) {t : Nat} :
    envL ops s (fun j => L j ∨ j = i) t = if o.dst = some t then (s (i + 1)).env t else envL ops s L t := by
  have hsz := (Array.getElem?_eq_some_iff.1 hi).1
  unfold envL
  by_cases hd : o.dst = some t
  · rw [if_pos hd, if_pos ⟨i, o, .inr rfl, hi, hd⟩]
    exact env_of (t := t) hs (a := i + 1) (b := ops.size) (by omega) (by omega) (fun k o' k1 k2 hk hd' => by
      have := C.dst k i o' o t hk hi hd' hd
      omega)
  · rw [if_neg hd]
    have : Done ops (fun j => L j ∨ j = i) t ↔ Done ops L t := by
      constructor
      · rintro ⟨k, o', hk | rfl, hk', hd'⟩
        · exact ⟨k, o', hk, hk', hd'⟩
        · rw [hi] at hk'
          cases hk'
          exact absurd hd' hd
      · rintro ⟨k, o', hk, hk', hd'⟩
        exact ⟨k, o', .inl hk, hk', hd'⟩
    by_cases hx : Done ops L t
    · rw [if_pos hx, if_pos (this.2 hx)]
    · rw [if_neg hx, if_neg (fun h => hx (this.1 h))]

omit C hs in
theorem next_wr (N : Fx) (ops : Array Oper) (k : Nat) (hk : k ≤ ops.size) : ∃ m, k ≤ m ∧ m ≤ ops.size ∧ (m < ops.size → ∃ q, ops[m]? = some q ∧ isWr P N q = true) ∧ ∀ (j : Nat) q, k ≤ j → j < m → ops[j]? = some q → isWr P N q = false := by
  obtain ⟨d, hd⟩ : ∃ d, ops.size - k = d := ⟨_, rfl⟩
  induction d generalizing k with
  | zero => exact ⟨k, Nat.le_refl _, hk, fun h => by omega, fun j q h1 h2 => by omega⟩
  | succ d ih =>
    have hlt : k < ops.size := by omega
    have hq : ops[k]? = some ops[k] := Array.getElem?_eq_getElem hlt
    cases hw : isWr P N ops[k] with
    | true => exact ⟨k, Nat.le_refl _, hk, fun _ => ⟨_, hq, hw⟩, fun j q h1 h2 => by omega⟩
    | false =>
      obtain ⟨m, h1, h2, h3, h4⟩ := ih (k + 1) (by omega) (by omega)
      refine ⟨m, by omega, h2, h3, fun j q k1 k2 hj => ?_⟩
      by_cases hjk : j = k
      · rw [hjk, hq] at hj
        cases hj
        exact hw
      · exact h4 j q (by omega) k2 hj

/-- One operation more is done. -/
theorem inv_step (hT : TOk P T) {X0 X : Cx} (S : SR X) (M : Dom X) {L : Nat → Prop} {m : Nat} {act : Act} (I : Inv P N ops s L m X act) {i : Nat} {o : Oper} (hi : ops[i]? = some o) (hn : ¬ L i)
    (hr : ∀ e ∈ o.after, Region.binds .any e = true → L e.on) (hX : Nxt X0 X) {K : Act → World → Prop} {Q : Exit → Act → World → Prop}
    (hK : ∀ Y act' m', Nxt X0 Y → Inv P N ops s (fun j => L j ∨ j = i) m' Y act' → K act' Y.w) : wpOp P ops Q i K act X.w := by
  have hsz := (Array.getElem?_eq_some_iff.1 hi).1
  have hB := down_bef C I.down (i + 1) i (Nat.lt_succ_self _) o hi hr
  have hBL : ∀ j q, L j → ops[j]? = some q → ∀ k, B j k → L k := fun j q hj hq => down_bef C I.down (j + 1) j (Nat.lt_succ_self _) q hq fun e he hb => I.down j q e hj hq he hb
  have henv : ∀ t, t ∈ o.looksAt ops → (s i).env t = envL ops s L t := fun t ht => reads_env C hs I.down hi hn hr ht
  have hdown : Down ops (fun j => L j ∨ j = i) := by
    rintro j q e (hj | rfl) hq he hb
    · exact .inl (I.down j q e hj hq he hb)
    · rw [hi] at hq
      cases hq
      exact .inl (hr e he hb)
  have hlt' : ∀ j, (L j ∨ j = i) → j < ops.size := fun j h => h.elim (I.lt j) (fun e => e ▸ hsz)
  -- the end of it
  have fin : ∀ (Y : Cx) (m' : Nat) (v : Value) (a : AV), Nxt X Y → m' ≤ ops.size → (∀ (k : Nat) q, k < m' → ops[k]? = some q → isWr P N q = true → L k ∨ k = i) → (m' < ops.size → (∃ q, ops[m']? = some q ∧ isWr P N q = true) ∧ ¬ (L m' ∨ m' = i)) →
      Y.H = (s m').H → (∀ id, Y.D id ↔ X.D id ∨ ((s i).H.length ≤ id ∧ id < (s (i + 1)).H.length)) → RA Y a v → (∀ d, o.dst = some d → d < N.N ∧ (s (i + 1)).env d = a) →
      Inv P N ops s (fun j => L j ∨ j = i) m' Y (act.put o.dst v) := by
    intro Y m' v a hN h1 h2 h3 h4 h5 h6 h7
    refine ⟨h1, h2, h3, hdown, hlt', h4, fun id => ?_, by rw [put_size]; exact I.size, by rw [put_defers]; exact I.defers, fun t => ?_⟩
    · rw [h5, I.D]
      constructor
      · rintro ((h | ⟨j, hj, h⟩) | h)
        · exact .inl h
        · exact .inr ⟨j, .inl hj, h⟩
        · exact .inr ⟨i, .inr rfl, h⟩
      · rintro (h | ⟨j, hj | rfl, h⟩)
        · exact .inl (.inl h)
        · exact .inl (.inr ⟨j, hj, h⟩)
        · exact .inr h
    · rw [envL_step C hs hi, getD_put]
      by_cases hd : o.dst = some t
      · obtain ⟨k1, k2⟩ := h7 t hd
        rw [if_pos hd, if_pos ⟨hd, by rw [I.size]; exact k1⟩, k2]
        exact h6
      · rw [if_neg hd, if_neg (fun h => hd h.1)]
        exact hN.ra _ _ (I.env t)
  -- an operation that does not write leaves the phase as it is
  have hphase : isWr P N o = false → (∀ (k : Nat) q, k < m → ops[k]? = some q → isWr P N q = true → L k ∨ k = i) ∧ (m < ops.size → (∃ q, ops[m]? = some q ∧ isWr P N q = true) ∧ ¬ (L m ∨ m = i)) := by
    intro hw
    refine ⟨fun k q h1 h2 h3 => .inl (I.pre k q h1 h2 h3), fun h => ⟨(I.at_ h).1, fun hc => ?_⟩⟩
    rcases hc with hc | hc
    · exact (I.at_ h).2 hc
    · obtain ⟨q, hq, hqw⟩ := (I.at_ h).1
      rw [hc, hi] at hq
      cases hq
      rw [hw] at hqw
      cases hqw
  -- one that hangs on memory stands ahead of the next one that writes, and none that writes is between
  have hahead : isWr P N o = false → pureOp P o = false → i < m ∧ ∀ (k : Nat) q, i ≤ k → k < m → ops[k]? = some q → isWr P N q = false ∨ i < k ∧ plainRd o = true ∧ softW P ops q k i = true := by
    intro hw hp
    have h1 : i < m := by
      rcases Nat.lt_or_ge i m with h | h
      · exact h
      · exfalso
        have hm : m < ops.size := by omega
        obtain ⟨⟨q, hq, hqw⟩, hnm⟩ := I.at_ hm
        have hne : m ≠ i := fun e => by
          rw [e, hi] at hq
          cases hq
          rw [hw] at hqw
          cases hqw
        exact hnm (hB m ((C.wr m i q o hq hi hqw hp).2 (by omega)))
    refine ⟨h1, fun k q h2 h3 hq => ?_⟩
    cases hqw : isWr P N q with
    | false => exact .inl rfl
    | true =>
      by_cases hki : k = i
      · rw [hki, hi] at hq
        cases hq
        rw [hw] at hqw
        cases hqw
      · rcases (C.wr k i q o hq hi hqw hp).1 (by omega) with hb | ⟨_, hb⟩
        · exact (hn (hBL k q (I.pre k q h3 hq hqw) hq i hb)).elim
        · exact .inr ⟨by omega, hb⟩
  unfold wpOp
  rw [hi]
  dsimp only
  rcases step_cases hs hi with ⟨hw, h⟩ | ⟨hw, hwr, a, K', hv, h⟩ | ⟨hw, hwr, a, news, ms, hv, h⟩
  · -- it is passed over
    rw [wantV_eq henv] at hw
    rw [want_sound I.env hw, if_neg (by simp)]
    obtain ⟨p1, p2⟩ := putV_facts h
    have hD : ∀ id, X.D id ↔ X.D id ∨ ((s i).H.length ≤ id ∧ id < (s (i + 1)).H.length) := fun id => ⟨.inl, fun h => h.elim (fun x => x) fun h => by rw [p1] at h; omega⟩
    cases hwr : isWr P N o with
    | false => exact hK X _ m hX (fin X m undef und (.refl S M) I.le (hphase hwr).1 (hphase hwr).2 I.H hD (und_ra X) p2)
    | true =>
      -- a writer that is passed over
      have him : i = m := by
        have h1 : m ≤ i := by
          rcases Nat.lt_or_ge i m with h | h
          · exact absurd (I.pre i o h hi hwr) hn
          · exact h
        rcases Nat.lt_or_ge m i with h2 | h2
        · exfalso
          have hm : m < ops.size := by omega
          obtain ⟨⟨q, hq, hqw⟩, hnm⟩ := I.at_ hm
          exact hnm (hB m (((C.wr i m o q hi hq hwr (wr_not_pure hqw)).1 h2).resolve_right fun h => by rw [hqw] at h; cases h.1))
        · omega
      subst him
      obtain ⟨m', g1, g2, g3, g4⟩ := next_wr N ops (i + 1) (by omega)
      have hU : Sub X.H (s m').H := by
        rw [I.H]
        have e1 : Sub (s i).H (s (i + 1)).H := by rw [p1]; exact fun id e he => ⟨e, he, .inl rfl⟩
        exact e1.trans (subs hs g1 g2 fun k q k1 k2 hk => g4 k q k1 k2 hk)
      have hdl : ∀ id, X.D id → id < X.H.length := fun id hd => by
        rw [I.H]
        rcases (I.D id).1 hd with h | ⟨j, hj, h1, h2⟩
        · exact Nat.lt_of_lt_of_le h (len_mono hs hT (Nat.zero_le _) (by omega))
        · have hjs := I.lt j hj
          by_cases hji : j < i
          · exact Nat.lt_of_lt_of_le h2 (len_mono hs hT (by omega) (by omega))
          · exfalso
            have hjq : ops[j]? = some ops[j] := Array.getElem?_eq_getElem hjs
            have hne : j ≠ i := fun e => hn (e ▸ hj)
            cases hpj : pureOp P ops[j] with
            | true =>
              have := (len_step hs hT hjq).2 hpj
              omega
            | false => exact hn (hBL j _ hj hjq i ((C.wr i j o _ hi hjq hwr hpj).2 (by omega)))
      obtain ⟨Y, hN, hYH, hYD, hYw⟩ := sub_nxt S M hdl hU
      have := fin Y m' undef und hN g2 (fun k q k1 k2 k3 => by
        rcases Nat.lt_or_ge k (i + 1) with hk | hk
        · rcases Nat.lt_or_ge k i with hk' | hk'
          · exact .inl (I.pre k q hk' k2 k3)
          · exact .inr (by omega)
        · rw [g4 k q hk k1 k2] at k3
          cases k3) (fun hm => ⟨g3 hm, fun hc => by
          obtain ⟨q, hq, hqw⟩ := g3 hm
          rcases hc with hc | hc
          · exact hn (hBL m' q hc hq i (((C.wr m' i q o hq hi hqw (wr_not_pure hwr)).1 (by omega)).resolve_right fun h => by rw [hwr] at h; cases h.1))
          · omega⟩) hYH (fun id => by rw [hYD]; exact hD id) (und_ra Y) p2
      rw [← hYw]
      exact hK Y _ m' (hX.trans hN) this
  · -- it writes
    rw [wantV_eq henv] at hw
    rw [want_sound I.env hw, if_pos rfl]
    left
    have him : i = m := by
      have h1 : m ≤ i := by
        rcases Nat.lt_or_ge i m with h | h
        · exact absurd (I.pre i o h hi hwr) hn
        · exact h
      rcases Nat.lt_or_ge m i with h2 | h2
      · exfalso
        have hm : m < ops.size := by omega
        obtain ⟨⟨q, hq, hqw⟩, hnm⟩ := I.at_ hm
        exact hnm (hB m (((C.wr i m o q hi hq hwr (wr_not_pure hqw)).1 h2).resolve_right fun h => by rw [hqw] at h; cases h.1))
      · omega
    subst him
    obtain ⟨p1, p2⟩ := putV_facts h
    rw [vwr_eq (evo_eq henv), ← I.H] at hv
    have hfull : ∀ id, X.D id ↔ id < X.H.length := fun id => by
      rw [I.H]
      constructor
      · intro hd
        rcases (I.D id).1 hd with h | ⟨j, hj, h1, h2⟩
        · exact Nat.lt_of_lt_of_le h (len_mono hs hT (Nat.zero_le _) (by omega))
        · have hjs := I.lt j hj
          by_cases hji : j < i
          · exact Nat.lt_of_lt_of_le h2 (len_mono hs hT (by omega) (by omega))
          · exfalso
            have hjq : ops[j]? = some ops[j] := Array.getElem?_eq_getElem hjs
            have hne : j ≠ i := fun e => hn (e ▸ hj)
            cases hpj : pureOp P ops[j] with
            | true =>
              have := (len_step hs hT hjq).2 hpj
              omega
            | false => exact hn (hBL j _ hj hjq i ((C.wr i j o _ hi hjq hwr hpj).2 (by omega)))
      · intro hlt
        rcases ids_of hlt with h | ⟨k, k1, k2, k3⟩
        · exact (I.D id).2 (.inl h)
        · have hkq : ops[k]? = some (ops[k]'(by omega)) := Array.getElem?_eq_getElem (by omega)
          refine (I.D id).2 (.inr ⟨k, ?_, k2, k3⟩)
          cases hpk : pureOp P (ops[k]'(by omega)) with
          | true =>
            have := (len_step hs hT hkq).2 hpk
            omega
          | false =>
            rcases (C.wr i k o _ hi hkq hwr hpk).1 k1 with hb | ⟨hb1, hb2, _⟩
            · exact hB k hb
            · have := plain_len hs hkq hb1 hb2
              omega
    obtain ⟨hlen, hdo⟩ := vwr_does hT S M hfull (evo_sound I.env) hv
    refine hdo K Q fun v Y hN hYH hYD hr => ?_
    obtain ⟨m', g1, g2, g3, g4⟩ := next_wr N ops (i + 1) (by omega)
    have hU : Sub Y.H (s m').H := by
      have e1 : Y.H = (s (i + 1)).H := by rw [hYH, p1]
      rw [e1]
      exact subs hs g1 g2 fun k q k1 k2 hk => g4 k q k1 k2 hk
    have hdl : ∀ id, Y.D id → id < Y.H.length := fun id hd => by rw [hYH]; exact (hYD id).1 hd
    obtain ⟨Z, hN2, hZH, hZD, hZw⟩ := sub_nxt hN.sr hN.dom hdl hU
    have hD : ∀ id, Z.D id ↔ X.D id ∨ ((s i).H.length ≤ id ∧ id < (s (i + 1)).H.length) := fun id => by
      rw [hZD, hYD, hfull, p1]
      have e1 : X.H.length = (s i).H.length := by rw [I.H]
      show id < K'.length ↔ _
      constructor
      · intro h
        by_cases hx : id < X.H.length
        · exact .inl hx
        · exact .inr ⟨by omega, h⟩
      · rintro (h | h)
        · omega
        · exact h.2
    have := fin Z m' v a (hN.trans hN2) g2 (fun k q k1 k2 k3 => by
      rcases Nat.lt_or_ge k (i + 1) with hk | hk
      · rcases Nat.lt_or_ge k i with hk' | hk'
        · exact .inl (I.pre k q hk' k2 k3)
        · exact .inr (by omega)
      · rw [g4 k q hk k1 k2] at k3
        cases k3) (fun hm => ⟨g3 hm, fun hc => by
        obtain ⟨q, hq, hqw⟩ := g3 hm
        rcases hc with hc | hc
        · exact hn (hBL m' q hc hq i (((C.wr m' i q o hq hi hqw (wr_not_pure hwr)).1 (by omega)).resolve_right fun h => by rw [hwr] at h; cases h.1))
        · omega⟩) hZH hD (hN2.ra _ _ hr) p2
    rw [← hZw]
    exact hK Z _ m' (hX.trans (hN.trans hN2)) this
  · -- it reads, or makes
    rw [wantV_eq henv] at hw
    rw [want_sound I.env hw, if_pos rfl]
    left
    obtain ⟨p1, p2⟩ := putV_facts h
    rw [vrd_eq (evo_eq henv)] at hv
    obtain ⟨ph1, ph2⟩ := hphase hwr
    have hlen1 : (s (i + 1)).H.length = (s i).H.length + news.length := by
      rw [p1, frzAll_length, List.length_append]
    have hnD : ∀ id, (s i).H.length ≤ id → id < (s i).H.length + news.length → ¬ X.D id := fun id k1 k2 hd => by
      rcases (I.D id).1 hd with h | ⟨j, hj, h1, h2⟩
      · have := len_mono hs hT (Nat.zero_le i) (by omega)
        omega
      · have hjs := I.lt j hj
        have hne : j ≠ i := fun e => hn (e ▸ hj)
        rcases Nat.lt_or_ge j i with hji | hji
        · have := len_mono hs hT (a := j + 1) (b := i) (by omega) (by omega)
          omega
        · have := len_mono hs hT (a := i + 1) (b := j) (by omega) (by omega)
          omega
    have hdo : OpDoes P X (s i).H.length (a, news, ms) o act ∧ News X (s i).H.length news ∧ Given X ms := by
      cases hp : pureOp P o with
      | true =>
        obtain ⟨q1, q2⟩ := vrd_pure hp hv
        simp only [Prod.mk.injEq] at q1
        obtain ⟨rfl, rfl⟩ := q1
        exact ⟨vrd_does hT.1 S M (evo_sound I.env) (q2 _ _), (fun k e hk => by simp at hk), fun id hid => by cases hid⟩
      | false =>
        obtain ⟨h1, h2⟩ := hahead hwr hp
        have U0 : Sub (s i).H X.H := by
          rw [I.H]
          exact softs C hs hT (Nat.le_of_lt h1) I.le fun k q k1 k2 hk => (h2 k q k1 k2 hk).imp_right fun h => ⟨h.1, h.2.2⟩
        have U1 : Sub (s (i + 1)).H X.H := by
          cases hpl : plainRd o with
          | true =>
            have e1 := vrd_plain hpl hv
            simp only [Prod.mk.injEq] at e1
            obtain ⟨rfl, rfl⟩ := e1
            rw [p1]
            have : frzAll ((s i).H ++ []) [] = (s i).H := by simp [frzAll]
            rw [this]
            exact U0
          | false =>
            rw [I.H]
            exact subs hs (by omega) I.le fun k q k1 k2 hk => (h2 k q (by omega) k2 hk).resolve_right fun h => by rw [hpl] at h; cases h.2.1
        refine ⟨vrd_does hT.1 S M (evo_sound I.env) (U0.vrd hv), fun k e hk => ⟨?_, ?_⟩, fun id hid hd => ?_⟩
        · have := (List.getElem?_eq_some_iff.1 hk).1
          exact hnD _ (by omega) (by omega)
        · have hk' : ((s i).H ++ news)[(s i).H.length + k]? = some e := by
            rw [List.getElem?_append_right (by omega)]
            simpa using hk
          have U2 : Sub ((s i).H ++ news) X.H := by
            have : Sub ((s i).H ++ news) (s (i + 1)).H := by rw [p1]; exact sub_frz _ ms
            exact this.trans U1
          exact U2 _ _ hk'
        · obtain ⟨e, he⟩ := M id hd
          refine ⟨e, he, ?_⟩
          -- it was given up, and is so still
          have hX' : id < (s (i + 1)).H.length ∨ ¬ id < (s (i + 1)).H.length := Nat.lt_or_ge _ _ |>.imp (fun h => h) (fun h => by omega)
          rcases hX' with hlt | hge
          · have hg := List.getElem?_eq_getElem hlt
            obtain ⟨e', g1, g2⟩ := U1 _ _ hg
            rw [he] at g1
            cases g1
            have hfz : ∃ e0 : Ent, (s (i + 1)).H[id] = e0.frz := by
              have : (s (i + 1)).H[id]? = ((s i).H ++ news)[id]?.map Ent.frz := by
                rw [p1, frzAll_get, if_pos hid]
              rw [hg] at this
              cases h0 : ((s i).H ++ news)[id]? with
              | none => rw [h0] at this; cases this
              | some e0 =>
                rw [h0] at this
                simp only [Option.map_some, Option.some.injEq] at this
                exact ⟨e0, this⟩
            obtain ⟨e0, h0⟩ := hfz
            rcases g2 with g2 | g2
            · rw [g2, h0]; cases e0 <;> rfl
            · rw [g2]; cases (s (i + 1)).H[id] <;> rfl
          · -- an entry that was not there when it was given up: it was nothing
            exfalso
            have := given_mem hv hid
            omega
    obtain ⟨d1, d2, d3⟩ := hdo
    refine d1 d2 d3 K Q fun v Y hY hr => ?_
    have hN := hY.nxt S
    exact hK Y _ m (hX.trans hN) (fin Y m v a hN I.le ph1 ph2 (hY.ext.H.trans I.H) (fun id => by rw [hY.D, hlen1]) hr p2)

end

end Go.Proofs.Vm
end

section
/- Regions whose order is open: what is looked up of them, and functions. -/
namespace Go.Proofs.Vm
open Go

variable {P : Program}

def unl (L : Array Bool) : Nat → Nat
  | 0 => 0
  | k + 1 => unl L k + if L.getD k false = true then 0 else 1

theorem unl_zero {L : Array Bool} : ∀ {n : Nat}, unl L n = 0 → ∀ i, i < n → L.getD i false = true
  | 0, _, i, h => by omega
  | n + 1, h, i, hi => by
    simp only [unl] at h
    by_cases hl : L.getD n false = true
    · by_cases hin : i = n
      · rw [hin]; exact hl
      · exact unl_zero (n := n) (by omega) i (by omega)
    · rw [if_neg hl] at h
      omega

theorem unl_set {L : Array Bool} {i : Nat} (hs : i < L.size) (hl : ¬ L.getD i false = true) : ∀ {n : Nat}, (i < n → unl (L.setIfInBounds i true) n + 1 = unl L n) ∧ (n ≤ i → unl (L.setIfInBounds i true) n = unl L n)
  | 0 => ⟨fun h => by omega, fun _ => rfl⟩
  | n + 1 => by
    obtain ⟨h1, h2⟩ := unl_set hs hl (n := n)
    have hget : ∀ k, (L.setIfInBounds i true).getD k false = if k = i then true else L.getD k false := by
      intro k
      by_cases hk : k = i
      · subst hk
        simp [hs]
      · rw [if_neg hk]
        simp only [Array.getD_eq_getD_getElem?]
        rw [Array.getElem?_setIfInBounds_ne (fun e => hk e.symm)]
    refine ⟨fun h => ?_, fun h => ?_⟩
    · simp only [unl, hget]
      by_cases hn : n = i
      · subst hn
        rw [if_pos rfl, if_pos rfl, if_neg hl, h2 (Nat.le_refl _)]
      · rw [if_neg hn]
        have := h1 (by omega)
        omega
    · simp only [unl, hget]
      have hn : ¬ n = i := by omega
      rw [if_neg hn, h2 (by omega)]

theorem unl_le {L : Array Bool} : ∀ n, unl L n ≤ n
  | 0 => Nat.le_refl _
  | n + 1 => by
    have := unl_le (L := L) n
    simp only [unl]
    split <;> omega

theorem drew_nxt {X : Cx} (S : SR X) (M : Dom X) (d : Nat) (hdr : X.w.drawn ≤ d) : Nxt X { X with w := { X.w with drawn := d } } := by
  have E : Ext X { X with w := { X.w with drawn := d } } := ⟨rfl, rfl, fun _ h => h, rfl, fun _ _ => rfl, fun _ h => h, Nat.le_refl _, fun _ _ => rfl, ⟨⟨rfl, rfl⟩, rfl, hdr⟩⟩
  have SY := S.ext E (fun _ h => h) (fun _ h => .inl h) S.imm
  exact ⟨SY, M, rfl, rfl, fun _ h => h, fun _ h => h, fun _ h => .inl h, fun _ _ h => E.ra S h⟩

theorem open_ok (hm : P.follows .mixedOrders = true) {N : Fx} {ops : Array Oper} {B : Nat → Nat → Prop} (C : OpenC P N ops B) : OpenOk P N ops := by
  intro T X0 id s0 s' act0 Q hT S0 M0 R0 hrun hQ
  obtain ⟨f, f0, fn, hf⟩ := trail_of ops.toList 0 s0 s' hrun (fun j o hj => by simpa using hj)
  have hs : ∀ i, i < ops.size → ∃ o, ops[i]? = some o ∧ stepV P T N ops o (f i) = some (f (i + 1)) := fun i hi => hf i (Nat.zero_le _) (by simpa using hi)
  have fn' : f ops.size = s' := by rw [← fn]; simp
  -- all is done
  have done : ∀ (L : Array Bool) (m : Nat) (X : Cx) (act : Act), (∀ i, i < ops.size → L.getD i false = true) → Nxt X0 X → Inv P N ops f (fun i => L.getD i false = true) m X act → Q .normal act X.w := by
    intro L m X act hall hX I
    have hmn : m = ops.size := by
      rcases Nat.lt_or_ge m ops.size with h | h
      · exact absurd (hall m h) (I.at_ h).2
      · have := I.le; omega
    refine hQ X act hX ⟨by rw [I.H, hmn, fn'], fun id => ?_, I.size, fun k => ?_, I.defers⟩
    · rw [I.D, ← fn']
      constructor
      · rintro (h | ⟨i, hi, h1, h2⟩)
        · exact Nat.lt_of_lt_of_le h (len_mono hs hT (Nat.zero_le _) (Nat.le_refl _))
        · exact Nat.lt_of_lt_of_le h2 (len_mono hs hT (by have := I.lt i hi; omega) (Nat.le_refl _))
      · intro h
        rcases ids_of h with h | ⟨i, h1, h2⟩
        · exact .inl h
        · exact .inr ⟨i, hall i h1, h2⟩
    · have := I.env k
      have he : envL ops f (fun i => L.getD i false = true) k = s'.env k := by
        unfold envL
        split
        · rw [fn']
        · rename_i hnd
          rw [← fn']
          exact (env_of (t := k) hs (Nat.zero_le _) (Nat.le_refl _) (fun i o _ hi ho hd => hnd ⟨i, o, hall i hi, ho, hd⟩)).symm
      rw [he] at this
      exact this
  -- where none is ready all is done
  have none_ready : ∀ (L : Array Bool), L.size = ops.size → Region.ready .any ops L = [] → ∀ n i, i < n → i < ops.size → L.getD i false = true := by
    intro L hL hr n
    induction n with
    | zero => intro i h; omega
    | succ n ih =>
      intro i hi his
      cases hl : L.getD i false with
      | true => rfl
      | false =>
        exfalso
        have hq : ops[i]? = some ops[i] := Array.getElem?_eq_getElem his
        have hd : L.getD i true = false := by
          simp only [Array.getD_eq_getD_getElem?] at hl ⊢
          rw [Array.getElem?_eq_getElem (by omega)] at hl ⊢
          exact hl
        have : i ∈ Region.ready .any ops L := mem_ready.2 ⟨hd, _, hq, fun e he hb => by
          have := C.edge i _ e hq he hb
          exact ih e.on (by omega) (by omega)⟩
        rw [hr] at this
        cases this
  -- every order
  have any : ∀ (fuel : Nat) (L : Array Bool) (m : Nat) (X : Cx) (act : Act), L.size = ops.size → unl L ops.size ≤ fuel → Nxt X0 X → Inv P N ops f (fun i => L.getD i false = true) m X act → wpAny P .any ops Q fuel L act X.w := by
    intro fuel
    induction fuel with
    | zero =>
      intro L m X act hL hu hX I
      have hall := unl_zero (Nat.le_zero.1 hu)
      refine ⟨?_, done L m X act hall hX I⟩
      cases hr : Region.ready .any ops L with
      | nil => rfl
      | cons i r =>
        have : i ∈ Region.ready .any ops L := by rw [hr]; simp
        obtain ⟨h1, o, ho, _⟩ := mem_ready.1 this
        have his := (Array.getElem?_eq_some_iff.1 ho).1
        have := hall i his
        simp only [Array.getD_eq_getD_getElem?] at h1 this
        rw [Array.getElem?_eq_getElem (by omega)] at h1 this
        simp only [Option.getD_some] at h1 this
        rw [h1] at this
        cases this
    | succ fuel ih =>
      intro L m X act hL hu hX I
      refine ⟨fun hr => done L m X act (fun i hi => none_ready L hL hr (i + 1) i (Nat.lt_succ_self _) hi) hX I, fun i hi => ?_⟩
      obtain ⟨h1, o, ho, hedges⟩ := mem_ready.1 hi
      have his := (Array.getElem?_eq_some_iff.1 ho).1
      have hni : ¬ L.getD i false = true := by
        simp only [Array.getD_eq_getD_getElem?] at h1 ⊢
        rw [Array.getElem?_eq_getElem (by omega)] at h1 ⊢
        simp only [Option.getD_some] at h1 ⊢
        rw [h1]
        simp
      refine inv_step C hs hT hX.sr hX.dom I ho hni (fun e he hb => hedges e he hb) hX fun Y act' m' hY IY => ?_
      have hsz : i < L.size := by omega
      refine ih _ m' Y act' (by simp [hL]) (by have := (unl_set hsz hni (n := ops.size)).1 his; omega) hY ?_
      have hset : (fun j => (L.setIfInBounds i true).getD j false = true) = fun j => L.getD j false = true ∨ j = i := by
        funext j
        apply propext
        by_cases hj : j = i
        · subst hj
          simp [hsz]
        · simp only [hj, or_false]
          simp only [Array.getD_eq_getD_getElem?]
          rw [Array.getElem?_setIfInBounds_ne (fun e => hj e.symm)]
      rw [hset]
      exact IY
  refine wp_region_any hm ?_
  have N1 := drew_nxt S0 M0 (X0.w.drawn + 1) (Nat.le_succ _)
  obtain ⟨m, g1, g2, g3, g4⟩ := next_wr N ops 0 (Nat.zero_le _)
  have hU : Sub X0.H (f m).H := by
    rw [R0.H, ← f0]
    exact subs hs g1 g2 fun k q k1 k2 hk => g4 k q k1 k2 hk
  obtain ⟨Y, hN, hYH, hYD, hYw⟩ := sub_nxt N1.sr N1.dom (fun id hd => by
    have := (R0.D id).1 hd
    show id < X0.H.length
    rw [R0.H]
    exact this) hU
  have hw : ({ X0.w with drawn := X0.w.drawn + 1 } : World) = Y.w := hYw.symm
  rw [hw]
  have hnl : ∀ i, ¬ (Array.replicate ops.size false).getD i false = true := fun i => by
    simp only [Array.getD_eq_getD_getElem?, Array.getElem?_replicate]
    split <;> simp
  refine any ops.size _ m Y act0 (by simp) (unl_le _) (N1.trans hN) ⟨g2, fun k q k1 k2 k3 => (by rw [g4 k q (Nat.zero_le _) k1 k2] at k3; cases k3), fun h => ⟨g3 h, hnl m⟩, fun i o e hi => absurd hi (hnl i), fun i hi => absurd hi (hnl i), hYH, fun id => ?_, R0.size, R0.defers, fun t => ?_⟩
  · rw [hYD, f0]
    constructor
    · exact fun h => .inl ((R0.D id).1 h)
    · rintro (h | ⟨i, hi, _⟩)
      · exact (R0.D id).2 h
      · exact absurd hi (hnl i)
  · have : envL ops f (fun i => (Array.replicate ops.size false).getD i false = true) t = s0.env t := by
      unfold envL
      rw [if_neg (fun ⟨i, o, hi, _⟩ => hnl i hi), f0]
    rw [this]
    exact hN.ra _ _ (N1.ra _ _ (R0.env t))

/-- What is looked up, by reckoning. -/
def openB (P : Program) (N : Fx) (ops : Array Oper) : Bool :=
  let b := Region.before ops
  let n := ops.size
  (List.range n).all fun i => match ops[i]? with
    | none => true
    | some o =>
      o.after.all (fun e => !Region.binds .any e || e.on < i) &&
      (List.range n).all (fun j => !(b.getD i 0).testBit j || o.after.any fun e => Region.binds .any e && (e.on == j || (b.getD e.on 0).testBit j)) &&
      (List.range n).all fun j => match ops[j]? with
        | none => true
        | some q =>
          (match q.dst with
            | none => true
            | some t => (i == j || o.dst != some t) && (!(o.looksAt ops).contains t || (j < i && (b.getD i 0).testBit j) || (i < j && (b.getD j 0).testBit i))) &&
          (!isWr P N o || pureOp P q || (!(decide (j < i)) || ((b.getD i 0).testBit j || !isWr P N q && (plainRd q && softW P ops o i j))) && (!(decide (i < j)) || (b.getD j 0).testBit i))

theorem open_of {N : Fx} {ops : Array Oper} (h : openB P N ops = true) : OpenC P N ops (fun i j => j < ops.size ∧ ((Region.before ops).getD i 0).testBit j = true) := by
  unfold openB at h
  have get : ∀ (i : Nat) o, ops[i]? = some o → i < ops.size := fun i o ho => (Array.getElem?_eq_some_iff.1 ho).1
  have main := fun (i : Nat) (o : Oper) (ho : ops[i]? = some o) => List.all_eq_true.1 h i (List.mem_range.2 (get i o ho))
  have m1 : ∀ (i : Nat) o, ops[i]? = some o → _ := fun i o ho => by
    have := main i o ho
    rw [ho] at this
    dsimp only at this
    rw [Bool.and_eq_true, Bool.and_eq_true] at this
    exact this
  have m2 : ∀ (i j : Nat) o q, ops[i]? = some o → ops[j]? = some q → _ := fun i j o q ho hq => by
    have := List.all_eq_true.1 (m1 i o ho).2 j (List.mem_range.2 (get j q hq))
    rw [hq] at this
    dsimp only at this
    rw [Bool.and_eq_true] at this
    exact this
  refine ⟨fun i o e ho he hb => ?_, fun i o j ho hB => ?_, fun i j o q d ho hq hd hd' => ?_, fun i j o q t ho hq ht hd => ?_, fun i j o q ho hq hw hp => ?_, trivial⟩
  · have := Array.all_eq_true_iff_forall_mem.1 (m1 i o ho).1.1 e he
    rw [hb] at this
    simpa using this
  · have := List.all_eq_true.1 (m1 i o ho).1.2 j (List.mem_range.2 hB.1)
    rw [hB.2] at this
    simp only [Bool.not_true, Bool.false_or] at this
    rw [← Array.any_toList] at this
    obtain ⟨e, he, h2⟩ := List.any_eq_true.1 this
    have he : e ∈ o.after := by simpa using he
    rw [Bool.and_eq_true, Bool.or_eq_true] at h2
    refine ⟨e, he, h2.1, h2.2.imp (fun h => beq_iff_eq.1 h) fun h => ⟨hB.1, h⟩⟩
  · have := (m2 i j o q ho hq).1
    rw [hd', hd] at this
    simp only [Bool.and_eq_true] at this
    have := this.1
    simpa using this
  · have := (m2 i j o q ho hq).1
    rw [hd] at this
    simp only [Bool.and_eq_true, Bool.or_eq_true] at this
    rcases this.2 with (h | h) | h
    · have hc : (o.looksAt ops).contains t = true := by simpa using ht
      rw [hc] at h
      cases h
    · exact .inl ⟨by simpa using h.1, get j q hq, h.2⟩
    · exact .inr ⟨by simpa using h.1, get i o ho, h.2⟩
  · have := (m2 i j o q ho hq).2
    rw [hw, hp] at this
    simp only [Bool.not_true, Bool.false_or, Bool.and_eq_true, Bool.or_eq_true] at this
    refine ⟨fun hlt => ?_, fun hlt => ⟨get i o ho, ?_⟩⟩
    · rcases this.1 with h | h | h
      · simp [hlt] at h
      · exact .inl ⟨get j q hq, h⟩
      · exact .inr ⟨by simpa using h.1, h.2⟩
    · rcases this.2 with h | h
      · simp [hlt] at h
      · exact h

def codeB (P : Program) (N : Fx) : Code → Bool
  | .region _ ops true => openB P N ops
  | .seq a b => codeB P N a && codeB P N b
  | .cond _ x y => codeB P N x && codeB P N y
  | .block _ c => codeB P N c
  | .loop c => codeB P N c
  | _ => true

theorem code_ok (hm : P.follows .mixedOrders = true) {N : Fx} : ∀ (c : Code), codeB P N c = true → CodeOk P N c := by
  intro c
  induction c with
  | region id ops draw =>
    intro h
    cases draw with
    | true => exact open_ok hm (open_of h)
    | false => trivial
  | seq a b iha ihb =>
    intro h
    simp only [codeB, Bool.and_eq_true] at h
    exact ⟨iha h.1, ihb h.2⟩
  | cond c x y ihx ihy =>
    intro h
    simp only [codeB, Bool.and_eq_true] at h
    exact ⟨ihx h.1, ihy h.2⟩
  | block id c ih => exact ih
  | loop c ih => exact ih
  | _ => intro _; trivial

end Go.Proofs.Vm
end

section
/- The value machine's runs, told by what holds at their end. -/
namespace Go.Proofs.Vm
open Go

variable {P : Program} {T : Tab} {N : Fx}

/-- What holds where a code ends. -/
def wpV (P : Program) (T : Tab) (N : Fx) (c : Code) (K : Ex → St → Prop) (s : St) : Prop := ∃ ex s', (∃ m, ∀ n, m ≤ n → vcode P T N n c s = some (ex, s')) ∧ K ex s'

def thenK (A : St → Prop) (K : Ex → St → Prop) : Ex → St → Prop
  | .normal, s => A s
  | .exit id, s => K (.exit id) s
  | .ret, s => K .ret s

def blockK (id : Nat) (K : Ex → St → Prop) : Ex → St → Prop
  | .exit k, s => if k = id then K .normal s else K (.exit k) s
  | .normal, s => K .normal s
  | .ret, s => K .ret s

/-- What holds where some operations end. -/
def wpR (P : Program) (T : Tab) (N : Fx) (ops : Array Oper) (os : List Oper) (K : St → Prop) (s : St) : Prop := ∃ s', runV P T N ops os s = some s' ∧ K s'

def wpS (P : Program) (T : Tab) (N : Fx) (ops : Array Oper) (o : Oper) (K : St → Prop) (s : St) : Prop := ∃ s', stepV P T N ops o s = some s' ∧ K s'

theorem wpV_skip {K : Ex → St → Prop} {s : St} (h : K .normal s) : wpV P T N .skip K s := ⟨_, _, ⟨0, fun _ _ => rfl⟩, h⟩
theorem wpV_exit {K : Ex → St → Prop} {s : St} {id : Nat} (h : K (.exit id) s) : wpV P T N (.exit id) K s := ⟨_, _, ⟨0, fun _ _ => rfl⟩, h⟩
theorem wpV_ret {K : Ex → St → Prop} {s : St} (h : K .ret s) : wpV P T N .ret K s := ⟨_, _, ⟨0, fun _ _ => rfl⟩, h⟩

theorem wpV_region {K : Ex → St → Prop} {s : St} {id : Nat} {ops : Array Oper} {d : Bool} (h : wpR P T N ops ops.toList (K .normal) s) : wpV P T N (.region id ops d) K s := by
  obtain ⟨s', h1, h2⟩ := h
  exact ⟨.normal, s', ⟨0, fun n _ => by simp only [vcode, h1]⟩, h2⟩

theorem wpR_nil {ops : Array Oper} {K : St → Prop} {s : St} (h : K s) : wpR P T N ops [] K s := ⟨s, rfl, h⟩
theorem wpR_cons {ops : Array Oper} {o : Oper} {r : List Oper} {K : St → Prop} {s : St} (h : wpS P T N ops o (wpR P T N ops r K) s) : wpR P T N ops (o :: r) K s := by
  obtain ⟨s1, h1, s2, h2, h3⟩ := h
  exact ⟨s2, by simp only [runV, h1, h2], h3⟩

theorem wpV_seq {K : Ex → St → Prop} {s : St} {a b : Code} (h : wpV P T N a (thenK (wpV P T N b K) K) s) : wpV P T N (.seq a b) K s := by
  obtain ⟨ex, s1, ⟨m, h1⟩, h2⟩ := h
  cases ex with
  | normal =>
    obtain ⟨ex, s2, ⟨m2, h3⟩, h4⟩ := h2
    exact ⟨ex, s2, ⟨max m m2, fun n hn => by simp only [vcode, h1 n (by omega), h3 n (by omega)]⟩, h4⟩
  | exit id => exact ⟨_, s1, ⟨m, fun n hn => by simp only [vcode, h1 n hn]⟩, h2⟩
  | ret => exact ⟨_, s1, ⟨m, fun n hn => by simp only [vcode, h1 n hn]⟩, h2⟩

theorem wpV_cond {K : Ex → St → Prop} {s : St} {c : Operand} {x y : Code} {t : Bool} (hc : evo s.env c = some (.one (.c (.v (.bool t))))) (h : if t = true then wpV P T N x K s else wpV P T N y K s) : wpV P T N (.cond c x y) K s := by
  cases t with
  | true =>
    obtain ⟨ex, s1, ⟨m, h1⟩, h2⟩ := h
    exact ⟨ex, s1, ⟨m, fun n hn => by simp only [vcode, hc, if_true, h1 n hn]⟩, h2⟩
  | false =>
    obtain ⟨ex, s1, ⟨m, h1⟩, h2⟩ := h
    exact ⟨ex, s1, ⟨m, fun n hn => by simp only [vcode, hc, Bool.false_eq_true, if_false, h1 n hn]⟩, h2⟩

theorem wpV_block {K : Ex → St → Prop} {s : St} {id : Nat} {c : Code} (h : wpV P T N c (blockK id K) s) : wpV P T N (.block id c) K s := by
  obtain ⟨ex, s1, ⟨m, h1⟩, h2⟩ := h
  cases ex with
  | normal => exact ⟨_, s1, ⟨m, fun n hn => by simp only [vcode, h1 n hn]⟩, h2⟩
  | ret => exact ⟨_, s1, ⟨m, fun n hn => by simp only [vcode, h1 n hn]⟩, h2⟩
  | exit k =>
    simp only [blockK] at h2
    by_cases hk : k = id
    · rw [if_pos hk] at h2
      exact ⟨_, s1, ⟨m, fun n hn => by simp only [vcode, h1 n hn, if_pos hk]⟩, h2⟩
    · rw [if_neg hk] at h2
      exact ⟨_, s1, ⟨m, fun n hn => by simp only [vcode, h1 n hn, if_neg hk]⟩, h2⟩

/-- A loop, with a count of its own. -/
def wpL (P : Program) (T : Tab) (N : Fx) (c : Code) (K : Ex → St → Prop) (s : St) : Prop := ∃ ex s', (∃ m k0, ∀ n k, m ≤ n → k0 ≤ k → iter k (vcode P T N n c) s = some (ex, s')) ∧ K ex s'

theorem wpV_loop {K : Ex → St → Prop} {s : St} {c : Code} (h : wpL P T N c K s) : wpV P T N (.loop c) K s := by
  obtain ⟨ex, s1, ⟨m, k0, h1⟩, h2⟩ := h
  exact ⟨ex, s1, ⟨max m k0, fun n hn => by simp only [vcode, h1 n n (by omega) (by omega)]⟩, h2⟩

theorem wpL_step {K : Ex → St → Prop} {s : St} {c : Code} (h : wpV P T N c (thenK (wpL P T N c K) K) s) : wpL P T N c K s := by
  obtain ⟨ex, s1, ⟨m, h1⟩, h2⟩ := h
  have succ : ∀ k, 1 ≤ k → ∃ q, k = q + 1 := fun k hk => ⟨k - 1, by omega⟩
  cases ex with
  | normal =>
    obtain ⟨ex, s2, ⟨m2, k0, h3⟩, h4⟩ := h2
    refine ⟨ex, s2, ⟨max m m2, k0 + 1, fun n k hn hk => ?_⟩, h4⟩
    obtain ⟨q, rfl⟩ := succ k (by omega)
    simp only [iter, h1 n (by omega), h3 n q (by omega) (by omega)]
  | exit id =>
    refine ⟨_, s1, ⟨m, 1, fun n k hn hk => ?_⟩, h2⟩
    obtain ⟨q, rfl⟩ := succ k hk
    simp only [iter, h1 n hn]
  | ret =>
    refine ⟨_, s1, ⟨m, 1, fun n k hn hk => ?_⟩, h2⟩
    obtain ⟨q, rfl⟩ := succ k hk
    simp only [iter, h1 n hn]

/-- A loop by a measure: 'I k s' holds ahead of a round with k rounds to go at most. -/
theorem wpL_ind {K : Ex → St → Prop} {c : Code} (I : Nat → St → Prop) (h : ∀ k s, I k s → wpV P T N c (thenK (fun s' => ∃ j, j < k ∧ I j s') K) s) : ∀ k s, I k s → wpL P T N c K s := by
  intro k
  induction k using Nat.strongRecOn with
  | _ k ih =>
    intro s hI
    refine wpL_step ?_
    obtain ⟨ex, s1, h1, h2⟩ := h k s hI
    refine ⟨ex, s1, h1, ?_⟩
    cases ex with
    | normal =>
      obtain ⟨j, hj, hI'⟩ := h2
      exact ih j hj s1 hI'
    | exit id => exact h2
    | ret => exact h2

theorem wpV_mono {c : Code} {K K' : Ex → St → Prop} {s : St} (h : wpV P T N c K s) (g : ∀ ex s, K ex s → K' ex s) : wpV P T N c K' s := by
  obtain ⟨ex, s1, h1, h2⟩ := h
  exact ⟨ex, s1, h1, g _ _ h2⟩

theorem wpL_mono {c : Code} {K K' : Ex → St → Prop} {s : St} (h : wpL P T N c K s) (g : ∀ ex s, K ex s → K' ex s) : wpL P T N c K' s := by
  obtain ⟨ex, s1, h1, h2⟩ := h
  exact ⟨ex, s1, h1, g _ _ h2⟩

/-- One operation. -/
theorem wpS_rd {ops : Array Oper} {o : Oper} {K : St → Prop} {e : Nat → AV} {H : Hp} {a : AV} {news : List Ent} {ms : List Nat} (hg : o.guard = none) (hw : isWr P N o = false)
    (hv : vrd P T N.nest H H.length (evo e) o = some (a, news, ms)) (h : ∃ s', putV N ⟨e, frzAll (H ++ news) ms⟩ o.dst a = some s' ∧ K s') : wpS P T N ops o K ⟨e, H⟩ := by
  obtain ⟨s', h1, h2⟩ := h
  exact ⟨s', by simp only [stepV, wantV, hg, hw, Bool.false_eq_true, if_false, hv, h1], h2⟩

/-- What a function's end must be. -/
def endK (P : Program) (rs : List ResultVar) (r : CA) : Ex → St → Prop
  | .exit _, _ => False
  | _, s => ∃ l a, mapO (vres P s) rs = some l ∧ join l = some a ∧ fza s.H a = some r

theorem vfun_of {fn : Func} {c : Code} (hb : fn.body = some c) {args : List CA} {r : CA} (hl : args.length ≤ fn.ntmps ∧ N.N = fn.ntmps) (h : wpV P T N c (endK P fn.results.toList r) ⟨env0 args, []⟩) : ∃ n, vfun P T N n fn args = some r := by
  obtain ⟨ex, s, ⟨m, h1⟩, h2⟩ := h
  refine ⟨m, ?_⟩
  have h1' := h1 m (Nat.le_refl _)
  cases ex with
  | exit id => exact h2.elim
  | normal =>
    obtain ⟨l, a, h3, h4, h5⟩ := h2
    simp only [vfun, hb, hl, and_self, if_true, h1', h3, h4, h5]
  | ret =>
    obtain ⟨l, a, h3, h4, h5⟩ := h2
    simp only [vfun, hb, hl, and_self, if_true, h1', h3, h4, h5]

/-- A function's contract out of a run of the value machine. -/
theorem ctr_of {f : FuncId} {fn : Func} {c : Code} (hm : P.follows .mixedOrders = true) (hf : P.funcs[f]? = some fn) (hb : fn.body = some c) (hc : codeB P N c = true) (hT : TOk P T) {args : List CA} {r : CA} (hl : args.length ≤ fn.ntmps ∧ N.N = fn.ntmps)
    {rs : List ResultVar} (hr : fn.results.toList = rs) (h : wpV P T N c (endK P rs r) ⟨env0 args, []⟩) : Ctr P f args r := by
  subst hr
  obtain ⟨n, hn⟩ := vfun_of hb hl h
  exact ctr_of_fun hT hf hb (code_ok hm c hc) hn

/-- What is known of a function at a family of arguments. -/
structure Sp (P : Program) where
  f : FuncId
  ι : Type
  enc : ι → List CA
  out : ι → CA
  ok : FnOk P f ∧ ∀ i, Ctr P f (enc i) (out i)

open Classical in
noncomputable def Sp.run (s : Sp P) (args : List CA) : Option CA := if h : ∃ i, s.enc i = args then some (s.out (Classical.choose h)) else none

noncomputable def ext (T : Tab) (s : Sp P) : Tab := { T with pu := fun f args => if f = s.f then s.run args else T.pu f args }

def T0 : Tab := ⟨fun _ _ => none, fun _ _ _ => none⟩

theorem TOk.zero : TOk P T0 := ⟨fun f args r h => (by cases h), fun f args H r H' h => (by cases h)⟩

theorem TOk.ext (h : TOk P T) (s : Sp P) : TOk P (ext T s) := ⟨fun f args r hr => by
  simp only [Vm.ext] at hr
  split at hr
  · rename_i hf
    subst hf
    unfold Sp.run at hr
    split at hr
    · rename_i hx
      cases hr
      have := s.ok.2 (Classical.choose hx)
      rw [Classical.choose_spec hx] at this
      exact ⟨s.ok.1, this⟩
    · cases hr
  · exact h.1 f args r hr, h.2⟩

theorem ext_self (s : Sp P) (i : s.ι) (inj : ∀ j, s.enc j = s.enc i → s.out j = s.out i) : (ext T s).pu s.f (s.enc i) = some (s.out i) := by
  simp only [ext, if_true]
  unfold Sp.run
  have hx : ∃ j, s.enc j = s.enc i := ⟨i, rfl⟩
  rw [dif_pos hx, inj _ (Classical.choose_spec hx)]

theorem ext_ne (s : Sp P) {f : FuncId} (h : f ≠ s.f) (args : List CA) : (ext T s).pu f args = T.pu f args := by
  simp only [ext]
  rw [if_neg h]

/-- What a function's end must be that shares its caller's memory. -/
def endS (P : Program) (rs : List ResultVar) (r : AV) (H' : Hp) : Ex → St → Prop
  | .exit _, _ => False
  | _, s => ∃ l, mapO (vres P s) rs = some l ∧ join l = some r ∧ s.H = H'

def envS (args : List AV) : Nat → AV := fun k => (args[k]?).getD und

theorem sctr_of {f : FuncId} {fn : Func} {c : Code} (hm : P.follows .mixedOrders = true) (hf : P.funcs[f]? = some fn) (hb : fn.body = some c) (hc : codeB P N c = true) (hT : TOk P T) {args : List AV} {H H' : Hp} {r : AV}
    (hl : args.length ≤ fn.ntmps ∧ N.N = fn.ntmps) (h : wpV P T N c (endS P fn.results.toList r H') ⟨envS args, H⟩) : SCtr P f args H r H' := by
  intro X S M hX hD vals hv
  obtain ⟨ex, s, ⟨m, h1⟩, h2⟩ := h
  have hcode := h1 m (Nat.le_refl _)
  obtain ⟨hlen, hNN⟩ := hl
  have hvl : vals.length = args.length := hv.1.symm
  have R : Rel X N ⟨envS args, H⟩ { tmps := vals.toArray ++ Array.replicate (fn.ntmps - vals.toArray.size) undef, defers := [] } := by
    refine ⟨hX, hD, by simp [hvl, hNN]; omega, fun k => ?_, rfl⟩
    show RA X (envS args k) _
    unfold envS
    by_cases hk : k < args.length
    · rw [List.getElem?_eq_getElem hk]
      have hk' : k < vals.length := by omega
      have e : (vals.toArray ++ Array.replicate (fn.ntmps - vals.toArray.size) undef).getD k undef = vals[k] := by
        rw [Array.getD_eq_getD_getElem?, Array.getElem?_append_left (by simpa using hk')]
        simp [hk']
      rw [e]
      exact hv.2 k _ _ (List.getElem?_eq_getElem hk) (List.getElem?_eq_getElem hk')
    · rw [List.getElem?_eq_none (by omega)]
      have e : (vals.toArray ++ Array.replicate (fn.ntmps - vals.toArray.size) undef).getD k undef = undef := by
        rw [Array.getD_eq_getD_getElem?, Array.getElem?_append_right (by simp; omega)]
        by_cases h2 : k - vals.toArray.size < fn.ntmps - vals.toArray.size
        · rw [Array.getElem?_replicate, if_pos h2]; rfl
        · rw [Array.getElem?_replicate, if_neg h2]; rfl
      rw [e]
      exact und_ra X
  refine calls_of_wp hf hb (code_sound hT c (code_ok hm c hc) S M R hcode fun Y act' hN hR => ?_)
  have fin : (∃ l, mapO (vres P s) fn.results.toList = some l ∧ join l = some r ∧ s.H = H') → act'.defers = [] ∧ ∃ v, (results fn act'.tmps).run P Y.w = .ok v Y.w ∧
      ∃ v' Z, Ending.returned v = .returned v' ∧ Z.w = Y.w ∧ Nxt X Z ∧ Z.H = H' ∧ (∀ id, Z.D id ↔ id < H'.length) ∧ RA Z r v' := by
    rintro ⟨l, h3, h4, rfl⟩
    obtain ⟨vs, hrun, hra⟩ := res_run (P := P) hN.sr hN.dom hR h3
    refine ⟨hR.defers, if h : vs.toArray.size = 1 then vs.toArray[0] else .tuple vs.toArray, ?_, _, Y, rfl, rfl, hN, hR.H, hR.D, join_sound h4 hra⟩
    rw [results_eq, Array.mapM_eq_mapM_toList]
    simp only [Sem.run_bind, Sem.run_map]
    rw [hrun]
    rfl
  cases ex with
  | normal => exact fin h2
  | exit id => exact h2.elim
  | ret => exact fin h2

theorem endS_det {rs : List ResultVar} {c : Code} {s : St} {r r' : AV} {H H' : Hp} (h : wpV P T N c (endS P rs r H) s) (g : wpV P T N c (endS P rs r' H') s) : r = r' ∧ H = H' := by
  obtain ⟨ex, s1, ⟨m, h1⟩, h2⟩ := h
  obtain ⟨ex', s2, ⟨m', g1⟩, g2⟩ := g
  have e1 := h1 (max m m') (by omega)
  rw [g1 (max m m') (by omega)] at e1
  cases e1
  cases ex with
  | exit id => exact h2.elim
  | normal =>
    obtain ⟨l, a1, a2, rfl⟩ := h2
    obtain ⟨l', b1, b2, rfl⟩ := g2
    rw [a1] at b1
    cases b1
    rw [a2] at b2
    cases b2
    exact ⟨rfl, rfl⟩
  | ret =>
    obtain ⟨l, a1, a2, rfl⟩ := h2
    obtain ⟨l', b1, b2, rfl⟩ := g2
    rw [a1] at b1
    cases b1
    rw [a2] at b2
    cases b2
    exact ⟨rfl, rfl⟩

/-- A function that shares its caller's memory, by its own run; or by what is known of it else. -/
structure Sh (P : Program) where
  f : FuncId
  run : List AV → Hp → AV → Hp → Prop
  ok : ∀ args H r H', run args H r H' → Gr P f H H' ∧ FnOk P f ∧ SCtr P f args H r H'
  det : ∀ args H r H' q K, run args H r H' → run args H q K → r = q ∧ H' = K

open Classical in
noncomputable def extS (T : Tab) (s : Sh P) : Tab := { T with S := fun f args H => if f = s.f then (if h : ∃ p : AV × Hp, s.run args H p.1 p.2 then some (Classical.choose h) else none) else T.S f args H }

theorem TOk.extS (h : TOk P T) (s : Sh P) : TOk P (extS T s) := ⟨h.1, fun f args H r H' hr => by
  simp only [Vm.extS] at hr
  split at hr
  · rename_i hf
    subst hf
    split at hr
    · rename_i hx
      have := Classical.choose_spec hx
      simp only [Option.some.injEq] at hr
      rw [hr] at this
      exact s.ok _ _ _ _ this
    · cases hr
  · exact h.2 f args H r H' hr⟩

theorem extS_self (s : Sh P) {args : List AV} {H : Hp} {r : AV} {H' : Hp} (h : s.run args H r H') : (extS T s).S s.f args H = some (r, H') := by
  simp only [extS, if_true]
  have hx : ∃ p : AV × Hp, s.run args H p.1 p.2 := ⟨(r, H'), h⟩
  rw [dif_pos hx]
  obtain ⟨h1, h2⟩ := s.det _ _ _ _ _ _ h (Classical.choose_spec hx)
  rw [h1, h2]

theorem extS_ne (s : Sh P) {f : FuncId} (h : f ≠ s.f) (args : List AV) (H : Hp) : (extS T s).S f args H = T.S f args H := by
  simp only [extS]
  rw [if_neg h]

theorem extS_pu (s : Sh P) (f : FuncId) (args : List CA) : (extS T s).pu f args = T.pu f args := rfl
theorem ext_S (s : Sp P) (f : FuncId) (args : List AV) (H : Hp) : (ext T s).S f args H = T.S f args H := rfl

/-- One by its own run. -/
def Sh.of {f : FuncId} {fn : Func} {c : Code} (hm : P.follows .mixedOrders = true) (hf : P.funcs[f]? = some fn) (hb : fn.body = some c) (hok : FnOk P f) (hc : codeB P N c = true) (hT : TOk P T) (hN : N.N = fn.ntmps) (rs : List ResultVar) (hr : fn.results.toList = rs) : Sh P where
  f := f
  run args H r H' := args.length ≤ fn.ntmps ∧ Gr P f H H' ∧ wpV P T N c (endS P rs r H') ⟨envS args, H⟩
  ok args H r H' h := ⟨h.2.1, hok, by subst hr; exact sctr_of hm hf hb hc hT ⟨h.1, hN⟩ h.2.2⟩
  det args H r H' q K h g := endS_det h.2.2 g.2.2

end Go.Proofs.Vm
end

section
/- The value machine's runs as rewriting rules. -/
namespace Go.Proofs.Vm
open Go

variable {P : Program} {T : Tab} {N : Fx}

theorem iter_mono {f g : St → Option (Ex × St)} (h : ∀ s r, f s = some r → g s = some r) : ∀ {k k' : Nat} {s : St} {r : Ex × St}, iter k f s = some r → k ≤ k' → iter k' g s = some r
  | 0, _, _, _, hr, _ => by cases hr
  | k + 1, k', s, r, hr, hk => by
    obtain ⟨q, rfl⟩ : ∃ q, k' = q + 1 := ⟨k' - 1, by omega⟩
    simp only [iter] at hr ⊢
    split at hr
    · rename_i s1 h1
      rw [h _ _ h1]
      exact iter_mono h hr (by omega)
    · rename_i h1
      rw [h _ _ hr]
      split
      · rename_i heq
        cases heq
        exact absurd hr (h1 _)
      · rfl

theorem vcode_mono {n n' : Nat} (hn : n ≤ n') : ∀ (c : Code) (s : St) (r : Ex × St), vcode P T N n c s = some r → vcode P T N n' c s = some r := by
  intro c
  induction c with
  | skip => intro s r h; exact h
  | region id ops d => intro s r h; exact h
  | exit id => intro s r h; exact h
  | ret => intro s r h; exact h
  | seq a b iha ihb =>
    intro s r h
    simp only [vcode] at h ⊢
    split at h
    · rename_i s1 h1
      rw [iha _ _ h1]
      exact ihb _ _ h
    · rename_i h1
      rw [iha _ _ h]
      split
      · rename_i heq
        cases heq
        exact absurd h (h1 _)
      · rfl
  | cond c x y ihx ihy =>
    intro s r h
    simp only [vcode] at h ⊢
    split at h
    case h_2 => cases h
    rename_i t ht
    split at h
    · rename_i hb
      rw [if_pos hb]
      exact ihx _ _ h
    · rename_i hb
      rw [if_neg hb]
      exact ihy _ _ h
  | block id c ih =>
    intro s r h
    simp only [vcode] at h ⊢
    split at h
    · rename_i k s1 h1
      rw [ih _ _ h1]
      exact h
    · rename_i h1
      rw [ih _ _ h]
      split
      · rename_i heq
        cases heq
        exact absurd h (h1 _ _)
      · rfl
  | loop c ih =>
    intro s r h
    simp only [vcode] at h ⊢
    exact iter_mono ih h hn
  | rangeFunc f params assign body _ _ => intro s r h; cases h
  | scope body _ => intro s r h; cases h
  | label l => intro s r h; cases h
  | goto l => intro s r h; cases h
  | refuse why => intro s r h; cases h

theorem wpV_iff {c : Code} {K : Ex → St → Prop} {s : St} : wpV P T N c K s ↔ ∃ n ex s', vcode P T N n c s = some (ex, s') ∧ K ex s' :=
  ⟨fun ⟨ex, s', ⟨m, h⟩, hk⟩ => ⟨m, ex, s', h m (Nat.le_refl _), hk⟩, fun ⟨n, ex, s', h, hk⟩ => ⟨ex, s', ⟨n, fun _ hn => vcode_mono hn _ _ _ h⟩, hk⟩⟩

section
variable {K : Ex → St → Prop} {s : St}

theorem e_skip : wpV P T N .skip K s ↔ K .normal s := ⟨fun ⟨_, _, ⟨m, h⟩, hk⟩ => by cases h m (Nat.le_refl _); exact hk, wpV_skip⟩
theorem e_exit {id : Nat} : wpV P T N (.exit id) K s ↔ K (.exit id) s := ⟨fun ⟨_, _, ⟨m, h⟩, hk⟩ => by cases h m (Nat.le_refl _); exact hk, wpV_exit⟩
theorem e_ret : wpV P T N .ret K s ↔ K .ret s := ⟨fun ⟨_, _, ⟨m, h⟩, hk⟩ => by cases h m (Nat.le_refl _); exact hk, wpV_ret⟩

theorem e_region {id : Nat} {ops : Array Oper} {d : Bool} : wpV P T N (.region id ops d) K s ↔ wpR P T N ops ops.toList (K .normal) s := by
  refine ⟨fun ⟨ex, s', ⟨m, h⟩, hk⟩ => ?_, wpV_region⟩
  have := h m (Nat.le_refl _)
  simp only [vcode] at this
  split at this
  · rename_i s1 h1
    cases this
    exact ⟨_, h1, hk⟩
  · cases this

theorem e_seq {a b : Code} : wpV P T N (.seq a b) K s ↔ wpV P T N a (thenK (wpV P T N b K) K) s := by
  refine ⟨fun ⟨ex, s', ⟨m, h⟩, hk⟩ => ?_, wpV_seq⟩
  have := h m (Nat.le_refl _)
  simp only [vcode] at this
  rw [wpV_iff]
  split at this
  · rename_i s1 h1
    exact ⟨m, .normal, s1, h1, wpV_iff.2 ⟨m, ex, s', this, hk⟩⟩
  · rename_i h1
    refine ⟨m, ex, s', this, ?_⟩
    cases ex with
    | normal => exact absurd this (h1 _)
    | exit id => exact hk
    | ret => exact hk

theorem e_block {id : Nat} {c : Code} : wpV P T N (.block id c) K s ↔ wpV P T N c (blockK id K) s := by
  refine ⟨fun ⟨ex, s', ⟨m, h⟩, hk⟩ => ?_, wpV_block⟩
  have := h m (Nat.le_refl _)
  simp only [vcode] at this
  rw [wpV_iff]
  split at this
  · rename_i k s1 h1
    refine ⟨m, _, s1, h1, ?_⟩
    simp only [blockK]
    split at this
    · rename_i hk'
      cases this
      rw [if_pos hk']
      exact hk
    · rename_i hk'
      cases this
      rw [if_neg hk']
      exact hk
  · rename_i h1
    refine ⟨m, ex, s', this, ?_⟩
    cases ex with
    | normal => exact hk
    | exit k => exact absurd this (h1 _ _)
    | ret => exact hk

theorem e_loop {c : Code} : wpV P T N (.loop c) K s ↔ wpL P T N c K s := by
  refine ⟨fun ⟨ex, s', ⟨m, h⟩, hk⟩ => ?_, wpV_loop⟩
  have := h m (Nat.le_refl _)
  simp only [vcode] at this
  exact ⟨ex, s', ⟨m, m, fun n k hn hk => iter_mono (vcode_mono hn c) this hk⟩, hk⟩

def boolK (a : Option AV) (x y : Prop) : Prop :=
  match a with
  | some (.one (.c (.v (.bool t)))) => if t = true then x else y
  | _ => False

theorem e_cond {c : Operand} {x y : Code} : wpV P T N (.cond c x y) K s ↔ boolK (evo s.env c) (wpV P T N x K s) (wpV P T N y K s) := by
  constructor
  · rintro ⟨ex, s', ⟨m, h⟩, hk⟩
    have := h m (Nat.le_refl _)
    simp only [vcode] at this
    unfold boolK
    split at this
    case h_2 => cases this
    rename_i t ht
    try rw [ht]
    try dsimp only
    split at this
    · rename_i hb
      rw [if_pos hb]
      exact wpV_iff.2 ⟨m, ex, s', this, hk⟩
    · rename_i hb
      rw [if_neg hb]
      exact wpV_iff.2 ⟨m, ex, s', this, hk⟩
  · intro h
    unfold boolK at h
    split at h
    case h_2 => exact h.elim
    rename_i t ht
    exact wpV_cond ht h

end

theorem b_bool {t : Bool} {x y : Prop} : boolK (some (.one (.c (.v (.bool t))))) x y ↔ if t = true then x else y := Iff.rfl

theorem e_nil {ops : Array Oper} {K : St → Prop} {s : St} : wpR P T N ops [] K s ↔ K s := ⟨fun ⟨_, h, hk⟩ => by cases h; exact hk, wpR_nil⟩
theorem e_cons {ops : Array Oper} {o : Oper} {r : List Oper} {K : St → Prop} {s : St} : wpR P T N ops (o :: r) K s ↔ wpS P T N ops o (wpR P T N ops r K) s := by
  refine ⟨fun ⟨s', h, hk⟩ => ?_, wpR_cons⟩
  simp only [runV] at h
  split at h
  case h_2 => cases h
  rename_i s1 h1
  exact ⟨s1, h1, s', h, hk⟩

/-- A value is put into a slot. -/
def putK (N : Fx) (d : Option Tmp) (e : Nat → AV) (H : Hp) (a : AV) (K : St → Prop) : Prop :=
  match d with
  | none => K ⟨e, H⟩
  | some d => d < N.N ∧ K ⟨upd e d a, H⟩

/-- What becomes of an operation's answer. -/
def rdK (N : Fx) (d : Option Tmp) (e : Nat → AV) (H : Hp) (r : RR) (K : St → Prop) : Prop :=
  match r with
  | some (a, news, ms) => putK N d e (frzAll (H ++ news) ms) a K
  | none => False

def wrK (N : Fx) (d : Option Tmp) (e : Nat → AV) (r : Option (AV × Hp)) (K : St → Prop) : Prop :=
  match r with
  | some (a, H) => putK N d e H a K
  | none => False

theorem putV_iff {e : Nat → AV} {H : Hp} {d : Option Tmp} {a : AV} {K : St → Prop} : (∃ s', putV N ⟨e, H⟩ d a = some s' ∧ K s') ↔ putK N d e H a K := by
  cases d with
  | none => simp [putV, putK]
  | some d =>
    simp only [putV, putK]
    constructor
    · rintro ⟨s', h, hk⟩
      split at h
      case isFalse => cases h
      rename_i hd
      cases h
      exact ⟨hd, hk⟩
    · rintro ⟨hd, hk⟩
      exact ⟨_, if_pos hd, hk⟩

/-- An operation that only reads or makes, without a guard. -/
theorem e_rd {ops : Array Oper} {K : St → Prop} {e : Nat → AV} {H : Hp} {d : Option Tmp} {op : Op} {ty : TypeId} {pos : String} {aft : Array Edge} (hw : isWr P N ⟨d, op, ty, pos, aft, none⟩ = false) :
    wpS P T N ops ⟨d, op, ty, pos, aft, none⟩ K ⟨e, H⟩ ↔ rdK N d e H (vrd P T N.nest H H.length (evo e) ⟨d, op, ty, pos, aft, none⟩) K := by
  unfold wpS stepV
  simp only [wantV, hw, Bool.false_eq_true, if_false]
  cases hv : vrd P T N.nest H H.length (evo e) ⟨d, op, ty, pos, aft, none⟩ with
  | none => simp [rdK]
  | some r =>
    obtain ⟨a, news, ms⟩ := r
    simp only [rdK]
    rw [putV_iff]

theorem e_wr {ops : Array Oper} {K : St → Prop} {e : Nat → AV} {H : Hp} {d : Option Tmp} {op : Op} {ty : TypeId} {pos : String} {aft : Array Edge} (hw : isWr P N ⟨d, op, ty, pos, aft, none⟩ = true) :
    wpS P T N ops ⟨d, op, ty, pos, aft, none⟩ K ⟨e, H⟩ ↔ wrK N d e (vwr P T N H (evo e) ⟨d, op, ty, pos, aft, none⟩) K := by
  unfold wpS stepV
  simp only [wantV, hw, if_true]
  cases hv : vwr P T N H (evo e) ⟨d, op, ty, pos, aft, none⟩ with
  | none => simp [wrK]
  | some r =>
    obtain ⟨a, L⟩ := r
    simp only [wrK]
    rw [putV_iff]

def guardK (v : Option AV) (want : Bool) (yes no : Prop) : Prop :=
  match v with
  | some (.one (.c (.v (.bool b)))) => if b = want then yes else no
  | some (.tup []) => no
  | _ => False

/-- An operation with a guard. -/
theorem e_grd {ops : Array Oper} {K : St → Prop} {e : Nat → AV} {H : Hp} {d : Option Tmp} {op : Op} {ty : TypeId} {pos : String} {aft : Array Edge} {j : Nat} {want : Bool} :
    wpS P T N ops ⟨d, op, ty, pos, aft, some (j, want)⟩ K ⟨e, H⟩ ↔ guardK (((ops[j]?).bind (·.dst)).map e) want
      (wpS P T N ops ⟨d, op, ty, pos, aft, none⟩ K ⟨e, H⟩)
      (putK N d e H und K) := by
  have hvr : ∀ g, vrd P T N.nest H H.length (evo e) ⟨d, op, ty, pos, aft, g⟩ = vrd P T N.nest H H.length (evo e) ⟨d, op, ty, pos, aft, none⟩ := fun g => rfl
  have hvw : ∀ g, vwr P T N H (evo e) ⟨d, op, ty, pos, aft, g⟩ = vwr P T N H (evo e) ⟨d, op, ty, pos, aft, none⟩ := fun g => rfl
  have hw : ∀ g, isWr P N ⟨d, op, ty, pos, aft, g⟩ = isWr P N ⟨d, op, ty, pos, aft, none⟩ := fun g => rfl
  have hno : (∃ s', putV N ⟨e, H⟩ d und = some s' ∧ K s') ↔ putK N d e H und K := putV_iff
  unfold wpS stepV
  simp only [wantV]
  cases hd : (ops[j]?).bind (·.dst) with
  | none => simp [guardK]
  | some k =>
    simp only [Option.map_some]
    generalize e k = v
    cases v with
    | one c =>
      cases c with
      | c x =>
        cases x with
        | v x =>
          cases x with
          | bool b =>
            simp only [guardK]
            by_cases hbw : b = want
            · subst hbw
              simp only [beq_self_eq_true, if_true]
              rw [hvr, hvw, hw]
            · have : (b == want) = false := by simp [hbw]
              rw [this, if_neg hbw]
              exact hno
          | _ => simp [guardK]
        | _ => simp [guardK]
      | _ => simp [guardK]
    | agg l => simp [guardK]
    | tup l =>
      cases l with
      | nil => exact hno
      | cons _ _ => simp [guardK]

theorem upd_get {e : Nat → AV} {k j : Nat} {a : AV} : upd e k a j = if j = k then a else e j := rfl

end Go.Proofs.Vm
end

section
/- The value machine's operations ags rewriting rules. -/
namespace Go.Proofs.Vm
open Go

variable {P : Program} {T : Tab} {N : Fx} {H : Hp}

@[simp] theorem pv_pure {α : Type} (a : α) : pv P (Pure.pure a : Sem α) = some a := rfl
@[simp] theorem pv_pure' {α : Type} (a : α) : pv P (Sem.pure a : Sem α) = some a := rfl
@[simp] theorem pv_program : pv P program = some P := rfl

theorem pv_sbind {α β : Type} (x : Sem α) (f : α → Sem β) : pv P (x.bind f) = (pv P x).bind fun a => pv P (f a) := by
  induction x with
  | pure a => rfl
  | program k ih => exact ih P
  | _ => rfl

@[simp] theorem pv_bind {α β : Type} (x : Sem α) (f : α → Sem β) : pv P (x >>= f) = (pv P x).bind fun a => pv P (f a) := pv_sbind x f
@[simp] theorem pv_map {α β : Type} (x : Sem α) (f : α → β) : pv P (f <$> x) = (pv P x).map f := by
  have := pv_sbind (P := P) x (fun a => Sem.pure (f a))
  cases hx : pv P x <;> simp [hx] at this ⊢ <;> exact this

abbrev vI (k : IntKind) (n : Int) : AV := .one (.c (.v (.int k n)))
abbrev vB (b : Bool) : AV := .one (.c (.v (.bool b)))
abbrev vS (s : ByteArray) : AV := .one (.c (.v (.string s)))
abbrev cI (k : IntKind) (n : Int) : CA := .one (.v (.int k n))
abbrev cB (b : Bool) : CA := .one (.v (.bool b))
abbrev cS (s : ByteArray) : CA := .one (.v (.string s))

section
variable {t : TypeId} {x y : Operand} {k : IntKind} {a b : Int}

theorem bin_add : vbin P H .add t x y (vI k a) (vI k b) = qa (vI k (k.wrap (a + b))) := by
  simp [vbin, vbin0, neSl, isNils, isPtr, isNilp, AV.sc, Cell.sc, eqGuard, binOp, Op.intArith, ofPv, one?, Value.oneCell']
theorem bin_sub : vbin P H .sub t x y (vI k a) (vI k b) = qa (vI k (k.wrap (a - b))) := by
  simp [vbin, vbin0, neSl, isNils, isPtr, isNilp, AV.sc, Cell.sc, eqGuard, binOp, Op.intArith, ofPv, one?, Value.oneCell']
theorem bin_mul : vbin P H .mul t x y (vI k a) (vI k b) = qa (vI k (k.wrap (a * b))) := by
  simp [vbin, vbin0, neSl, isNils, isPtr, isNilp, AV.sc, Cell.sc, eqGuard, binOp, Op.intArith, ofPv, one?, Value.oneCell']
theorem bin_quo (h : b ≠ 0) : vbin P H .quo t x y (vI k a) (vI k b) = qa (vI k (k.wrap (a.tdiv b))) := by
  simp [vbin, vbin0, neSl, isNils, isPtr, isNilp, AV.sc, Cell.sc, eqGuard, binOp, Op.intDiv, ofPv, one?, Value.oneCell', h]
theorem bin_rem (h : b ≠ 0) : vbin P H .rem t x y (vI k a) (vI k b) = qa (vI k (a.tmod b)) := by
  simp [vbin, vbin0, neSl, isNils, isPtr, isNilp, AV.sc, Cell.sc, eqGuard, binOp, Op.intDiv, ofPv, one?, Value.oneCell', h]
theorem bin_and : vbin P H .and t x y (vI k a) (vI k b) = qa (vI k (k.wrap (BitVec.ofInt k.bits a &&& BitVec.ofInt k.bits b).toNat)) := by
  simp [vbin, vbin0, neSl, isNils, isPtr, isNilp, AV.sc, Cell.sc, eqGuard, binOp, Op.intBits, ofPv, one?, Value.oneCell']
theorem bin_or : vbin P H .or t x y (vI k a) (vI k b) = qa (vI k (k.wrap (BitVec.ofInt k.bits a ||| BitVec.ofInt k.bits b).toNat)) := by
  simp [vbin, vbin0, neSl, isNils, isPtr, isNilp, AV.sc, Cell.sc, eqGuard, binOp, Op.intBits, ofPv, one?, Value.oneCell']
theorem bin_xor : vbin P H .xor t x y (vI k a) (vI k b) = qa (vI k (k.wrap (BitVec.ofInt k.bits a ^^^ BitVec.ofInt k.bits b).toNat)) := by
  simp [vbin, vbin0, neSl, isNils, isPtr, isNilp, AV.sc, Cell.sc, eqGuard, binOp, Op.intBits, ofPv, one?, Value.oneCell']
theorem bin_shl {k' : IntKind} (h : 0 ≤ b) : vbin P H .shl t x y (vI k a) (vI k' b) = qa (vI k (k.wrap (a * 2 ^ (min b.toNat k.bits)))) := by
  have : ¬ b < 0 := by omega
  simp [vbin, vbin0, neSl, isNils, isPtr, isNilp, AV.sc, Cell.sc, eqGuard, binOp, Op.shift, ofPv, one?, Value.oneCell', this]
theorem bin_shr {k' : IntKind} (h : 0 ≤ b) : vbin P H .shr t x y (vI k a) (vI k' b) = qa (vI k (a.fdiv (2 ^ (min b.toNat k.bits)))) := by
  have : ¬ b < 0 := by omega
  simp [vbin, vbin0, neSl, isNils, isPtr, isNilp, AV.sc, Cell.sc, eqGuard, binOp, Op.shift, ofPv, one?, Value.oneCell', this]
theorem bin_eql : vbin P H .eql t x y (vI k a) (vI k b) = qa (vB (a == b)) := by
  simp [vbin, vbin0, neSl, isNils, isPtr, isNilp, AV.sc, Cell.sc, eqGuard, binOp, Op.intCmp, ofPv, one?, Value.oneCell']
theorem bin_neq : vbin P H .neq t x y (vI k a) (vI k b) = qa (vB (a != b)) := by
  simp [vbin, vbin0, neSl, isNils, isPtr, isNilp, AV.sc, Cell.sc, eqGuard, binOp, Op.intCmp, ofPv, one?, Value.oneCell']
theorem bin_lss : vbin P H .lss t x y (vI k a) (vI k b) = qa (vB (decide (a < b))) := by
  simp [vbin, vbin0, neSl, isNils, isPtr, isNilp, AV.sc, Cell.sc, eqGuard, binOp, Op.intCmp, ofPv, one?, Value.oneCell']
theorem bin_leq : vbin P H .leq t x y (vI k a) (vI k b) = qa (vB (decide (a ≤ b))) := by
  simp [vbin, vbin0, neSl, isNils, isPtr, isNilp, AV.sc, Cell.sc, eqGuard, binOp, Op.intCmp, ofPv, one?, Value.oneCell']
theorem bin_gtr : vbin P H .gtr t x y (vI k a) (vI k b) = qa (vB (decide (a > b))) := by
  simp [vbin, vbin0, neSl, isNils, isPtr, isNilp, AV.sc, Cell.sc, eqGuard, binOp, Op.intCmp, ofPv, one?, Value.oneCell']
theorem bin_geq : vbin P H .geq t x y (vI k a) (vI k b) = qa (vB (decide (a ≥ b))) := by
  simp [vbin, vbin0, neSl, isNils, isPtr, isNilp, AV.sc, Cell.sc, eqGuard, binOp, Op.intCmp, ofPv, one?, Value.oneCell']

theorem sbin_eql {u v : ByteArray} : vbin P H .eql t x y (vS u) (vS v) = qa (vB (u.toList == v.toList)) := by
  simp [vbin, vbin0, neSl, isNils, isPtr, isNilp, AV.sc, Cell.sc, eqGuard, binOp, Op.stringOp, ofPv, one?, Value.oneCell']
theorem sbin_neq {u v : ByteArray} : vbin P H .neq t x y (vS u) (vS v) = qa (vB (!(u.toList == v.toList))) := by
  simp [vbin, vbin0, neSl, isNils, isPtr, isNilp, AV.sc, Cell.sc, eqGuard, binOp, Op.stringOp, ofPv, one?, Value.oneCell']
theorem sbin_lss {u v : ByteArray} : vbin P H .lss t x y (vS u) (vS v) = qa (vB (Op.bytesLess u.toList v.toList)) := by
  simp [vbin, vbin0, neSl, isNils, isPtr, isNilp, AV.sc, Cell.sc, eqGuard, binOp, Op.stringOp, ofPv, one?, Value.oneCell']

theorem un_not {b : Bool} : vun P .not (vB b) = qa (vB (!b)) := by simp [vun, AV.sc, Cell.sc, Op.unary, ofPv, one?, Value.oneCell']
theorem un_neg : vun P .neg (vI k a) = qa (vI k (k.wrap (0 - a))) := by simp [vun, AV.sc, Cell.sc, Op.unary, Op.intArith, ofPv, one?, Value.oneCell']
end

def on1 (a : Option AV) (f : AV → RR) : RR := match a with | some a => f a | none => none
def on2 (a b : Option AV) (f : AV → AV → RR) : RR := match a, b with | some a, some b => f a b | _, _ => none
def onL (l : Option (List AV)) (f : List AV → RR) : RR := match l with | some l => f l | none => none
def onW (l : Option (List AV)) (f : List AV → Option (AV × Hp)) : Option (AV × Hp) := match l with | some l => f l | none => none
def onC (a : Option AV) (l : Option (List AV)) (f : AV → List AV → RR) : RR := match a, l with | some a, some l => f a l | _, _ => none
def onS (a : Option AV) (x y z : Option (Option AV)) (f : AV → Option AV → Option AV → Option AV → RR) : RR := match a, x, y, z with | some a, some x, some y, some z => f a x y z | _, _, _, _ => none
def vindex (P : Program) (t : TypeId) (a b : AV) : RR := match a.sc, b.sc with | some u, some v => ofPv (pv P (Instr.index t u v)) | _, _ => none
def vmax (P : Program) (ts : Array TypeId) (ty : TypeId) (l : List AV) : RR := match scsAV l with | some vs => ofPv (pv P (Builtin.max_ ts ty vs.toArray)) | none => none
def vmin (P : Program) (ts : Array TypeId) (ty : TypeId) (l : List AV) : RR := match scsAV l with | some vs => ofPv (pv P (Builtin.min_ ts ty vs.toArray)) | none => none

def on1W (a : Option AV) (f : AV → Option (AV × Hp)) : Option (AV × Hp) := match a with | some a => f a | none => none
def on2W (a b : Option AV) (f : AV → AV → Option (AV × Hp)) : Option (AV × Hp) := match a, b with | some a, some b => f a b | _, _ => none
def on3W (a b c : Option AV) (f : AV → AV → AV → Option (AV × Hp)) : Option (AV × Hp) := match a, b, c with | some a, some b, some c => f a b c | _, _, _ => none
@[simp] theorem on1W_some (a : AV) (f : AV → Option (AV × Hp)) : on1W (some a) f = f a := rfl
@[simp] theorem on2W_some (a b : AV) (f : AV → AV → Option (AV × Hp)) : on2W (some a) (some b) f = f a b := rfl
@[simp] theorem on3W_some (a b c : AV) (f : AV → AV → AV → Option (AV × Hp)) : on3W (some a) (some b) (some c) f = f a b c := rfl

@[simp] theorem on1_some (a : AV) (f : AV → RR) : on1 (some a) f = f a := rfl
@[simp] theorem on2_some (a b : AV) (f : AV → AV → RR) : on2 (some a) (some b) f = f a b := rfl
@[simp] theorem onL_some (a : List AV) (f : List AV → RR) : onL (some a) f = f a := rfl
@[simp] theorem onW_some (a : List AV) (f : List AV → Option (AV × Hp)) : onW (some a) f = f a := rfl
@[simp] theorem onC_some (a : AV) (l : List AV) (f : AV → List AV → RR) : onC (some a) (some l) f = f a l := rfl
@[simp] theorem onS_some (a : AV) (x y z : Option AV) (f : AV → Option AV → Option AV → Option AV → RR) : onS (some a) (some x) (some y) (some z) f = f a x y z := rfl
@[simp] theorem optOp_none (ρ : Operand → Option AV) : optOp ρ none = some none := rfl
@[simp] theorem optOp_some (ρ : Operand → Option AV) (x : Operand) : optOp ρ (some x) = (ρ x).map some := rfl

section
variable {ops : Array Oper} {K : St → Prop} {e : Nat → AV} {d : Option Tmp} {ty : TypeId} {pos : String} {aft : Array Edge}
theorem s_move {x : Operand} : wpS P T N ops ⟨d, .move x, ty, pos, aft, none⟩ K ⟨e, H⟩ ↔ rdK N d e H (vmove (evo e) H.length x) K := e_rd rfl
theorem s_assign {x : Operand} : wpS P T N ops ⟨d, .assign x, ty, pos, aft, none⟩ K ⟨e, H⟩ ↔ rdK N d e H (vmove (evo e) H.length x) K := e_rd rfl
theorem s_pick {a b c : Operand} : wpS P T N ops ⟨d, .pick a b c, ty, pos, aft, none⟩ K ⟨e, H⟩ ↔ rdK N d e H (vpick (evo e) a b c) K := e_rd rfl
theorem s_alloc {t : TypeId} : wpS P T N ops ⟨d, .alloc t, ty, pos, aft, none⟩ K ⟨e, H⟩ ↔ rdK N d e H (valloc P H.length t) K := e_rd rfl
theorem s_box {t : TypeId} {x : Operand} : wpS P T N ops ⟨d, .box t x, ty, pos, aft, none⟩ K ⟨e, H⟩ ↔ rdK N d e H (on1 (evo e x) (vbox H.length)) K := e_rd rfl
theorem s_build {t : TypeId} {ps : Array (Nat × Operand)} : wpS P T N ops ⟨d, .build t ps, ty, pos, aft, none⟩ K ⟨e, H⟩ ↔ rdK N d e H (vbuild P H.length (evo e) t ps.toList) K := e_rd rfl
theorem s_buildSlice {t : TypeId} {n : Nat} {ps : Array (Nat × Operand)} : wpS P T N ops ⟨d, .buildSlice t n ps, ty, pos, aft, none⟩ K ⟨e, H⟩ ↔ rdK N d e H (vbuildSlice P H H.length (evo e) t n ps.toList) K := e_rd rfl
theorem s_load {t : TypeId} {x : Operand} : wpS P T N ops ⟨d, .load t x, ty, pos, aft, none⟩ K ⟨e, H⟩ ↔ rdK N d e H (on1 (evo e x) (vload P H t)) K := e_rd rfl
theorem s_nilCheck {x : Operand} : wpS P T N ops ⟨d, .nilCheck x, ty, pos, aft, none⟩ K ⟨e, H⟩ ↔ rdK N d e H (on1 (evo e x) (vnil H)) K := e_rd rfl
theorem s_binOp {o : BinOp} {t t' : TypeId} {x y : Operand} : wpS P T N ops ⟨d, .binOp o t x y t', ty, pos, aft, none⟩ K ⟨e, H⟩ ↔ rdK N d e H (on2 (evo e x) (evo e y) (vbin P H o t x y)) K := e_rd rfl
theorem s_unOp {o : UnOp} {t : TypeId} {x : Operand} : wpS P T N ops ⟨d, .unOp o t x, ty, pos, aft, none⟩ K ⟨e, H⟩ ↔ rdK N d e H (on1 (evo e x) (vun P o)) K := e_rd rfl
theorem s_convert {t t' : TypeId} {x : Operand} (h : isU8 P t = false) (h' : isU8 P t' = false) : wpS P T N ops ⟨d, .convert t t' x, ty, pos, aft, none⟩ K ⟨e, H⟩ ↔ rdK N d e H (on1 (evo e x) (vconvert P t t')) K := e_rd (by simp [isWr, h, h'])
theorem s_convW {t t' : TypeId} {x : Operand} (h : (isU8 P t || isU8 P t') = true) : wpS P T N ops ⟨d, .convert t t' x, ty, pos, aft, none⟩ K ⟨e, H⟩ ↔ wrK N d e (on1W (evo e x) (vconvW P H t t')) K := e_wr (by simp only [isWr]; exact h)
theorem s_makeMap {t : TypeId} : wpS P T N ops ⟨d, .makeMap t none, ty, pos, aft, none⟩ K ⟨e, H⟩ ↔ wrK N d e (vmakeMap H) K := e_wr rfl
theorem s_lookup {t : TypeId} {x y : Operand} {c : Bool} : wpS P T N ops ⟨d, .lookup t x y c, ty, pos, aft, none⟩ K ⟨e, H⟩ ↔ rdK N d e H (on2 (evo e x) (evo e y) fun a b => vlookup P H t a b c) K := e_rd rfl
theorem s_mapUpdate {t : TypeId} {x y z : Operand} : wpS P T N ops ⟨d, .mapUpdate t x y z, ty, pos, aft, none⟩ K ⟨e, H⟩ ↔ wrK N d e (on3W (evo e x) (evo e y) (evo e z) (vmapUpdate P H t)) K := e_wr rfl
theorem s_mapEntry {t : TypeId} {x y : Operand} : wpS P T N ops ⟨d, .mapEntry t x y, ty, pos, aft, none⟩ K ⟨e, H⟩ ↔ wrK N d e (on2W (evo e x) (evo e y) (vmapEntry P H t)) K := e_wr rfl
theorem s_entryStore {t : TypeId} {x y z : Operand} : wpS P T N ops ⟨d, .entryStore t x y z, ty, pos, aft, none⟩ K ⟨e, H⟩ ↔ wrK N d e (on3W (evo e x) (evo e y) (evo e z) (ventryStore H)) K := e_wr rfl
theorem s_delete {x y : Operand} {t t' : TypeId} : wpS P T N ops ⟨d, .call ⟨.builtin .delete, #[x, y], #[t, t']⟩, ty, pos, aft, none⟩ K ⟨e, H⟩ ↔ wrK N d e (on2W (evo e x) (evo e y) (vdelete P H t)) K := e_wr rfl
theorem s_copy {x y : Operand} {t t' : TypeId} : wpS P T N ops ⟨d, .call ⟨.builtin .copy, #[x, y], #[t, t']⟩, ty, pos, aft, none⟩ K ⟨e, H⟩ ↔ wrK N d e (on2W (evo e x) (evo e y) (vcopy P H t)) K := e_wr rfl
theorem s_makeFunc {fn : Fn} {a b : Array Operand} : wpS P T N ops ⟨d, .makeFunc fn a b, ty, pos, aft, none⟩ K ⟨e, H⟩ ↔ rdK N d e H (onL (mapO (evo e) b.toList) (vmakeFunc fn a.toList)) K := e_rd rfl
theorem s_makeSlice {t : TypeId} {x y : Operand} : wpS P T N ops ⟨d, .makeSlice t x y, ty, pos, aft, none⟩ K ⟨e, H⟩ ↔ rdK N d e H (on2 (evo e x) (evo e y) (vmakeSlice P N.nest H.length t)) K := e_rd rfl
theorem s_slice {t : TypeId} {x : Operand} {lo hi mx : Option Operand} : wpS P T N ops ⟨d, .slice t x lo hi mx, ty, pos, aft, none⟩ K ⟨e, H⟩ ↔ rdK N d e H (onS (evo e x) (optOp (evo e) lo) (optOp (evo e) hi) (optOp (evo e) mx) (vslice P H H.length t)) K := e_rd rfl
theorem s_fieldAddr {t : TypeId} {x : Operand} {f : Nat} : wpS P T N ops ⟨d, .fieldAddr t x f, ty, pos, aft, none⟩ K ⟨e, H⟩ ↔ rdK N d e H (on1 (evo e x) (vfieldAddr P H t f)) K := e_rd rfl
theorem s_field {t : TypeId} {x : Operand} {f : Nat} : wpS P T N ops ⟨d, .field t x f, ty, pos, aft, none⟩ K ⟨e, H⟩ ↔ rdK N d e H (on1 (evo e x) (vfield P t f)) K := e_rd rfl
theorem s_indexAddr {t : TypeId} {x y : Operand} : wpS P T N ops ⟨d, .indexAddr t x y, ty, pos, aft, none⟩ K ⟨e, H⟩ ↔ rdK N d e H (on2 (evo e x) (evo e y) (vindexAddr P H t)) K := e_rd rfl
theorem s_index {t : TypeId} {x y : Operand} : wpS P T N ops ⟨d, .index t x y, ty, pos, aft, none⟩ K ⟨e, H⟩ ↔ rdK N d e H (on2 (evo e x) (evo e y) (vindex P t)) K := e_rd rfl
theorem s_extract {x : Operand} {i : Nat} : wpS P T N ops ⟨d, .extract x i, ty, pos, aft, none⟩ K ⟨e, H⟩ ↔ rdK N d e H (on1 (evo e x) fun a => vextract a i) K := e_rd rfl
theorem s_call {g : FuncId} {ags : Array Operand} {ts : Array TypeId} (h : N.sh g = false) : wpS P T N ops ⟨d, .call ⟨.value (.func g), ags, ts⟩, ty, pos, aft, none⟩ K ⟨e, H⟩ ↔ rdK N d e H (onC (evo e (.func g)) (mapO (evo e) ags.toList) (vcall T H)) K := e_rd h
theorem s_callv {t : Nat} {ags : Array Operand} {ts : Array TypeId} : wpS P T N ops ⟨d, .call ⟨.value (.tmp t), ags, ts⟩, ty, pos, aft, none⟩ K ⟨e, H⟩ ↔ rdK N d e H (onC (some (e t)) (mapO (evo e) ags.toList) (vcall T H)) K := e_rd rfl
theorem s_calls {g : FuncId} {ags : Array Operand} {ts : Array TypeId} (h : N.sh g = true) : wpS P T N ops ⟨d, .call ⟨.value (.func g), ags, ts⟩, ty, pos, aft, none⟩ K ⟨e, H⟩ ↔ wrK N d e (onW (mapO (evo e) ags.toList) fun l => T.S g l H) K := by
  have hw : isWr P N ⟨d, .call ⟨.value (.func g), ags, ts⟩, ty, pos, aft, none⟩ = true := h
  rw [e_wr hw]
  simp only [vwr, h, if_true]
  cases mapO (evo e) ags.toList <;> rfl
theorem s_len {x : Operand} {ts : Array TypeId} : wpS P T N ops ⟨d, .call ⟨.builtin .len, #[x], ts⟩, ty, pos, aft, none⟩ K ⟨e, H⟩ ↔ rdK N d e H (on1 (evo e x) (vlen P H ts ty)) K := e_rd rfl
theorem s_max {ags : Array Operand} {ts : Array TypeId} : wpS P T N ops ⟨d, .call ⟨.builtin .max, ags, ts⟩, ty, pos, aft, none⟩ K ⟨e, H⟩ ↔ rdK N d e H (onL (mapO (evo e) ags.toList) (vmax P ts ty)) K := e_rd rfl
theorem s_min {ags : Array Operand} {ts : Array TypeId} : wpS P T N ops ⟨d, .call ⟨.builtin .min, ags, ts⟩, ty, pos, aft, none⟩ K ⟨e, H⟩ ↔ rdK N d e H (onL (mapO (evo e) ags.toList) (vmin P ts ty)) K := e_rd rfl
theorem s_store {t : TypeId} {x y : Operand} : wpS P T N ops ⟨d, .store t x y, ty, pos, aft, none⟩ K ⟨e, H⟩ ↔ wrK N d e (vwr P T N H (evo e) ⟨d, .store t x y, ty, pos, aft, none⟩) K := e_wr rfl
theorem s_append {ags : Array Operand} {ts : Array TypeId} : wpS P T N ops ⟨d, .call ⟨.builtin .append, ags, ts⟩, ty, pos, aft, none⟩ K ⟨e, H⟩ ↔ wrK N d e (vwr P T N H (evo e) ⟨d, .call ⟨.builtin .append, ags, ts⟩, ty, pos, aft, none⟩) K := e_wr rfl
end

theorem rd_some {d : Option Tmp} {e : Nat → AV} {a : AV} {news : List Ent} {ms : List Nat} {K : St → Prop} : rdK N d e H (some (a, news, ms)) K ↔ putK N d e (frzAll (H ++ news) ms) a K := Iff.rfl
theorem rd_qa {d : Option Tmp} {e : Nat → AV} {a : AV} {K : St → Prop} : rdK N d e H (qa a) K ↔ putK N d e H a K := by simp [qa, rdK, frzAll]
theorem put_some {d : Tmp} {e : Nat → AV} {a : AV} {K : St → Prop} : putK N (some d) e H a K ↔ d < N.N ∧ K ⟨upd e d a, H⟩ := Iff.rfl
theorem put_none {e : Nat → AV} {a : AV} {K : St → Prop} : putK N none e H a K ↔ K ⟨e, H⟩ := Iff.rfl
theorem wr_some {d : Option Tmp} {e : Nat → AV} {a : AV} {K : St → Prop} : wrK N d e (some (a, H)) K ↔ putK N d e H a K := Iff.rfl
theorem frz_nil : frzAll H [] = H := rfl

theorem ev_tmp {e : Nat → AV} {t : Nat} : evo e (.tmp t) = some (e t) := rfl
theorem ev_int {e : Nat → AV} {k : IntKind} {n : Int} : evo e (.const (.int k n)) = some (vI k n) := rfl
theorem ev_bool {e : Nat → AV} {b : Bool} : evo e (.const (.bool b)) = some (vB b) := rfl
theorem ev_str {e : Nat → AV} {s : ByteArray} : evo e (.const (.string s)) = some (vS s) := rfl
theorem ev_func {e : Nat → AV} {f : FuncId} : evo e (.func f) = some (.one (.fn f [])) := rfl
theorem ev_nil {e : Nat → AV} : evo e (.const (.slice none 0 0)) = some (.one (.c (.v (.slice none 0 0)))) := rfl
theorem ev_nilp {e : Nat → AV} : evo e (.const (.pointer none)) = some (.one (.c (.v (.pointer none)))) := rfl

theorem isNil_tmp {t : Nat} : isNil (.tmp t) = false := rfl
theorem isNil_int {k : IntKind} {n : Int} : isNil (.const (.int k n)) = false := rfl
theorem isNil_bool {b : Bool} : isNil (.const (.bool b)) = false := rfl
theorem isNil_str {s : ByteArray} : isNil (.const (.string s)) = false := rfl
theorem isNil_nil : isNil (.const (.slice none 0 0)) = true := rfl

theorem then_n {A : St → Prop} {K : Ex → St → Prop} {s : St} : thenK A K .normal s = A s := rfl
theorem then_e {A : St → Prop} {K : Ex → St → Prop} {s : St} {i : Nat} : thenK A K (.exit i) s = K (.exit i) s := rfl
theorem then_r {A : St → Prop} {K : Ex → St → Prop} {s : St} : thenK A K .ret s = K .ret s := rfl
theorem block_n {K : Ex → St → Prop} {s : St} {i : Nat} : blockK i K .normal s = K .normal s := rfl
theorem block_e {K : Ex → St → Prop} {s : St} {i j : Nat} : blockK i K (.exit j) s = if j = i then K .normal s else K (.exit j) s := rfl
theorem block_r {K : Ex → St → Prop} {s : St} {i : Nat} : blockK i K .ret s = K .ret s := rfl
theorem end_n {rs : List ResultVar} {r : CA} {s : St} : endK P rs r .normal s ↔ ∃ l a, mapO (vres P s) rs = some l ∧ join l = some a ∧ fza s.H a = some r := Iff.rfl
theorem ends_n {rs : List ResultVar} {r : AV} {H' : Hp} {s : St} : endS P rs r H' .normal s ↔ ∃ l, mapO (vres P s) rs = some l ∧ join l = some r ∧ s.H = H' := Iff.rfl
theorem ends_r {rs : List ResultVar} {r : AV} {H' : Hp} {s : St} : endS P rs r H' .ret s ↔ ∃ l, mapO (vres P s) rs = some l ∧ join l = some r ∧ s.H = H' := Iff.rfl
theorem end_r {rs : List ResultVar} {r : CA} {s : St} : endK P rs r .ret s ↔ ∃ l a, mapO (vres P s) rs = some l ∧ join l = some a ∧ fza s.H a = some r := Iff.rfl

theorem g_bool {b want : Bool} {yes no : Prop} : guardK (some (vB b)) want yes no ↔ if b = want then yes else no := Iff.rfl
theorem g_und {want : Bool} {yes no : Prop} : guardK (some und) want yes no ↔ no := Iff.rfl

end Go.Proofs.Vm
end

section
/- The value machine's operations over a table of types, as rewriting rules. -/
namespace Go.Proofs.Vm
open Go

variable {P : Program} {T : Tab} {N : Fx} {H : Hp}

def offOf (P : Program) (s : TypeId) (f : Nat) : Option Nat :=
  match fieldOf P s f with
  | some fd => match pv P (sizeOf fd.type) with
    | some (_ + 1) => some fd.offset
    | _ => none
  | none => none

def fldOf (P : Program) (s : TypeId) (f : Nat) : Option (Nat × Option Nat) :=
  match fieldOf P s f with
  | some fd => match pv P (isAgg fd.type) with
    | some true => match pv P (sizeOf fd.type) with
      | some n => some (fd.offset, some n)
      | none => none
    | some false => some (fd.offset, none)
    | none => none
  | none => none

def ldOf (P : Program) (t : TypeId) : Option (Option Nat) :=
  match pv P (isAgg t) with
  | some true => match pv P (sizeOf t) with
    | some n => some (some n)
    | none => none
  | some false => some none
  | none => none

def zOf (P : Program) (t : TypeId) : Option (List Value) :=
  match pv P (zeroValue t) with
  | some z => if z.cells.toList.all (·.oneCell') then some z.cells.toList else none
  | none => none

def bldOf (P : Program) (t : TypeId) : Option (List Value × List (Nat × Nat)) :=
  match zOf P t, pv P (underlying t) with
  | some z, some (.struct fields) => match placesOf P fields.toList with
    | some pl => some (z, pl)
    | none => none
  | _, _ => none

/-- Of an element's type: its cells, its bytes, its zero. -/
def elOf (P : Program) (e : TypeId) : Option (Nat × Nat × List CV) :=
  match pv P (typeInfo e), zOf P e with
  | some i, some z => if z.length = i.size then some (i.size, i.bytes, z.map nrm) else none
  | _, _ => none

theorem vfieldAddr_eq {s : TypeId} {f : Nat} {a : AV} : vfieldAddr P H s f a = match offOf P s f with | some n => shift H a n | none => none := by
  unfold vfieldAddr offOf
  cases fieldOf P s f with
  | none => rfl
  | some fd =>
    dsimp only
    cases pv P (sizeOf fd.type) with
    | none => rfl
    | some n => cases n <;> rfl

theorem vload_eq {t : TypeId} {a : AV} : vload P H t a = match behind H a, ldOf P t with
    | some cs, some (some n) => if n ≤ cs.length then qa (.agg (cs.take n)) else none
    | some (c :: _), some none => qa (.one c)
    | _, _ => none := by
  unfold vload ldOf
  cases behind H a with
  | none => rfl
  | some cs =>
    dsimp only
    cases pv P (isAgg t) with
    | none => cases cs <;> rfl
    | some b =>
      cases b with
      | true =>
        dsimp only
        cases pv P (sizeOf t) with
        | none => cases cs <;> rfl
        | some n => rfl
      | false => cases cs <;> rfl

theorem vfield_eq {s : TypeId} {f : Nat} {l : List Cell} : vfield P s f (.agg l) = match fldOf P s f with
    | some (o, some n) => if o + n ≤ l.length then qa (.agg ((l.drop o).take n)) else none
    | some (o, none) => match l[o]? with
      | some c => qa (.one c)
      | none => none
    | none => none := by
  unfold vfield fldOf
  cases fieldOf P s f with
  | none => rfl
  | some fd =>
    dsimp only
    cases pv P (isAgg fd.type) with
    | none => rfl
    | some b =>
      cases b with
      | true =>
        dsimp only
        cases pv P (sizeOf fd.type) <;> rfl
      | false => rfl

theorem valloc_eq {nid : Nat} {t : TypeId} : valloc P nid t = match zOf P t with
    | some z => some (.one (.ptr ⟨nid, 0, 0, 1⟩), .opn [(ownz (nid + 1) z).1] false :: (ownz (nid + 1) z).2, [])
    | none => none := by
  unfold valloc zOf
  cases pv P (zeroValue t) with
  | none => rfl
  | some z =>
    dsimp only
    split <;> rfl

theorem vbuild_eq {nid : Nat} {ρ : Operand → Option AV} {t : TypeId} {ps : List (Nat × Operand)} : vbuild P nid ρ t ps = match bldOf P t, partsOf ρ ps with
    | some (z, pl), some qs => match vfill (pl[·]?) (ownz nid z).1 qs with
      | some cells => some (.agg cells, (ownz nid z).2, [])
      | none => none
    | _, _ => none := by
  unfold vbuild bldOf zOf
  cases pv P (zeroValue t) with
  | none => rfl
  | some z =>
    dsimp only
    cases hu : pv P (underlying t) with
    | none =>
      by_cases hz : z.cells.toList.all (·.oneCell') = true
      · rw [if_pos hz]
      · rw [if_neg hz]
    | some d =>
      cases d <;> first
        | (by_cases hz : z.cells.toList.all (·.oneCell') = true
           · rw [if_pos hz]
           · rw [if_neg hz])
        | skip
      rename_i fields
      by_cases hz : z.cells.toList.all (·.oneCell') = true
      · rw [if_pos hz]
        dsimp only
        cases hp : partsOf ρ ps with
        | none => cases placesOf P fields.toList <;> rfl
        | some qs =>
          dsimp only
          cases placesOf P fields.toList with
          | none => rfl
          | some pl =>
            dsimp only
            rw [if_pos hz]
            rfl
      · rw [if_neg hz]
        dsimp only
        cases hp : partsOf ρ ps with
        | none => rfl
        | some qs =>
          dsimp only
          cases placesOf P fields.toList with
          | none => rfl
          | some pl =>
            dsimp only
            rw [if_neg hz]
            try rfl

theorem elOf_facts {e : TypeId} {sz b : Nat} {z : List CV} (h : elOf P e = some (sz, b, z)) :
    ∃ i v, pv P (typeInfo e) = some i ∧ pv P (zeroValue e) = some v ∧ i.size = sz ∧ i.bytes = b ∧ zcells v = z ∧ v.cells.size = sz ∧ v.cells.toList.all (·.oneCell') = true := by
  unfold elOf zOf at h
  cases hi : pv P (typeInfo e) with
  | none => rw [hi] at h; cases h
  | some i =>
    rw [hi] at h
    cases hz : pv P (zeroValue e) with
    | none => rw [hz] at h; cases h
    | some v =>
      rw [hz] at h
      dsimp only at h
      by_cases h1 : v.cells.toList.all (·.oneCell') = true
      · rw [if_pos h1] at h
        dsimp only at h
        split at h
        · rename_i h2
          cases h
          exact ⟨i, v, rfl, rfl, rfl, rfl, rfl, by simpa using h2, h1⟩
        · cases h
      · rw [if_neg h1] at h
        cases h

theorem vmakeSlice_eq {nest : Bool} {nid : Nat} {t e : TypeId} {k k' : IntKind} {l c : Int} {sz b : Nat} {z : List CV} (he : elemOfSlice P t = some e) (hel : elOf P e = some (sz, b, z)) :
    vmakeSlice P nest nid t (vI k l) (vI k' c) = if 0 ≤ l ∧ l = c ∧ small b c.toNat = true ∧ c ≤ 4611686018427387904 then
      some (.one (.sl nid 0 l.toNat l.toNat), [if nest && isSliceT P e && decide (l.toNat ≠ 0) then .opn (List.replicate l.toNat (z.map .c)) false else .clo (List.replicate l.toNat z) false], []) else none := by
  obtain ⟨i, v, h1, h2, h3, h4, h5, h6, h7⟩ := elOf_facts hel
  unfold vmakeSlice
  simp only [he, h1, h2, h3, h4, h5, h6, h7, and_true]

theorem vbuildSlice_eq {nid : Nat} {ρ : Operand → Option AV} {t e : TypeId} {len : Nat} {ps : List (Nat × Operand)} {sz b : Nat} {z : List CV} (he : elemOfSlice P t = some e) (hel : elOf P e = some (sz, b, z)) (hlen : len ≠ 0) :
    vbuildSlice P H nid ρ t len ps = match partsOf ρ ps with
      | some ps => match fzParts H ps with
        | some qs => if len * sz ≤ 16777216 ∧ len * sz ≠ 0 ∧ qs.all (fun p => p.1 < len && p.2.length == sz) = true then
            some (.one (.sl nid 0 len len), [.clo (setAll (List.replicate len z) qs) false], rchParts H ps) else none
        | none => none
      | none => none := by
  obtain ⟨i, v, h1, h2, h3, h4, h5, h6, h7⟩ := elOf_facts hel
  unfold vbuildSlice
  rw [if_neg (fun h => hlen h.1)]
  unfold vbuildSlice1
  simp only [he]
  cases partsOf ρ ps with
  | none => rfl
  | some ps =>
    simp only [h1, h2]
    cases fzParts H ps with
    | none => rfl
    | some qs =>
      simp only [h3, h5, h6, h7, true_and]

theorem vappend_eq {t tx e ex : TypeId} {id n : Nat} {l xs : List (List CV)} {x : AV} {sz b : Nat} {z : List CV} (he : elemOfSlice P t = some e) (hex : elemOfSlice P tx = some ex) (hel : elOf P e = some (sz, b, z))
    (hH : H[id]? = some (.clo l false)) (hx : elemsOf H x = some xs) (hn : l.length = n) (hl : ∀ e ∈ l, e.length = sz) (hxs : ∀ e ∈ xs, e.length = sz) (hs : b * (n + xs.length) ≤ 140737488355328) (h62 : n + xs.length ≤ 4611686018427387904) :
    vappend P H t tx (.one (.sl id 0 n n)) x = some (.one (.sl id 0 (n + xs.length) (n + xs.length)), H.set id (.clo (l ++ xs) false)) := by
  obtain ⟨i, v, h1, h2, h3, h4, h5, h6, h7⟩ := elOf_facts hel
  unfold vappend
  simp only [he, hex, hx, hH, h1, h2, h3, h4]
  rw [if_pos ⟨trivial, trivial, hn, hl, hxs, h6, by simp [small]; exact hs, h62⟩]

attribute [simp] e_skip e_exit e_ret e_region e_seq e_block e_loop e_cond b_bool e_nil e_cons e_grd rd_some rd_qa put_some put_none wr_some frz_nil ev_tmp ev_int ev_bool ev_str ev_func ev_nil ev_nilp isNil_tmp isNil_int isNil_bool isNil_str isNil_nil
  then_n then_e then_r block_n block_e block_r end_n end_r ends_n ends_r g_bool g_und upd_get vmove vpick bin_add bin_sub bin_mul bin_eql bin_neq bin_lss bin_leq bin_gtr bin_geq sbin_eql sbin_neq sbin_lss un_not un_neg mapO vres join fza fzc nrm CA.av env0 envS
  s_move s_assign s_pick s_alloc s_box s_build s_buildSlice s_load s_nilCheck s_copy s_binOp s_unOp s_convert s_makeFunc s_makeSlice s_slice s_fieldAddr s_field s_indexAddr s_index s_extract s_call s_calls s_callv s_len s_convW s_makeMap s_lookup s_mapUpdate s_mapEntry s_entryStore s_delete s_max s_min s_store s_append
  vfieldAddr_eq vload_eq vfield_eq valloc_eq vbuild_eq vextract behind cellsAt shift ownz vbox AV.cells

end Go.Proofs.Vm
end

section
/- One table for a whole program: what its functions answer, by their own runs. -/
namespace Go.Proofs.Vm
open Go

structure Cfg where
  sh : FuncId → Bool
  nest : FuncId → Bool
  base : Tab

variable {P : Program} {C : Cfg}

def fxOf (P : Program) (C : Cfg) (f : FuncId) : Fx := ⟨match P.funcs[f]? with | some fn => fn.ntmps | none => 0, C.sh, C.nest f⟩

def runP (P : Program) (C : Cfg) (T : Tab) (f : FuncId) (args : List CA) (r : CA) : Prop :=
  ∃ fn c, P.funcs[f]? = some fn ∧ fn.body = some c ∧ FnOk P f ∧ codeB P (fxOf P C f) c = true ∧ args.length ≤ fn.ntmps ∧ wpV P T (fxOf P C f) c (endK P fn.results.toList r) ⟨env0 args, []⟩

def runS (P : Program) (C : Cfg) (T : Tab) (f : FuncId) (args : List AV) (H : Hp) (r : AV × Hp) : Prop :=
  ∃ fn c, P.funcs[f]? = some fn ∧ fn.body = some c ∧ FnOk P f ∧ codeB P (fxOf P C f) c = true ∧ args.length ≤ fn.ntmps ∧ Gr P f H r.2 ∧ wpV P T (fxOf P C f) c (endS P fn.results.toList r.1 r.2) ⟨envS args, H⟩

theorem endK_det {T : Tab} {N : Fx} {rs : List ResultVar} {c : Code} {s : St} {r r' : CA} (h : wpV P T N c (endK P rs r) s) (g : wpV P T N c (endK P rs r') s) : r = r' := by
  obtain ⟨ex, s1, ⟨m, h1⟩, h2⟩ := h
  obtain ⟨ex', s2, ⟨m', g1⟩, g2⟩ := g
  have e1 := h1 (max m m') (by omega)
  rw [g1 (max m m') (by omega)] at e1
  cases e1
  have fin : (∃ l a, mapO (vres P s1) rs = some l ∧ join l = some a ∧ fza s1.H a = some r) → (∃ l a, mapO (vres P s1) rs = some l ∧ join l = some a ∧ fza s1.H a = some r') → r = r' := by
    rintro ⟨l, a, a1, a2, a3⟩ ⟨l', a', b1, b2, b3⟩
    rw [a1] at b1
    cases b1
    rw [a2] at b2
    cases b2
    rw [a3] at b3
    cases b3
    rfl
  cases ex with
  | exit id => exact h2.elim
  | normal => exact fin h2 g2
  | ret => exact fin h2 g2

theorem runP_det {T : Tab} {f : FuncId} {args : List CA} {r r' : CA} (h : runP P C T f args r) (g : runP P C T f args r') : r = r' := by
  obtain ⟨fn, c, h1, h2, _, _, _, h3⟩ := h
  obtain ⟨fn', c', g1, g2, _, _, _, g3⟩ := g
  rw [h1] at g1
  cases g1
  rw [h2] at g2
  cases g2
  exact endK_det h3 g3

theorem runS_det {T : Tab} {f : FuncId} {args : List AV} {H : Hp} {r r' : AV × Hp} (h : runS P C T f args H r) (g : runS P C T f args H r') : r = r' := by
  obtain ⟨fn, c, h1, h2, _, _, _, _, h3⟩ := h
  obtain ⟨fn', c', g1, g2, _, _, _, _, g3⟩ := g
  rw [h1] at g1
  cases g1
  rw [h2] at g2
  cases g2
  obtain ⟨e1, e2⟩ := endS_det h3 g3
  exact Prod.ext e1 e2

/-- One table knows all that another knows. -/
def TLe (T T' : Tab) : Prop := (∀ f a r, T.pu f a = some r → T'.pu f a = some r) ∧ ∀ f a H r, T.S f a H = some r → T'.S f a H = some r

theorem TLe.refl (T : Tab) : TLe T T := ⟨fun _ _ _ h => h, fun _ _ _ _ h => h⟩
theorem TLe.trans {A B D : Tab} (h : TLe A B) (g : TLe B D) : TLe A D := ⟨fun f a r x => g.1 f a r (h.1 f a r x), fun f a H r x => g.2 f a H r (h.2 f a H r x)⟩

section
variable {T T' : Tab}

theorem vcall_mono (L : TLe T T') {H : Hp} {fv : AV} {ags : List AV} {r : AV × List Ent × List Nat} (h : vcall T H fv ags = some r) : vcall T' H fv ags = some r := by
  unfold vcall at h ⊢
  split at h
  · rename_i g cs ks h1 h2
    split at h
    · rename_i x hx
      rw [L.1 _ _ _ hx]
      exact h
    · cases h
  · cases h

theorem vrd_mono (L : TLe T T') {nest : Bool} {H : Hp} {nid : Nat} {ρ : Operand → Option AV} {o : Oper} {r : AV × List Ent × List Nat} (h : vrd P T nest H nid ρ o = some r) : vrd P T' nest H nid ρ o = some r := by
  obtain ⟨d, op, ty, pos, aft, g⟩ := o
  cases op <;> first | exact h | skip
  rename_i c
  obtain ⟨ca, ags, ts⟩ := c
  cases ca with
  | builtin b => cases b <;> exact h
  | value v =>
    simp only [vrd] at h ⊢
    split at h
    · exact vcall_mono L h
    · cases h
  | _ => exact h

theorem vwr_mono (L : TLe T T') {N : Fx} {H : Hp} {ρ : Operand → Option AV} {o : Oper} {r : AV × Hp} (h : vwr P T N H ρ o = some r) : vwr P T' N H ρ o = some r := by
  obtain ⟨d, op, ty, pos, aft, g⟩ := o
  cases op <;> first | exact h | (rename_i rv; cases rv <;> exact h) | skip
  rename_i c
  obtain ⟨ca, ags, ts⟩ := c
  cases ca with
  | builtin b =>
    cases b <;> first | exact h | (simp only [vwr] at h ⊢; revert h; rcases ags.toList with _ | ⟨a1, _ | ⟨a2, _ | ⟨a3, a4⟩⟩⟩ <;> rcases ts.toList with _ | ⟨b1, _ | ⟨b2, _ | ⟨b3, b4⟩⟩⟩ <;> exact id)
  | value v =>
    cases v with
    | func g =>
      simp only [vwr] at h ⊢
      split at h
      · rename_i hs
        rw [if_pos hs]
        split at h
        · rename_i ags' ha
          exact L.2 _ _ _ _ h
        · cases h
      · cases h
    | _ => exact h
  | _ => exact h

theorem stepV_mono (L : TLe T T') {N : Fx} {ops : Array Oper} {o : Oper} {s r : St} (h : stepV P T N ops o s = some r) : stepV P T' N ops o s = some r := by
  unfold stepV at h ⊢
  split at h
  · exact h
  · split at h
    · rename_i hw
      rw [if_pos hw]
      split at h
      · rename_i a K hv
        rw [vwr_mono L hv]
        exact h
      · cases h
    · rename_i hw
      rw [if_neg hw]
      split at h
      · rename_i a K ms hv
        rw [vrd_mono L hv]
        exact h
      · cases h
  · cases h

theorem runV_mono (L : TLe T T') {N : Fx} {ops : Array Oper} : ∀ {os : List Oper} {s r : St}, runV P T N ops os s = some r → runV P T' N ops os s = some r
  | [], _, _, h => h
  | o :: os, s, r, h => by
    simp only [runV] at h ⊢
    split at h
    · rename_i s1 h1
      rw [stepV_mono L h1]
      exact runV_mono L h
    · cases h

theorem vcode_le (L : TLe T T') {N : Fx} {n : Nat} : ∀ (c : Code) (s : St) (r : Ex × St), vcode P T N n c s = some r → vcode P T' N n c s = some r := by
  intro c
  induction c with
  | skip => intro s r h; exact h
  | region id ops d =>
    intro s r h
    simp only [vcode] at h ⊢
    split at h
    · rename_i s1 h1
      rw [runV_mono L h1]
      exact h
    · cases h
  | exit id => intro s r h; exact h
  | ret => intro s r h; exact h
  | seq a b iha ihb =>
    intro s r h
    simp only [vcode] at h ⊢
    split at h
    · rename_i s1 h1
      rw [iha _ _ h1]
      exact ihb _ _ h
    · rename_i h1
      rw [iha _ _ h]
      split
      · rename_i heq
        cases heq
        exact absurd h (h1 _)
      · rfl
  | cond c x y ihx ihy =>
    intro s r h
    simp only [vcode] at h ⊢
    split at h
    case h_2 => cases h
    rename_i t ht
    split at h
    · rename_i hb
      rw [if_pos hb]
      exact ihx _ _ h
    · rename_i hb
      rw [if_neg hb]
      exact ihy _ _ h
  | block id c ih =>
    intro s r h
    simp only [vcode] at h ⊢
    split at h
    · rename_i k s1 h1
      rw [ih _ _ h1]
      exact h
    · rename_i h1
      rw [ih _ _ h]
      split
      · rename_i heq
        cases heq
        exact absurd h (h1 _ _)
      · rfl
  | loop c ih =>
    intro s r h
    simp only [vcode] at h ⊢
    exact iter_mono ih h (Nat.le_refl _)
  | rangeFunc f params assign body _ _ => intro s r h; cases h
  | scope body _ => intro s r h; cases h
  | label l => intro s r h; cases h
  | goto l => intro s r h; cases h
  | refuse why => intro s r h; cases h

theorem wpV_le (L : TLe T T') {N : Fx} {c : Code} {K : Ex → St → Prop} {s : St} (h : wpV P T N c K s) : wpV P T' N c K s := by
  rw [wpV_iff] at h ⊢
  obtain ⟨n, ex, s', h1, h2⟩ := h
  exact ⟨n, ex, s', vcode_le L _ _ _ h1, h2⟩

theorem runP_le (L : TLe T T') {f : FuncId} {args : List CA} {r : CA} (h : runP P C T f args r) : runP P C T' f args r := by
  obtain ⟨fn, c, h1, h2, h3, h4, h5, h6⟩ := h
  exact ⟨fn, c, h1, h2, h3, h4, h5, wpV_le L h6⟩

theorem runS_le (L : TLe T T') {f : FuncId} {args : List AV} {H : Hp} {r : AV × Hp} (h : runS P C T f args H r) : runS P C T' f args H r := by
  obtain ⟨fn, c, h1, h2, h3, h4, h5, h6, h7⟩ := h
  exact ⟨fn, c, h1, h2, h3, h4, h5, h6, wpV_le L h7⟩
end

open Classical in
noncomputable def stepT (P : Program) (C : Cfg) (T : Tab) : Tab where
  pu f args := match C.base.pu f args with
    | some r => some r
    | none => if h : ∃ r, runP P C T f args r then some (Classical.choose h) else none
  S f args H := match C.base.S f args H with
    | some r => some r
    | none => if h : ∃ r, runS P C T f args H r then some (Classical.choose h) else none

theorem stepT_pu {T : Tab} {f : FuncId} {args : List CA} {r : CA} : (stepT P C T).pu f args = some r ↔ C.base.pu f args = some r ∨ C.base.pu f args = none ∧ runP P C T f args r := by
  unfold stepT
  dsimp only
  cases hb : C.base.pu f args with
  | some x => simp
  | none =>
    simp only [reduceCtorEq, true_and, false_or]
    split
    · rename_i h
      constructor
      · intro g
        cases g
        exact Classical.choose_spec h
      · intro g
        rw [runP_det g (Classical.choose_spec h)]
    · rename_i h
      exact ⟨fun g => (by cases g), fun g => absurd ⟨r, g⟩ h⟩

theorem stepT_S {T : Tab} {f : FuncId} {args : List AV} {H : Hp} {r : AV × Hp} : (stepT P C T).S f args H = some r ↔ C.base.S f args H = some r ∨ C.base.S f args H = none ∧ runS P C T f args H r := by
  unfold stepT
  dsimp only
  cases hb : C.base.S f args H with
  | some x => simp
  | none =>
    simp only [reduceCtorEq, true_and, false_or]
    split
    · rename_i h
      constructor
      · intro g
        cases g
        exact Classical.choose_spec h
      · intro g
        rw [runS_det g (Classical.choose_spec h)]
    · rename_i h
      exact ⟨fun g => (by cases g), fun g => absurd ⟨r, g⟩ h⟩

theorem stepT_mono {T T' : Tab} (L : TLe T T') : TLe (stepT P C T) (stepT P C T') :=
  ⟨fun _f _a _r h => stepT_pu.2 ((stepT_pu.1 h).imp id fun g => ⟨g.1, runP_le L g.2⟩), fun _f _a _H _r h => stepT_S.2 ((stepT_S.1 h).imp id fun g => ⟨g.1, runS_le L g.2⟩)⟩

theorem stepT_ok (hm : P.follows .mixedOrders = true) (hB : TOk P C.base) {T : Tab} (hT : TOk P T) : TOk P (stepT P C T) := by
  refine ⟨fun f args r h => ?_, fun f args H r H' h => ?_⟩
  · rcases stepT_pu.1 h with h | ⟨_, fn, c, h1, h2, h3, h4, h5, h6⟩
    · exact hB.1 f args r h
    · exact ⟨h3, ctr_of hm h1 h2 h4 hT ⟨h5, by simp [fxOf, h1]⟩ rfl h6⟩
  · rcases stepT_S.1 h with h | ⟨_, fn, c, h1, h2, h3, h4, h5, h6, h7⟩
    · exact hB.2 f args H r H' h
    · exact ⟨h6, h3, sctr_of hm h1 h2 h4 hT ⟨h5, by simp [fxOf, h1]⟩ h7⟩

noncomputable def tabN (P : Program) (C : Cfg) : Nat → Tab
  | 0 => C.base
  | d + 1 => stepT P C (tabN P C d)

theorem tabN_succ : ∀ d, TLe (tabN P C d) (tabN P C (d + 1))
  | 0 => ⟨fun _f _a _r h => stepT_pu.2 (Or.inl h), fun _f _a _H _r h => stepT_S.2 (Or.inl h)⟩
  | d + 1 => stepT_mono (tabN_succ d)

theorem tabN_le {d d' : Nat} (h : d ≤ d') : TLe (tabN P C d) (tabN P C d') := by
  induction h with
  | refl => exact .refl _
  | step _ ih => exact ih.trans (tabN_succ _)

theorem tabN_ok (hm : P.follows .mixedOrders = true) (hB : TOk P C.base) : ∀ d, TOk P (tabN P C d)
  | 0 => hB
  | d + 1 => stepT_ok hm hB (tabN_ok hm hB d)

/-- The whole table. -/
noncomputable def TT (P : Program) (C : Cfg) : Tab := by
  classical
  exact { pu := fun f args => if h : ∃ r d, (tabN P C d).pu f args = some r then some (Classical.choose h) else none
          S := fun f args H => if h : ∃ r d, (tabN P C d).S f args H = some r then some (Classical.choose h) else none }

theorem TT_pu {f : FuncId} {args : List CA} {r : CA} : (TT P C).pu f args = some r ↔ ∃ d, (tabN P C d).pu f args = some r := by
  unfold TT
  dsimp only
  split
  · rename_i h
    obtain ⟨d, hd⟩ := Classical.choose_spec h
    constructor
    · intro g
      cases g
      exact ⟨d, hd⟩
    · rintro ⟨d', hd'⟩
      have e1 := (tabN_le (Nat.le_max_left d d')).1 _ _ _ hd
      have e2 := (tabN_le (Nat.le_max_right d d')).1 _ _ _ hd'
      rw [e1] at e2
      exact e2
  · rename_i h
    exact ⟨fun g => (by cases g), fun ⟨d, g⟩ => absurd ⟨r, d, g⟩ h⟩

theorem TT_S {f : FuncId} {args : List AV} {H : Hp} {r : AV × Hp} : (TT P C).S f args H = some r ↔ ∃ d, (tabN P C d).S f args H = some r := by
  unfold TT
  dsimp only
  split
  · rename_i h
    obtain ⟨d, hd⟩ := Classical.choose_spec h
    constructor
    · intro g
      cases g
      exact ⟨d, hd⟩
    · rintro ⟨d', hd'⟩
      have e1 := (tabN_le (Nat.le_max_left d d')).2 _ _ _ _ hd
      have e2 := (tabN_le (Nat.le_max_right d d')).2 _ _ _ _ hd'
      rw [e1] at e2
      exact e2
  · rename_i h
    exact ⟨fun g => (by cases g), fun ⟨d, g⟩ => absurd ⟨r, d, g⟩ h⟩

theorem TT_ok (hm : P.follows .mixedOrders = true) (hB : TOk P C.base) : TOk P (TT P C) :=
  ⟨fun f args r h => by obtain ⟨d, hd⟩ := TT_pu.1 h; exact (tabN_ok hm hB d).1 f args r hd, fun f args H r H' h => by obtain ⟨d, hd⟩ := TT_S.1 h; exact (tabN_ok hm hB d).2 f args H r H' hd⟩

theorem vwr_fin {N : Fx} {H : Hp} {ρ : Operand → Option AV} {o : Oper} {r : AV × Hp} (hv : vwr P (TT P C) N H ρ o = some r) : ∃ d, vwr P (tabN P C d) N H ρ o = some r := by
  obtain ⟨d, op, ty, pos, aft, g⟩ := o
  cases op <;> first | exact ⟨0, hv⟩ | (rename_i rv; cases rv <;> exact ⟨0, hv⟩) | skip
  rename_i c
  obtain ⟨ca, ags, ts⟩ := c
  cases ca with
  | builtin b =>
    cases b <;> first | exact ⟨0, hv⟩ | (simp only [vwr] at hv ⊢; revert hv; rcases ags.toList with _ | ⟨a1, _ | ⟨a2, _ | ⟨a3, a4⟩⟩⟩ <;> rcases ts.toList with _ | ⟨b1, _ | ⟨b2, _ | ⟨b3, b4⟩⟩⟩ <;> exact fun hv => ⟨0, hv⟩)
  | value v =>
    cases v with
    | func g =>
      simp only [vwr] at hv ⊢
      split at hv
      · rename_i hs
        simp only [if_pos hs]
        split at hv
        · rename_i ags' ha
          exact TT_S.1 hv
        · cases hv
      · cases hv
    | _ => exact ⟨0, hv⟩
  | _ => exact ⟨0, hv⟩

theorem vrd_fin {nest : Bool} {H : Hp} {nid : Nat} {ρ : Operand → Option AV} {o : Oper} {r : AV × List Ent × List Nat} (hv : vrd P (TT P C) nest H nid ρ o = some r) : ∃ d, vrd P (tabN P C d) nest H nid ρ o = some r := by
  obtain ⟨d, op, ty, pos, aft, g⟩ := o
  cases op <;> first | exact ⟨0, hv⟩ | skip
  rename_i c
  obtain ⟨ca, ags, ts⟩ := c
  cases ca with
  | builtin b => cases b <;> exact ⟨0, hv⟩
  | value v =>
    simp only [vrd] at hv ⊢
    split at hv
    · rename_i fv args h1 h2
      unfold vcall at hv ⊢
      split at hv
      · rename_i g cs ks h3 h4
        split at hv
        · rename_i x hx
          obtain ⟨d, hd⟩ := TT_pu.1 hx
          exact ⟨d, by rw [hd]; exact hv⟩
        · cases hv
      · cases hv
    · cases hv
  | _ => exact ⟨0, hv⟩

/-- What a run asks of the whole table some part of it knows. -/
theorem stepV_fin {N : Fx} {ops : Array Oper} {o : Oper} {s r : St} (h : stepV P (TT P C) N ops o s = some r) : ∃ d, stepV P (tabN P C d) N ops o s = some r := by
  unfold stepV at h ⊢
  split at h
  · exact ⟨0, h⟩
  · split at h
    · rename_i hw
      simp only [if_pos hw]
      split at h
      · rename_i a K hv
        obtain ⟨d, hd⟩ := vwr_fin hv
        exact ⟨d, by rw [hd]; exact h⟩
      · cases h
    · rename_i hw
      simp only [if_neg hw]
      split at h
      · rename_i a K ms hv
        obtain ⟨d, hd⟩ := vrd_fin hv
        exact ⟨d, by rw [hd]; exact h⟩
      · cases h
  · cases h

theorem runV_fin {N : Fx} {ops : Array Oper} : ∀ {os : List Oper} {s r : St}, runV P (TT P C) N ops os s = some r → ∃ d, runV P (tabN P C d) N ops os s = some r
  | [], _, _, h => ⟨0, h⟩
  | o :: os, s, r, h => by
    simp only [runV] at h ⊢
    split at h
    · rename_i s1 h1
      obtain ⟨d, hd⟩ := stepV_fin h1
      obtain ⟨d', hd'⟩ := runV_fin h
      refine ⟨max d d', ?_⟩
      rw [stepV_mono (tabN_le (Nat.le_max_left d d')) hd]
      exact runV_mono (tabN_le (Nat.le_max_right d d')) hd'
    · cases h

theorem iter_fin {N : Fx} {n : Nat} {c : Code} (ih : ∀ s r, vcode P (TT P C) N n c s = some r → ∃ d, vcode P (tabN P C d) N n c s = some r) : ∀ {k : Nat} {s : St} {r : Ex × St}, iter k (vcode P (TT P C) N n c) s = some r → ∃ d, iter k (vcode P (tabN P C d) N n c) s = some r
  | 0, _, _, h => by cases h
  | k + 1, s, r, h => by
    simp only [iter] at h
    split at h
    · rename_i s1 h1
      obtain ⟨d, hd⟩ := ih _ _ h1
      obtain ⟨d', hd'⟩ := iter_fin ih h
      refine ⟨max d d', ?_⟩
      simp only [iter]
      rw [vcode_le (tabN_le (Nat.le_max_left d d')) _ _ _ hd]
      exact iter_mono (vcode_le (tabN_le (Nat.le_max_right d d')) c) hd' (Nat.le_refl _)
    · rename_i h1
      obtain ⟨d, hd⟩ := ih _ _ h
      refine ⟨d, ?_⟩
      simp only [iter]
      rw [hd]
      split
      · rename_i heq
        cases heq
        exact absurd h (h1 _)
      · rfl

theorem vcode_fin {N : Fx} {n : Nat} : ∀ (c : Code) (s : St) (r : Ex × St), vcode P (TT P C) N n c s = some r → ∃ d, vcode P (tabN P C d) N n c s = some r := by
  intro c
  induction c with
  | skip => intro s r h; exact ⟨0, h⟩
  | region id ops d =>
    intro s r h
    simp only [vcode] at h ⊢
    split at h
    · rename_i s1 h1
      obtain ⟨d, hd⟩ := runV_fin h1
      exact ⟨d, by rw [hd]; exact h⟩
    · cases h
  | exit id => intro s r h; exact ⟨0, h⟩
  | ret => intro s r h; exact ⟨0, h⟩
  | seq a b iha ihb =>
    intro s r h
    simp only [vcode] at h
    split at h
    · rename_i s1 h1
      obtain ⟨d, hd⟩ := iha _ _ h1
      obtain ⟨d', hd'⟩ := ihb _ _ h
      refine ⟨max d d', ?_⟩
      simp only [vcode]
      rw [vcode_le (tabN_le (Nat.le_max_left d d')) _ _ _ hd]
      exact vcode_le (tabN_le (Nat.le_max_right d d')) _ _ _ hd'
    · rename_i h1
      obtain ⟨d, hd⟩ := iha _ _ h
      refine ⟨d, ?_⟩
      simp only [vcode]
      rw [hd]
      split
      · rename_i heq
        cases heq
        exact absurd h (h1 _)
      · rfl
  | cond c x y ihx ihy =>
    intro s r h
    simp only [vcode] at h ⊢
    split at h
    case h_2 => cases h
    rename_i t ht
    split at h
    · rename_i hb
      simp only [if_pos hb]
      exact ihx _ _ h
    · rename_i hb
      simp only [if_neg hb]
      exact ihy _ _ h
  | block id c ih =>
    intro s r h
    simp only [vcode] at h
    split at h
    · rename_i k s1 h1
      obtain ⟨d, hd⟩ := ih _ _ h1
      exact ⟨d, by simp only [vcode]; rw [hd]; exact h⟩
    · rename_i h1
      obtain ⟨d, hd⟩ := ih _ _ h
      refine ⟨d, ?_⟩
      simp only [vcode]
      rw [hd]
      split
      · rename_i heq
        cases heq
        exact absurd h (h1 _ _)
      · rfl
  | loop c ih =>
    intro s r h
    simp only [vcode] at h ⊢
    exact iter_fin ih h
  | rangeFunc f params assign body _ _ => intro s r h; cases h
  | scope body _ => intro s r h; cases h
  | label l => intro s r h; cases h
  | goto l => intro s r h; cases h
  | refuse why => intro s r h; cases h

theorem wpV_fin {N : Fx} {c : Code} {K : Ex → St → Prop} {s : St} (h : wpV P (TT P C) N c K s) : ∃ d, wpV P (tabN P C d) N c K s := by
  obtain ⟨n, ex, s', h1, h2⟩ := wpV_iff.1 h
  obtain ⟨d, hd⟩ := vcode_fin _ _ _ h1
  exact ⟨d, wpV_iff.2 ⟨n, ex, s', hd, h2⟩⟩

/-- A function's answer, by its run over the whole table. -/
theorem TT_run {f : FuncId} {fn : Func} {c : Code} (hf : P.funcs[f]? = some fn) (hb : fn.body = some c) (hok : FnOk P f) (hc : codeB P (fxOf P C f) c = true) (hbase : ∀ args, C.base.pu f args = none) {args : List CA} (hl : args.length ≤ fn.ntmps) {r : CA}
    (h : wpV P (TT P C) (fxOf P C f) c (endK P fn.results.toList r) ⟨env0 args, []⟩) : (TT P C).pu f args = some r := by
  obtain ⟨d, hd⟩ := wpV_fin h
  exact TT_pu.2 ⟨d + 1, stepT_pu.2 (.inr ⟨hbase args, fn, c, hf, hb, hok, hc, hl, hd⟩)⟩

theorem TT_runS {f : FuncId} {fn : Func} {c : Code} (hf : P.funcs[f]? = some fn) (hb : fn.body = some c) (hok : FnOk P f) (hc : codeB P (fxOf P C f) c = true) {args : List AV} {H H' : Hp} (hbase : C.base.S f args H = none) (hl : args.length ≤ fn.ntmps) {r : AV} (hH : Gr P f H H')
    (h : wpV P (TT P C) (fxOf P C f) c (endS P fn.results.toList r H') ⟨envS args, H⟩) : (TT P C).S f args H = some (r, H') := by
  obtain ⟨d, hd⟩ := wpV_fin h
  exact TT_S.2 ⟨d + 1, stepT_S.2 (.inr ⟨hbase, fn, c, hf, hb, hok, hc, hl, hH, hd⟩)⟩

theorem TT_base {f : FuncId} {args : List CA} {r : CA} (h : C.base.pu f args = some r) : (TT P C).pu f args = some r := TT_pu.2 ⟨0, h⟩
theorem TT_baseS {f : FuncId} {args : List AV} {H : Hp} {r : AV × Hp} (h : C.base.S f args H = some r) : (TT P C).S f args H = some r := TT_S.2 ⟨0, h⟩

end Go.Proofs.Vm
end

section
/- The value machine: calls, places of slices, lengths, ags rewriting rules. -/
namespace Go.Proofs.Vm
open Go

variable {P : Program} {T : Tab} {N : Fx} {H : Hp}

theorem rd_none {d : Option Tmp} {e : Nat → AV} {K : St → Prop} : rdK N d e H none K ↔ False := Iff.rfl
theorem rd_ite {d : Option Tmp} {e : Nat → AV} {K : St → Prop} {c : Prop} [Decidable c] {r : RR} : rdK N d e H (if c then r else none) K ↔ c ∧ rdK N d e H r K := by
  by_cases h : c
  · simp [h]
  · simp [h, rdK]
theorem wr_none {d : Option Tmp} {e : Nat → AV} {K : St → Prop} : wrK N d e none K ↔ False := Iff.rfl
theorem wr_ite {d : Option Tmp} {e : Nat → AV} {K : St → Prop} {c : Prop} [Decidable c] {r : Option (AV × Hp)} : wrK N d e (if c then r else none) K ↔ c ∧ wrK N d e r K := by
  by_cases h : c
  · simp [h]
  · simp [h, wrK]
theorem wr_some' {d : Option Tmp} {e : Nat → AV} {a : AV} {L : Hp} {K : St → Prop} : wrK N d e (some (a, L)) K ↔ putK N d e L a K := Iff.rfl

theorem one_int {k : IntKind} {n : Int} : one? (.int k n) = qa (vI k n) := by simp [one?, Value.oneCell']

/-- What a call's answer becomes. -/
def callK (N : Fx) (d : Option Tmp) (e : Nat → AV) (H : Hp) (ms : List Nat) (r : Option CA) (K : St → Prop) : Prop :=
  match r with
  | some a => putK N d e (frzAll H (if a.plain then [] else ms)) a.av K
  | none => False

theorem call_fn {d : Option Tmp} {e : Nat → AV} {K : St → Prop} {g : FuncId} {ags : List AV} {ks : List CA} (h : mapO (fza H) ags = some ks) :
    rdK N d e H (vcall T H (.one (.fn g [])) ags) K ↔ callK N d e H (ags.map (rcha H)).flatten (T.pu g ks) K := by
  unfold vcall
  rw [show calleeOf H (.one (.fn g [])) = some (g, []) by simp [calleeOf, fzc, mapO], h]
  dsimp only
  rw [List.map_nil, List.append_nil, show rcha H (.one (.fn g [])) = [] by simp [rcha, rch], List.nil_append]
  cases T.pu g ks with
  | none => rfl
  | some r => simp only [rdK, callK, List.append_nil]

theorem call_cfn {d : Option Tmp} {e : Nat → AV} {K : St → Prop} {g : FuncId} {cs : List CV} {ags : List AV} {ks : List CA} (h : mapO (fza H) ags = some ks) :
    rdK N d e H (vcall T H (.one (.c (.fn g cs))) ags) K ↔ callK N d e H (ags.map (rcha H)).flatten (T.pu g (ks ++ cs.map .one)) K := by
  unfold vcall
  rw [show calleeOf H (.one (.c (.fn g cs))) = some (g, cs) by simp [calleeOf], h]
  dsimp only
  rw [show rcha H (.one (.c (.fn g cs))) = [] by simp [rcha, rch], List.nil_append]
  cases T.pu g (ks ++ cs.map .one) with
  | none => rfl
  | some r => simp only [rdK, callK, List.append_nil]

theorem callK_eq {d : Option Tmp} {e : Nat → AV} {K : St → Prop} {ms : List Nat} {a : CA} : callK N d e H ms (some a) K ↔ putK N d e (frzAll H (if a.plain = true then [] else ms)) a.av K := Iff.rfl
theorem callK_none {d : Option Tmp} {e : Nat → AV} {K : St → Prop} {ms : List Nat} : callK N d e H ms none K ↔ False := Iff.rfl
theorem rcha_c {x : CV} : rcha H (.one (.c x)) = [] := by simp [rcha, rch]
theorem rcha_cs {l : List CV} : rcha H (.agg (l.map .c)) = [] := by
  induction l with
  | nil => rfl
  | cons x l ih => simp [rcha, rch]
theorem rch_c {n : Nat} {x : CV} : rch n H (.c x) = [] := by cases n <;> simp [rch]
theorem rcha_agg {l : List Cell} : rcha H (.agg l) = (l.map (rch 5 H)).flatten := rfl
theorem rcha_fn {g : FuncId} : rcha H (.one (.fn g [])) = [] := by simp [rcha, rch]

theorem ia_arr {t e : TypeId} {sz : Nat} (he : elemOfSlice P t = some e) (hs : pv P (sizeOf e) = some sz) {k : IntKind} {l : List (List CV)} {i : Int} :
    vindexAddr P H t (.one (.c (.arr l))) (vI k i) = if 0 ≤ i then (match l[i.toNat]? with | some x => if x.length = sz then qa (.one (.c (.cptr x))) else none | none => none) else none := by
  unfold vindexAddr
  simp only [he, hs]
  cases l[i.toNat]? <;> rfl

theorem ia_sl {t e : TypeId} {sz : Nat} (he : elemOfSlice P t = some e) (hs : pv P (sizeOf e) = some sz) {k : IntKind} {id o n tot : Nat} {i : Int} :
    vindexAddr P H t (.one (.sl id o n tot)) (vI k i) = if 0 ≤ i then (if i.toNat < n then (if elAt H id tot (o + i.toNat) = some sz then qa (.one (.ptr ⟨id, o + i.toNat, 0, tot⟩)) else none) else none) else none := by
  unfold vindexAddr
  simp only [he, hs]

theorem len_arr {t e ty : TypeId} (he : elemOfSlice P t = some e) {l : List (List CV)} : vlen P H #[t] ty (.one (.c (.arr l))) = qa (vI .i64 l.length) := by
  simp [vlen, he, one_int]

theorem len_sl {t e ty : TypeId} (he : elemOfSlice P t = some e) {id o n tot : Nat} : vlen P H #[t] ty (.one (.sl id o n tot)) = if lenIs H id tot = true then qa (vI .i64 n) else none := by
  simp [vlen, he, one_int]

theorem len_mp {t ty : TypeId} {id : Nat} (h : isMapT P t = true) : vlen P H #[t] ty (.one (.mp id)) = match mapAt H (.one (.mp id)) with | some (_, l) => qa (vI .i64 l.2.length) | none => none := by
  simp only [vlen, one_int]
  simp
  cases mapAt H (.one (.mp id)) with
  | none => rfl
  | some q => simp [h]
theorem len_nil {t e ty : TypeId} (_he : elemOfSlice P t = some e) (hu : pv P (underlying t) = some (.slice e)) : vlen P H #[t] ty (.one (.c (.v (.slice none 0 0)))) = qa (vI .i64 0) := by
  simp [vlen, AV.sc, Cell.sc, Builtin.len_, hu, ofPv, goInt, one_int]

theorem len_str {t ty : TypeId} (hu : pv P (underlying t) = some .string) {s : ByteArray} : vlen P H #[t] ty (vS s) = qa (vI .i64 s.size) := by
  simp [vlen, AV.sc, Cell.sc, Builtin.len_, hu, ofPv, goInt, one_int]

/-- A text's byte; nought outside. -/
def byt (s : ByteArray) (i : Int) : Int := match s[i.toNat]? with | some b => b.toNat | none => 0

theorem idx_str {t : TypeId} (hu : pv P (underlying t) = some .string) {s : ByteArray} {k : IntKind} {i : Int} (h0 : 0 ≤ i) (h : i < s.size) : vindex P t (vS s) (vI k i) = qa (vI .u8 (byt s i)) := by
  have hb : i.toNat < s.size := by omega
  simp [vindex, AV.sc, Cell.sc, Instr.index, hu, ofPv, one_int, asIntOf, h0, byt, hb]

theorem bin_and' {t : TypeId} {x y : Operand} {k : IntKind} {a b : Int} : vbin P H .and t x y (vI k a) (vI k b) = qa (vI k (Go.bits .and k a b)) := bin_and
theorem bin_or' {t : TypeId} {x y : Operand} {k : IntKind} {a b : Int} : vbin P H .or t x y (vI k a) (vI k b) = qa (vI k (Go.bits .or k a b)) := bin_or
theorem bin_xor' {t : TypeId} {x y : Operand} {k : IntKind} {a b : Int} : vbin P H .xor t x y (vI k a) (vI k b) = qa (vI k (Go.bits .xor k a b)) := bin_xor
theorem fx_sh {n : Nat} {b : FuncId → Bool} {m : Bool} {g : FuncId} : (Fx.mk n b m).sh g = b g := rfl
/-- To the right by a constant. -/
theorem shr_c {a : Int} {n : Nat} : a.fdiv (no_index (OfNat.ofNat n)) = a / OfNat.ofNat n := Int.fdiv_eq_ediv_of_nonneg _ (by simp)

attribute [simp] bin_and' bin_or' bin_xor' fx_sh comps shr_c
def ikOf (P : Program) (t : TypeId) : Option IntKind :=
  match pv P (underlying t) with
  | some (.int k) => some k
  | _ => none

theorem cv_eq {s d : TypeId} {k : IntKind} {n : Int} : vconvert P s d (vI k n) = match ikOf P s, ikOf P d with
    | some _, some k' => qa (vI k' (k'.wrap n))
    | _, _ => ofPv (pv P (convert s d (.int k n))) := by
  cases h1 : ikOf P s with
  | none => simp [vconvert]
  | some a =>
    cases h2 : ikOf P d with
    | none => simp [vconvert]
    | some b =>
      have e1 : pv P (underlying s) = some (.int a) := by
        unfold ikOf at h1
        split at h1
        · rename_i h; cases h1; exact h
        · cases h1
      have e2 : pv P (underlying d) = some (.int b) := by
        unfold ikOf at h2
        split at h2
        · rename_i h; cases h2; exact h
        · cases h2
      simp [vconvert, convert, e1, e2, Conv.intToInt, ofPv, one_int]

theorem max_int {ts : Array TypeId} {ty : TypeId} {k : IntKind} {a b : Int} : vmax P ts ty [vI k a, vI k b] = qa (vI k (if a < b then b else a)) := by
  simp [vmax, scsAV, AV.sc, Cell.sc, Builtin.max_, Builtin.max2, ofPv, one_int]

theorem min_int {ts : Array TypeId} {ty : TypeId} {k : IntKind} {a b : Int} : vmin P ts ty [vI k a, vI k b] = qa (vI k (if b < a then b else a)) := by
  simp [vmin, scsAV, AV.sc, Cell.sc, Builtin.min_, Builtin.min2, ofPv, one_int]

/-! simp goes where the run is, not into what is still to run. -/
@[congr] theorem wpS_congr {ops : Array Oper} {o : Oper} {K : St → Prop} {s s' : St} (h : s = s') : wpS P T N ops o K s = wpS P T N ops o K s' := by rw [h]
@[congr] theorem wpR_congr {ops : Array Oper} {l : List Oper} {K : St → Prop} {s s' : St} (h : s = s') : wpR P T N ops l K s = wpR P T N ops l K s' := by rw [h]
@[congr] theorem wpV_congr {c : Code} {K : Ex → St → Prop} {s s' : St} (h : s = s') : wpV P T N c K s = wpV P T N c K s' := by rw [h]
@[congr] theorem wpL_congr {c : Code} {K : Ex → St → Prop} {s s' : St} (h : s = s') : wpL P T N c K s = wpL P T N c K s' := by rw [h]
@[congr] theorem rdK_congr {d : Option Tmp} {e : Nat → AV} {r r' : RR} {K : St → Prop} (h : r = r') : rdK N d e H r K = rdK N d e H r' K := by rw [h]
@[congr] theorem wrK_congr {d : Option Tmp} {e : Nat → AV} {r r' : Option (AV × Hp)} {K : St → Prop} (h : r = r') : wrK N d e r K = wrK N d e r' K := by rw [h]
@[congr] theorem putK_congr {d : Option Tmp} {e : Nat → AV} {L L' : Hp} {a a' : AV} {K : St → Prop} (h : L = L') (g : a = a') : putK N d e L a K = putK N d e L' a' K := by rw [h, g]
@[congr] theorem callK_congr {d : Option Tmp} {e : Nat → AV} {ms ms' : List Nat} {r r' : Option CA} {K : St → Prop} (h : ms = ms') (g : r = r') : callK N d e H ms r K = callK N d e H ms' r' K := by rw [h, g]
@[congr] theorem guardK_congr {v v' : Option AV} {b : Bool} {x y : Prop} (h : v = v') : guardK v b x y = guardK v' b x y := by rw [h]
@[congr] theorem boolK_congr {v v' : Option AV} {x y : Prop} (h : v = v') : boolK v x y = boolK v' x y := by rw [h]
@[congr] theorem thenK_congr {A : St → Prop} {K : Ex → St → Prop} {x : Ex} {s s' : St} (h : s = s') : thenK A K x s = thenK A K x s' := by rw [h]
@[congr] theorem blockK_congr {i : Nat} {K : Ex → St → Prop} {x : Ex} {s s' : St} (h : s = s') : blockK i K x s = blockK i K x s' := by rw [h]

attribute [simp] Ent.len lenIs elAt
attribute [simp] cv_eq max_int min_int
attribute [simp] callK_eq callK_none rcha_c rch_c rcha_agg rcha_fn CA.plain CV.plain
attribute [simp] rd_none rd_ite wr_none wr_ite wr_some' one_int call_fn call_cfn

end Go.Proofs.Vm
end

section
/- The value machine: a program's table with sorting in place below it. -/
namespace Go.Proofs.Vm
open Go

variable {P : Program} {C : Cfg}

theorem TT_go {f : FuncId} {fn : Func} {c : Code} {N : Fx} (hf : P.funcs[f]? = some fn) (hb : fn.body = some c) (hok : FnOk P f) (hN : N = ⟨fn.ntmps, C.sh, C.nest f⟩) (hc : codeB P N c = true) (hbase : ∀ args, C.base.pu f args = none) {args : List CA} (hl : args.length ≤ fn.ntmps) {r : CA}
    (h : wpV P (TT P C) N c (endK P fn.results.toList r) ⟨env0 args, []⟩) : (TT P C).pu f args = some r := by
  have e : N = fxOf P C f := by rw [hN]; simp [fxOf, hf]
  subst e
  exact TT_run hf hb hok hc hbase hl h

theorem TT_goS {f : FuncId} {fn : Func} {c : Code} {N : Fx} (hf : P.funcs[f]? = some fn) (hb : fn.body = some c) (hok : FnOk P f) (hN : N = ⟨fn.ntmps, C.sh, C.nest f⟩) (hc : codeB P N c = true) {args : List AV} {H H' : Hp} (hbase : C.base.S f args H = none) (hl : args.length ≤ fn.ntmps) {r : AV} (hH : Gr P f H H')
    (h : wpV P (TT P C) N c (endS P fn.results.toList r H') ⟨envS args, H⟩) : (TT P C).S f args H = some (r, H') := by
  have e : N = fxOf P C f := by rw [hN]; simp [fxOf, hf]
  subst e
  exact TT_runS hf hb hok hc hbase hl hH h

def intOf : List CV → Option Int
  | [.v (.int .i64 n)] => some n
  | _ => none

def cInt (n : Int) : List CV := [.v (.int .i64 n)]

def sortRun (args : List AV) (H : Hp) : Option (AV × Hp) :=
  match args with
  | [.one (.sl id 0 n tot)] => match H[id]? with
    | some (.clo l false) => match mapO intOf l with
      | some xs => if n = tot ∧ l.length = tot ∧ tot < 4611686018427387904 then some (und, H.set id (.clo ((xs.mergeSort fun x y => decide (x ≤ y)).map cInt) false)) else none
      | none => none
    | _ => none
  | _ => none

def sortTab (g : FuncId) : Tab := ⟨fun _ _ => none, fun f args H => if f = g then sortRun args H else none⟩

theorem mapO_intOf : ∀ xs : List Int, mapO intOf (xs.map cInt) = some xs
  | [] => rfl
  | x :: xs => by
    rw [List.map_cons]
    simp only [mapO, mapO_intOf xs]
    rfl

end Go.Proofs.Vm
end

section
/- Rows of numbers as closed values. -/
namespace Go.Proofs.Vm
open Go

def cRow (r : List Int) : CV := .arr (r.map cInt)
def cRows (l : List (List Int)) : CV := .arr (l.map fun r => [cRow r])

/-- The place of the first element at which p holds, or -1. -/
def idxF {α : Type} (p : α → Bool) (l : List α) : Int := if l.any p then (l.findIdx p : Int) else -1
theorem idxF_at {α : Type} (p : α → Bool) (l : List α) (k : Nat) (h : k < l.length) (hp : p l[k] = true) (hn : ∀ j, j < k → ∀ x, l[j]? = some x → p x = false) : idxF p l = (k : Int) := by
  have ha : l.any p = true := List.any_eq_true.2 ⟨l[k], List.getElem_mem h, hp⟩
  unfold idxF
  rw [if_pos ha]
  congr 1
  rw [List.findIdx_eq h]
  exact ⟨hp, fun j hj => hn j hj _ (List.getElem?_eq_getElem (by omega))⟩
theorem idxF_none {α : Type} (p : α → Bool) (l : List α) (hn : ∀ j, j < l.length → ∀ x, l[j]? = some x → p x = false) : idxF p l = -1 := by
  have ha : ¬ l.any p = true := by
    rw [List.any_eq_true]
    rintro ⟨x, hx, hp⟩
    obtain ⟨j, hj, e⟩ := List.getElem_of_mem hx
    have := hn j hj x (by rw [List.getElem?_eq_getElem hj, e])
    rw [this] at hp
    cases hp
  unfold idxF
  rw [if_neg ha]
theorem idxF_ge {α : Type} (p : α → Bool) (l : List α) : decide (0 ≤ idxF p l) = l.any p := by
  unfold idxF
  split
  · rename_i h; rw [h]; simp
  · rename_i h; simp at h ⊢; simpa using h

attribute [simp] vmakeFunc capOf partsOf vfill
@[simp] theorem cInt_length (n : Int) : (cInt n).length = 1 := rfl

section
variable {P : Program} {T : Tab} {N : Fx} {H : Hp}
theorem bin_sln {t e : TypeId} (he : elemOfSlice P t = some e) {x y : Operand} {a : List CV} {l : List (List CV)} : vbin P H .eql t x y (.one (.c (.arr (a :: l)))) (.one (.c (.v (.slice none 0 0)))) = qa (vB false) := by
  have hu : ∃ d, pv P (underlying t) = some (.slice d) := by
    unfold elemOfSlice at he
    split at he
    · rename_i d hd; exact ⟨_, hd⟩
    · cases he
  obtain ⟨d, hd⟩ := hu
  simp [vbin, neSl, isNils, okSl, hd, one?, Value.oneCell']
theorem bs_zero {nid : Nat} {ρ : Operand → Option AV} {t e : TypeId} {sz b : Nat} {z : List CV} (he : elemOfSlice P t = some e) (hel : elOf P e = some (sz, b, z)) : vbuildSlice P H nid ρ t 0 [] = some (.one (.sl nid 0 0 0), [.clo [] false], []) := by
  obtain ⟨i, v, h1, h2, h3, h4, h5, h6, h7⟩ := elOf_facts hel
  simp [vbuildSlice, he, h1]
theorem vw_append {e : Nat → AV} {d : Option Tmp} {ty : TypeId} {pos : String} {aft : Array Edge} {g : Option (Nat × Bool)} {x y : Operand} {t tx : TypeId} :
    vwr P T N H (evo e) ⟨d, .call ⟨.builtin .append, #[x, y], #[t, tx]⟩, ty, pos, aft, g⟩ = match evo e x, evo e y with | some a, some b => vappend P H t tx a b | _, _ => none := rfl
theorem vw_store {e : Nat → AV} {d : Option Tmp} {ty : TypeId} {pos : String} {aft : Array Edge} {g : Option (Nat × Bool)} {x y : Operand} {t : TypeId} :
    vwr P T N H (evo e) ⟨d, .store t x y, ty, pos, aft, g⟩ = match evo e x, evo e y with | some a, some b => (vstore P N.nest H t a b).map fun K => (und, K) | _, _ => none := rfl
end
attribute [simp] vw_append vw_store
theorem fz_v {H : Hp} {x : Value} : fzc 5 H (.c (.v x)) = some (nrm x) := rfl
theorem fz_arr {H : Hp} {l : List (List CV)} : fzc 5 H (.c (.arr l)) = some (.arr l) := rfl
theorem fz_fn {H : Hp} {f : FuncId} {l : List CV} : fzc 5 H (.c (.fn f l)) = some (.fn f l) := rfl
theorem fz_cptr {H : Hp} {l : List CV} : fzc 5 H (.c (.cptr l)) = some (.cptr l) := rfl
section
variable {α : Type}
/-! what lies behind the first part of a heap -/
theorem hp_get (H L : List α) (k : Nat) : (H ++ L)[H.length + k]? = L[k]? := by rw [List.getElem?_append_right (by omega)]; congr 1; omega
theorem hp_get0 (H L : List α) : (H ++ L)[H.length]? = L[0]? := hp_get H L 0
theorem hp_set (H L : List α) (k : Nat) (x : α) : (H ++ L).set (H.length + k) x = H ++ L.set k x := by rw [List.set_append_right _ _ (by omega)]; congr 2; omega
theorem hp_set0 (H L : List α) (x : α) : (H ++ L).set H.length x = H ++ L.set 0 x := hp_set H L 0 x
theorem hp_mod0 (H L : List α) (f : α → α) : (H ++ L).modify H.length f = H ++ L.modify 0 f := by
  induction H with
  | nil => rfl
  | cons x H ih => simpa using ih
attribute [simp] hp_mod0
attribute [simp] hp_get hp_get0 hp_set hp_set0
end
end Go.Proofs.Vm
end

section
/- The value machine: appends and places as simp reckons them. -/
namespace Go.Proofs.Vm
open Go

variable {P : Program} {H : Hp}

def AllLen (l : List (List CV)) (sz : Nat) : Prop := ∀ e ∈ l, e.length = sz
instance (l : List (List CV)) (sz : Nat) : Decidable (AllLen l sz) := inferInstanceAs (Decidable (∀ e ∈ l, e.length = sz))
@[simp] theorem allLen_nil (sz : Nat) : AllLen [] sz := fun e h => by cases h
@[simp] theorem allLen_one (e : List CV) (sz : Nat) : AllLen [e] sz ↔ e.length = sz := by simp [AllLen]
theorem vappend_sp {t tx e ex : TypeId} {id n : Nat} {x : AV} {sz b : Nat} {z : List CV} (he : elemOfSlice P t = some e) (hex : elemOfSlice P tx = some ex) (hel : elOf P e = some (sz, b, z)) :
    vappend P H t tx (.one (.sl id 0 n n)) x = match elemsOf H x, H[id]? with
      | some xs, some (.clo l false) => if l.length = n ∧ AllLen l sz ∧ AllLen xs sz ∧ b * (n + xs.length) ≤ 140737488355328 ∧ n + xs.length ≤ 4611686018427387904 then some (.one (.sl id 0 (n + xs.length) (n + xs.length)), H.set id (.clo (l ++ xs) false)) else none
      | _, _ => none := by
  obtain ⟨i, v, h1, h2, h3, h4, h5, h6, h7⟩ := elOf_facts hel
  unfold vappend
  cases hx : elemsOf H x with
  | none => rfl
  | some xs =>
    simp only [he, hex, h1, h2]
    cases hH : H[id]? with
    | none => rfl
    | some en =>
      cases en with
      | clo l f =>
        cases f with
        | true => rfl
        | false =>
          simp only [h3, h4]
          by_cases hc : l.length = n ∧ AllLen l sz ∧ AllLen xs sz ∧ b * (n + xs.length) ≤ 140737488355328 ∧ n + xs.length ≤ 4611686018427387904
          · rw [if_pos hc, if_pos ⟨trivial, trivial, hc.1, hc.2.1, hc.2.2.1, h6, by simp [small]; exact hc.2.2.2.1, hc.2.2.2.2⟩]
          · rw [if_neg hc, if_neg]
            rintro ⟨_, _, k1, k2, k3, _, k4, k5⟩
            exact hc ⟨k1, k2, k3, by simpa [small] using k4, k5⟩
      | opn l f => rfl
      | mp l => rfl

/-- Closing and giving up, a step at a time: in place of the functions themselves, which unfold too far where a place is not known yet. -/
theorem fz_sl (n : Nat) (H : Hp) (id o m tot : Nat) : fzc (n + 1) H (.sl id o m tot) = match H[id]? with
    | some (.clo l _) => if l.length = tot then some (.arr ((l.drop o).take m)) else none
    | some (.opn l _) => if l.length = tot then (mapO (mapO (fzc n H)) ((l.drop o).take m)).map .arr else none
    | _ => none := rfl
theorem fz_ptr (n : Nat) (H : Hp) (p : Pt) : fzc (n + 1) H (.ptr p) = match cellsAt H p with
    | some cs => (mapO (fzc n H) cs).map .cptr
    | none => none := rfl
theorem rh_c (n : Nat) (H : Hp) (x : CV) : rch (n + 1) H (.c x) = [] := rfl
theorem rh_sl (n : Nat) (H : Hp) (id o m tot : Nat) : rch (n + 1) H (.sl id o m tot) = id :: (match H[id]? with
    | some (.opn l _) => (((l.drop o).take m).map fun e => (e.map (rch n H)).flatten).flatten
    | _ => []) := rfl
theorem rh_ptr (n : Nat) (H : Hp) (p : Pt) : rch (n + 1) H (.ptr p) = p.id :: (match cellsAt H p with
    | some cs => (cs.map (rch n H)).flatten
    | none => []) := rfl

/-- A place behind a list. -/
@[simp] theorem get_mid (L M : List Ent) (X : Ent) : (L ++ X :: M)[L.length]? = some X := by simp
@[simp] theorem set_mid (L M : List Ent) (X Y : Ent) : (L ++ X :: M).set L.length Y = L ++ Y :: M := by simp
@[simp] theorem get_mid2 (L M N : List Ent) (A X : Ent) : (L ++ A :: (M ++ X :: N))[L.length + (M.length + 1)]? = some X := by
  rw [List.getElem?_append_right (by omega)]
  simp
@[simp] theorem get_mid3 (L M : List Ent) (A X : Ent) (N : List Ent) : (L ++ A :: X :: (M ++ N))[L.length + 1]? = some X := by
  rw [List.getElem?_append_right (by omega)]
  simp

/-- The first ones of a list, told: what a loop has appended so far. -/
def tk {α β : Type} (f : α → β) (l : List α) (i : Nat) : List β := (l.take i).map f
theorem tk_zero {α β : Type} (f : α → β) (l : List α) : tk f l 0 = [] := by simp [tk]
theorem tk_len {α β : Type} {f : α → β} {l : List α} {i : Nat} (h : i ≤ l.length) : (tk f l i).length = i := by simp [tk]; omega
theorem tk_succ {α β : Type} {f : α → β} {l : List α} {i : Nat} (h : i < l.length) : tk f l i ++ [f l[i]] = tk f l (i + 1) := by
  unfold tk
  rw [List.take_add_one, List.getElem?_eq_getElem h, List.map_append]
  rfl
theorem tk_all {α β : Type} {f : α → β} {l : List α} {i : Nat} (h : l.length ≤ i) : tk f l i = l.map f := by rw [tk, List.take_of_length_le h]
theorem tk_allLen {α : Type} {f : α → List CV} {l : List α} {i sz : Nat} (h : ∀ a, (f a).length = sz) : AllLen (tk f l i) sz := by
  intro x hx
  obtain ⟨a, ha, rfl⟩ := List.mem_map.1 hx
  exact h a
theorem tk_mem {α β : Type} {f : α → β} {l : List α} {i : Nat} {p : β → Prop} (h : ∀ a ∈ l, p (f a)) : ∀ x ∈ tk f l i, p x := by
  intro x hx
  obtain ⟨a, ha, rfl⟩ := List.mem_map.1 hx
  exact h a (List.mem_of_mem_take ha)

end Go.Proofs.Vm
end

section
/- Functions that share memory, told by what they leave; a heap of which three places are told. -/
namespace Go.Proofs.Vm
open Go

variable {P : Program} {C : Cfg}

/-- What a function's end must be, where only something is told of what it leaves. -/
def endX (P : Program) (rs : List ResultVar) (Q : AV → Hp → Prop) : Ex → St → Prop
  | .exit _, _ => False
  | _, s => ∃ l a, mapO (vres P s) rs = some l ∧ join l = some a ∧ Q a s.H
@[simp] theorem endx_n {rs : List ResultVar} {Q : AV → Hp → Prop} {s : St} : endX P rs Q .normal s ↔ ∃ l a, mapO (vres P s) rs = some l ∧ join l = some a ∧ Q a s.H := Iff.rfl
@[simp] theorem endx_r {rs : List ResultVar} {Q : AV → Hp → Prop} {s : St} : endX P rs Q .ret s ↔ ∃ l a, mapO (vres P s) rs = some l ∧ join l = some a ∧ Q a s.H := Iff.rfl

theorem TT_goX {f : FuncId} {fn : Func} {c : Code} {N : Fx} (hf : P.funcs[f]? = some fn) (hb : fn.body = some c) (hok : FnOk P f) (hN : N = ⟨fn.ntmps, C.sh, C.nest f⟩) (hc : codeB P N c = true) {args : List AV} {H : Hp} (hbase : C.base.S f args H = none) (hl : args.length ≤ fn.ntmps) {Q : AV → Hp → Prop}
    (hcl : isCl P f = false) (hQ : ∀ a K, Q a K → H.length ≤ K.length) (h : wpV P (TT P C) N c (endX P fn.results.toList Q) ⟨envS args, H⟩) : ∃ a K, (TT P C).S f args H = some (a, K) ∧ Q a K := by
  obtain ⟨ex, s', h1, h2⟩ := h
  cases ex with
  | exit id => exact h2.elim
  | normal =>
    obtain ⟨l, a, k1, k2, k3⟩ := h2
    exact ⟨a, s'.H, TT_goS hf hb hok hN hc hbase hl ⟨hQ _ _ k3, fun h => by rw [hcl] at h; cases h⟩ ⟨.normal, s', h1, l, k1, k2, rfl⟩, k3⟩
  | ret =>
    obtain ⟨l, a, k1, k2, k3⟩ := h2
    exact ⟨a, s'.H, TT_goS hf hb hok hN hc hbase hl ⟨hQ _ _ k3, fun h => by rw [hcl] at h; cases h⟩ ⟨.ret, s', h1, l, k1, k2, rfl⟩, k3⟩

/-! A heap of which three places are told; what was made since then stands behind. -/

/-- Three places of a heap, apart. -/
structure Three (K : Hp) (a b c : Nat) : Prop where
  ha : a < K.length
  hb : b < K.length
  hc : c < K.length
  ab : a ≠ b
  ac : a ≠ c
  bc : b ≠ c

def hq (K : Hp) (a b c : Nat) (x y z : Ent) (L : Hp) : Hp := ((K.set a x).set b y).set c z ++ L

section
variable {K : Hp} {a b c : Nat} (t : Three K a b c) (x y z u : Ent) (L : Hp)
include t
theorem hq_a : (hq K a b c x y z L)[a]? = some x := by
  unfold hq
  rw [List.getElem?_append_left (by simp; exact t.ha), List.getElem?_set_ne t.ac.symm, List.getElem?_set_ne t.ab.symm, List.getElem?_set_self t.ha]
theorem hq_b : (hq K a b c x y z L)[b]? = some y := by
  unfold hq
  rw [List.getElem?_append_left (by simp; exact t.hb), List.getElem?_set_ne t.bc.symm, List.getElem?_set_self (by simp; exact t.hb)]
theorem hq_c : (hq K a b c x y z L)[c]? = some z := by
  unfold hq
  rw [List.getElem?_append_left (by simp; exact t.hc), List.getElem?_set_self (by simp; exact t.hc)]
theorem hq_sa : (hq K a b c x y z L).set a u = hq K a b c u y z L := by
  unfold hq
  rw [List.set_append_left _ _ (by simp; exact t.ha), List.set_comm _ _ t.ac.symm, List.set_comm _ _ t.ab.symm, List.set_set]
theorem hq_sb : (hq K a b c x y z L).set b u = hq K a b c x u z L := by
  unfold hq
  rw [List.set_append_left _ _ (by simp; exact t.hb), List.set_comm _ _ t.bc.symm, List.set_set]
theorem hq_sc : (hq K a b c x y z L).set c u = hq K a b c x y u L := by
  unfold hq
  rw [List.set_append_left _ _ (by simp; exact t.hc), List.set_set]
end
theorem hq_len (K : Hp) (a b c : Nat) (x y z : Ent) (L : Hp) : (hq K a b c x y z L).length = K.length + L.length := by simp [hq]
theorem hq_app (K : Hp) (a b c : Nat) (x y z : Ent) (L M : Hp) : hq K a b c x y z L ++ M = hq K a b c x y z (L ++ M) := by simp [hq]
theorem hq_get (K : Hp) (a b c : Nat) (x y z : Ent) (L : Hp) (j : Nat) : (hq K a b c x y z L)[K.length + j]? = L[j]? := by
  unfold hq
  rw [List.getElem?_append_right (by simp)]
  congr 1
  simp
theorem hq_set (K : Hp) {a b c : Nat} (x y z u : Ent) (L : Hp) (j : Nat) : (hq K a b c x y z L).set (K.length + j) u = hq K a b c x y z (L.set j u) := by
  unfold hq
  rw [List.set_append_right _ _ (by simp)]
  congr 2
  simp
theorem hq_of {K : Hp} {a b c : Nat} {x y z : Ent} (h1 : K[a]? = some x) (h2 : K[b]? = some y) (h3 : K[c]? = some z) : K = hq K a b c x y z [] := by
  unfold hq
  rw [set_same h1, set_same h2, set_same h3, List.append_nil]

theorem toList_loop (s : ByteArray) (d : Nat) : ∀ (i : Nat) (r : List UInt8), i + d = s.size → ByteArray.toList.loop s i r = r.reverse ++ s.data.toList.drop i := by
  induction d with
  | zero =>
    intro i r h
    rw [ByteArray.toList.loop, if_neg (by omega), List.drop_of_length_le (by rw [Array.length_toList]; show s.size ≤ i; omega), List.append_nil]
  | succ d ih =>
    intro i r h
    have hi : i < s.data.toList.length := by rw [Array.length_toList]; show i < s.size; omega
    rw [ByteArray.toList.loop, if_pos (by omega), ih (i + 1) _ (by omega), List.reverse_cons, List.append_assoc, List.drop_eq_getElem_cons hi]
    have hs : i < s.data.size := by rw [Array.length_toList] at hi; exact hi
    have e : s.get! i = s.data.toList[i] := by
      show s.data[i]! = _
      rw [getElem!_pos s.data i hs, Array.getElem_toList]
    rw [e]
    rfl
theorem toList_eq (s : ByteArray) : s.toList = s.data.toList := by
  unfold ByteArray.toList
  rw [toList_loop s s.size 0 [] (by omega)]
  rfl
theorem toList_inj {s u : ByteArray} : s.toList = u.toList ↔ s = u := by
  constructor
  · intro h
    rw [toList_eq, toList_eq] at h
    have := Array.toList_inj.1 h
    cases s; cases u; simp_all
  · intro h; rw [h]

/-! Maps from strings to numbers; each entry has a stamp. -/
abbrev SM := List (ByteArray × Int)
def cM : SM → List Int → List (Value × List CV)
  | p :: r, b :: bs => (.string p.1, [.v (.int .i64 p.2), .v (.int .i64 b)]) :: cM r bs
  | _, _ => []
/-- Where a key stands. -/
def mIx (k : ByteArray) : SM → Option Nat
  | [] => none
  | p :: r => if k = p.1 then some 0 else (mIx k r).map (· + 1)
theorem find_cM (k : ByteArray) : ∀ (m : SM) (bs : List Int), bs.length = m.length → findM (.string k) ((cM m bs).map (·.1)) = some (mIx k m)
  | [], bs, _ => by cases bs <;> rfl
  | p :: r, [], h => by simp at h
  | p :: r, b :: bs, h => by
    have ih := find_cM k r bs (by simpa using h)
    simp only [cM, List.map_cons, findM, keyEq, mIx]
    by_cases h : k = p.1
    · rw [if_pos h, h, (Go.MapKept.bytes_beq p.1 p.1).2 rfl]
    · rw [if_neg h]
      have : (k == p.1) = false := by
        cases hb : k == p.1 with
        | false => rfl
        | true => exact absurd ((Go.MapKept.bytes_beq _ _).1 hb) h
      rw [this]
      simp only [ih, Option.map_some]
theorem cM_get : ∀ (m : SM) (bs : List Int) (j : Nat), ∀ h : j < m.length, ∀ h2 : j < bs.length, (cM m bs)[j]? = some (.string m[j].1, [.v (.int .i64 m[j].2), .v (.int .i64 bs[j])])
  | [], bs, j, h, _ => by simp at h
  | p :: r, [], j, _, h => by simp at h
  | p :: r, b :: bs, 0, _, _ => rfl
  | p :: r, b :: bs, j + 1, h, h2 => cM_get r bs j (by simpa using h) (by simpa using h2)
theorem cM_len : ∀ (m : SM) (bs : List Int), bs.length = m.length → (cM m bs).length = m.length
  | [], bs, _ => by cases bs <;> rfl
  | p :: r, [], h => by simp at h
  | p :: r, b :: bs, h => by simp only [cM, List.length_cons, cM_len r bs (by simpa using h)]

end Go.Proofs.Vm
end

section
/- Closed facts of this seat's types and functions. -/
namespace Go.Proofs.YtonkhpeahbjmmaaDoorF
open Go Go.Proofs.Vm
@[simp] theorem ld2 : ldOf Tryd.prog 2 = some none := by kernel_rfl
@[simp] theorem z2 : zOf Tryd.prog 2 = some [.int .i64 0] := by kernel_rfl
@[simp] theorem el2 : elOf Tryd.prog 2 = some (1, 8, [.v (.int .i64 0)]) := by kernel_rfl
@[simp] theorem st2 : isSliceT Tryd.prog 2 = false := by kernel_rfl
@[simp] theorem sz2 : pv Tryd.prog (sizeOf 2) = some 1 := by kernel_rfl
@[simp] theorem u82 : isU8 Tryd.prog 2 = false := by kernel_rfl
@[simp] theorem mt2 : isMapT Tryd.prog 2 = false := by kernel_rfl
@[simp] theorem ik2 : ikOf Tryd.prog 2 = some .i64 := by kernel_rfl
@[simp] theorem ld3 : ldOf Tryd.prog 3 = some none := by kernel_rfl
@[simp] theorem z3 : zOf Tryd.prog 3 = some [.int .i64 0] := by kernel_rfl
@[simp] theorem el3 : elOf Tryd.prog 3 = some (1, 8, [.v (.int .i64 0)]) := by kernel_rfl
@[simp] theorem st3 : isSliceT Tryd.prog 3 = false := by kernel_rfl
@[simp] theorem sz3 : pv Tryd.prog (sizeOf 3) = some 1 := by kernel_rfl
@[simp] theorem u83 : isU8 Tryd.prog 3 = false := by kernel_rfl
@[simp] theorem mt3 : isMapT Tryd.prog 3 = false := by kernel_rfl
@[simp] theorem ik3 : ikOf Tryd.prog 3 = some .i64 := by kernel_rfl
@[simp] theorem ld4 : ldOf Tryd.prog 4 = some none := by kernel_rfl
@[simp] theorem z4 : zOf Tryd.prog 4 = some [.bool false] := by kernel_rfl
@[simp] theorem el4 : elOf Tryd.prog 4 = some (1, 1, [.v (.bool false)]) := by kernel_rfl
@[simp] theorem st4 : isSliceT Tryd.prog 4 = false := by kernel_rfl
@[simp] theorem sz4 : pv Tryd.prog (sizeOf 4) = some 1 := by kernel_rfl
@[simp] theorem u84 : isU8 Tryd.prog 4 = false := by kernel_rfl
@[simp] theorem mt4 : isMapT Tryd.prog 4 = false := by kernel_rfl
@[simp] theorem ik4 : ikOf Tryd.prog 4 = none := by kernel_rfl
@[simp] theorem ub4 : pv Tryd.prog (underlying 4) = some .bool := by kernel_rfl
@[simp] theorem ld5 : ldOf Tryd.prog 5 = some none := by kernel_rfl
@[simp] theorem z5 : zOf Tryd.prog 5 = some [.int .u8 0] := by kernel_rfl
@[simp] theorem el5 : elOf Tryd.prog 5 = some (1, 1, [.v (.int .u8 0)]) := by kernel_rfl
@[simp] theorem st5 : isSliceT Tryd.prog 5 = false := by kernel_rfl
@[simp] theorem sz5 : pv Tryd.prog (sizeOf 5) = some 1 := by kernel_rfl
@[simp] theorem u85 : isU8 Tryd.prog 5 = false := by kernel_rfl
@[simp] theorem mt5 : isMapT Tryd.prog 5 = false := by kernel_rfl
@[simp] theorem ik5 : ikOf Tryd.prog 5 = some .u8 := by kernel_rfl
@[simp] theorem ld9 : ldOf Tryd.prog 9 = some none := by kernel_rfl
@[simp] theorem z9 : zOf Tryd.prog 9 = some [.string ByteArray.empty] := by kernel_rfl
@[simp] theorem el9 : elOf Tryd.prog 9 = some (1, 16, [.v (.string ByteArray.empty)]) := by kernel_rfl
@[simp] theorem st9 : isSliceT Tryd.prog 9 = false := by kernel_rfl
@[simp] theorem sz9 : pv Tryd.prog (sizeOf 9) = some 1 := by kernel_rfl
@[simp] theorem u89 : isU8 Tryd.prog 9 = false := by kernel_rfl
@[simp] theorem mt9 : isMapT Tryd.prog 9 = false := by kernel_rfl
@[simp] theorem sr9 : isStrT Tryd.prog 9 = true := by kernel_rfl
@[simp] theorem ik9 : ikOf Tryd.prog 9 = none := by kernel_rfl
@[simp] theorem us9 : pv Tryd.prog (underlying 9) = some .string := by kernel_rfl
@[simp] theorem lns9 {H : Hp} {ty : TypeId} {s : ByteArray} : vlen Tryd.prog H #[9] ty (vS s) = qa (vI .i64 s.size) := len_str us9
@[simp] theorem ld12 : ldOf Tryd.prog 12 = some none := by kernel_rfl
@[simp] theorem z12 : zOf Tryd.prog 12 = some [.int .u64 0] := by kernel_rfl
@[simp] theorem el12 : elOf Tryd.prog 12 = some (1, 8, [.v (.int .u64 0)]) := by kernel_rfl
@[simp] theorem st12 : isSliceT Tryd.prog 12 = false := by kernel_rfl
@[simp] theorem sz12 : pv Tryd.prog (sizeOf 12) = some 1 := by kernel_rfl
@[simp] theorem u812 : isU8 Tryd.prog 12 = false := by kernel_rfl
@[simp] theorem mt12 : isMapT Tryd.prog 12 = false := by kernel_rfl
@[simp] theorem ik12 : ikOf Tryd.prog 12 = some .u64 := by kernel_rfl
@[simp] theorem ld21 : ldOf Tryd.prog 21 = some none := by kernel_rfl
@[simp] theorem z21 : zOf Tryd.prog 21 = some [.int .i32 0] := by kernel_rfl
@[simp] theorem el21 : elOf Tryd.prog 21 = some (1, 4, [.v (.int .i32 0)]) := by kernel_rfl
@[simp] theorem st21 : isSliceT Tryd.prog 21 = false := by kernel_rfl
@[simp] theorem sz21 : pv Tryd.prog (sizeOf 21) = some 1 := by kernel_rfl
@[simp] theorem u821 : isU8 Tryd.prog 21 = false := by kernel_rfl
@[simp] theorem mt21 : isMapT Tryd.prog 21 = false := by kernel_rfl
@[simp] theorem ik21 : ikOf Tryd.prog 21 = some .i32 := by kernel_rfl
@[simp] theorem ld22 : ldOf Tryd.prog 22 = some none := by kernel_rfl
@[simp] theorem z22 : zOf Tryd.prog 22 = some [.int .u64 0] := by kernel_rfl
@[simp] theorem el22 : elOf Tryd.prog 22 = some (1, 8, [.v (.int .u64 0)]) := by kernel_rfl
@[simp] theorem st22 : isSliceT Tryd.prog 22 = false := by kernel_rfl
@[simp] theorem sz22 : pv Tryd.prog (sizeOf 22) = some 1 := by kernel_rfl
@[simp] theorem u822 : isU8 Tryd.prog 22 = false := by kernel_rfl
@[simp] theorem mt22 : isMapT Tryd.prog 22 = false := by kernel_rfl
@[simp] theorem ik22 : ikOf Tryd.prog 22 = some .u64 := by kernel_rfl
@[simp] theorem ld23 : ldOf Tryd.prog 23 = some none := by kernel_rfl
@[simp] theorem z23 : zOf Tryd.prog 23 = some [.slice none 0 0] := by kernel_rfl
@[simp] theorem el23 : elOf Tryd.prog 23 = some (1, 24, [.arr []]) := by kernel_rfl
@[simp] theorem st23 : isSliceT Tryd.prog 23 = true := by kernel_rfl
@[simp] theorem sz23 : pv Tryd.prog (sizeOf 23) = some 1 := by kernel_rfl
@[simp] theorem u823 : isU8 Tryd.prog 23 = false := by kernel_rfl
@[simp] theorem mt23 : isMapT Tryd.prog 23 = false := by kernel_rfl
@[simp] theorem ik23 : ikOf Tryd.prog 23 = none := by kernel_rfl
@[simp] theorem es23 : elemOfSlice Tryd.prog 23 = some 47 := by kernel_rfl
@[simp] theorem ld24 : ldOf Tryd.prog 24 = some (some 2) := by kernel_rfl
@[simp] theorem z24 : zOf Tryd.prog 24 = some [.int .u64 0, .slice none 0 0] := by kernel_rfl
@[simp] theorem el24 : elOf Tryd.prog 24 = some (2, 32, [.v (.int .u64 0), .arr []]) := by kernel_rfl
@[simp] theorem st24 : isSliceT Tryd.prog 24 = false := by kernel_rfl
@[simp] theorem sz24 : pv Tryd.prog (sizeOf 24) = some 2 := by kernel_rfl
@[simp] theorem u824 : isU8 Tryd.prog 24 = false := by kernel_rfl
@[simp] theorem mt24 : isMapT Tryd.prog 24 = false := by kernel_rfl
@[simp] theorem ik24 : ikOf Tryd.prog 24 = none := by kernel_rfl
@[simp] theorem bld24 : bldOf Tryd.prog 24 = some ([.int .u64 0, .slice none 0 0], [(0, 1), (1, 1)]) := by kernel_rfl
@[simp] theorem off24_0 : offOf Tryd.prog 24 0 = some 0 := by kernel_rfl
@[simp] theorem fld24_0 : fldOf Tryd.prog 24 0 = some (0, none) := by kernel_rfl
@[simp] theorem off24_1 : offOf Tryd.prog 24 1 = some 1 := by kernel_rfl
@[simp] theorem fld24_1 : fldOf Tryd.prog 24 1 = some (1, none) := by kernel_rfl
@[simp] theorem ld25 : ldOf Tryd.prog 25 = some (some 2) := by kernel_rfl
@[simp] theorem z25 : zOf Tryd.prog 25 = some [.int .u64 0, .slice none 0 0] := by kernel_rfl
@[simp] theorem el25 : elOf Tryd.prog 25 = some (2, 32, [.v (.int .u64 0), .arr []]) := by kernel_rfl
@[simp] theorem st25 : isSliceT Tryd.prog 25 = false := by kernel_rfl
@[simp] theorem sz25 : pv Tryd.prog (sizeOf 25) = some 2 := by kernel_rfl
@[simp] theorem u825 : isU8 Tryd.prog 25 = false := by kernel_rfl
@[simp] theorem mt25 : isMapT Tryd.prog 25 = false := by kernel_rfl
@[simp] theorem ik25 : ikOf Tryd.prog 25 = none := by kernel_rfl
@[simp] theorem bld25 : bldOf Tryd.prog 25 = some ([.int .u64 0, .slice none 0 0], [(0, 1), (1, 1)]) := by kernel_rfl
@[simp] theorem off25_0 : offOf Tryd.prog 25 0 = some 0 := by kernel_rfl
@[simp] theorem fld25_0 : fldOf Tryd.prog 25 0 = some (0, none) := by kernel_rfl
@[simp] theorem off25_1 : offOf Tryd.prog 25 1 = some 1 := by kernel_rfl
@[simp] theorem fld25_1 : fldOf Tryd.prog 25 1 = some (1, none) := by kernel_rfl
@[simp] theorem ld26 : ldOf Tryd.prog 26 = some none := by kernel_rfl
@[simp] theorem z26 : zOf Tryd.prog 26 = some [.slice none 0 0] := by kernel_rfl
@[simp] theorem el26 : elOf Tryd.prog 26 = some (1, 24, [.arr []]) := by kernel_rfl
@[simp] theorem st26 : isSliceT Tryd.prog 26 = true := by kernel_rfl
@[simp] theorem sz26 : pv Tryd.prog (sizeOf 26) = some 1 := by kernel_rfl
@[simp] theorem u826 : isU8 Tryd.prog 26 = false := by kernel_rfl
@[simp] theorem mt26 : isMapT Tryd.prog 26 = false := by kernel_rfl
@[simp] theorem ik26 : ikOf Tryd.prog 26 = none := by kernel_rfl
@[simp] theorem es26 : elemOfSlice Tryd.prog 26 = some 69 := by kernel_rfl
@[simp] theorem ld27 : ldOf Tryd.prog 27 = some (some 2) := by kernel_rfl
@[simp] theorem z27 : zOf Tryd.prog 27 = some [.int .u64 0, .slice none 0 0] := by kernel_rfl
@[simp] theorem el27 : elOf Tryd.prog 27 = some (2, 32, [.v (.int .u64 0), .arr []]) := by kernel_rfl
@[simp] theorem st27 : isSliceT Tryd.prog 27 = false := by kernel_rfl
@[simp] theorem sz27 : pv Tryd.prog (sizeOf 27) = some 2 := by kernel_rfl
@[simp] theorem u827 : isU8 Tryd.prog 27 = false := by kernel_rfl
@[simp] theorem mt27 : isMapT Tryd.prog 27 = false := by kernel_rfl
@[simp] theorem ik27 : ikOf Tryd.prog 27 = none := by kernel_rfl
@[simp] theorem bld27 : bldOf Tryd.prog 27 = some ([.int .u64 0, .slice none 0 0], [(0, 1), (1, 1)]) := by kernel_rfl
@[simp] theorem off27_0 : offOf Tryd.prog 27 0 = some 0 := by kernel_rfl
@[simp] theorem fld27_0 : fldOf Tryd.prog 27 0 = some (0, none) := by kernel_rfl
@[simp] theorem off27_1 : offOf Tryd.prog 27 1 = some 1 := by kernel_rfl
@[simp] theorem fld27_1 : fldOf Tryd.prog 27 1 = some (1, none) := by kernel_rfl
@[simp] theorem ld28 : ldOf Tryd.prog 28 = some (some 2) := by kernel_rfl
@[simp] theorem z28 : zOf Tryd.prog 28 = some [.int .u64 0, .slice none 0 0] := by kernel_rfl
@[simp] theorem el28 : elOf Tryd.prog 28 = some (2, 32, [.v (.int .u64 0), .arr []]) := by kernel_rfl
@[simp] theorem st28 : isSliceT Tryd.prog 28 = false := by kernel_rfl
@[simp] theorem sz28 : pv Tryd.prog (sizeOf 28) = some 2 := by kernel_rfl
@[simp] theorem u828 : isU8 Tryd.prog 28 = false := by kernel_rfl
@[simp] theorem mt28 : isMapT Tryd.prog 28 = false := by kernel_rfl
@[simp] theorem ik28 : ikOf Tryd.prog 28 = none := by kernel_rfl
@[simp] theorem bld28 : bldOf Tryd.prog 28 = some ([.int .u64 0, .slice none 0 0], [(0, 1), (1, 1)]) := by kernel_rfl
@[simp] theorem off28_0 : offOf Tryd.prog 28 0 = some 0 := by kernel_rfl
@[simp] theorem fld28_0 : fldOf Tryd.prog 28 0 = some (0, none) := by kernel_rfl
@[simp] theorem off28_1 : offOf Tryd.prog 28 1 = some 1 := by kernel_rfl
@[simp] theorem fld28_1 : fldOf Tryd.prog 28 1 = some (1, none) := by kernel_rfl
@[simp] theorem ld34 : ldOf Tryd.prog 34 = some none := by kernel_rfl
@[simp] theorem z34 : zOf Tryd.prog 34 = some [.slice none 0 0] := by kernel_rfl
@[simp] theorem el34 : elOf Tryd.prog 34 = some (1, 24, [.arr []]) := by kernel_rfl
@[simp] theorem st34 : isSliceT Tryd.prog 34 = true := by kernel_rfl
@[simp] theorem sz34 : pv Tryd.prog (sizeOf 34) = some 1 := by kernel_rfl
@[simp] theorem u834 : isU8 Tryd.prog 34 = false := by kernel_rfl
@[simp] theorem mt34 : isMapT Tryd.prog 34 = false := by kernel_rfl
@[simp] theorem ik34 : ikOf Tryd.prog 34 = none := by kernel_rfl
@[simp] theorem es34 : elemOfSlice Tryd.prog 34 = some 61 := by kernel_rfl
@[simp] theorem ld40 : ldOf Tryd.prog 40 = some none := by kernel_rfl
@[simp] theorem z40 : zOf Tryd.prog 40 = some [.slice none 0 0] := by kernel_rfl
@[simp] theorem el40 : elOf Tryd.prog 40 = some (1, 24, [.arr []]) := by kernel_rfl
@[simp] theorem st40 : isSliceT Tryd.prog 40 = true := by kernel_rfl
@[simp] theorem sz40 : pv Tryd.prog (sizeOf 40) = some 1 := by kernel_rfl
@[simp] theorem u840 : isU8 Tryd.prog 40 = false := by kernel_rfl
@[simp] theorem mt40 : isMapT Tryd.prog 40 = false := by kernel_rfl
@[simp] theorem ik40 : ikOf Tryd.prog 40 = none := by kernel_rfl
@[simp] theorem es40 : elemOfSlice Tryd.prog 40 = some 91 := by kernel_rfl
@[simp] theorem ld44 : ldOf Tryd.prog 44 = some none := by kernel_rfl
@[simp] theorem z44 : zOf Tryd.prog 44 = some [.int .i64 0] := by kernel_rfl
@[simp] theorem el44 : elOf Tryd.prog 44 = some (1, 8, [.v (.int .i64 0)]) := by kernel_rfl
@[simp] theorem st44 : isSliceT Tryd.prog 44 = false := by kernel_rfl
@[simp] theorem sz44 : pv Tryd.prog (sizeOf 44) = some 1 := by kernel_rfl
@[simp] theorem u844 : isU8 Tryd.prog 44 = false := by kernel_rfl
@[simp] theorem mt44 : isMapT Tryd.prog 44 = false := by kernel_rfl
@[simp] theorem ik44 : ikOf Tryd.prog 44 = some .i64 := by kernel_rfl
@[simp] theorem ld47 : ldOf Tryd.prog 47 = some none := by kernel_rfl
@[simp] theorem z47 : zOf Tryd.prog 47 = some [.slice none 0 0] := by kernel_rfl
@[simp] theorem el47 : elOf Tryd.prog 47 = some (1, 24, [.arr []]) := by kernel_rfl
@[simp] theorem st47 : isSliceT Tryd.prog 47 = true := by kernel_rfl
@[simp] theorem sz47 : pv Tryd.prog (sizeOf 47) = some 1 := by kernel_rfl
@[simp] theorem u847 : isU8 Tryd.prog 47 = false := by kernel_rfl
@[simp] theorem mt47 : isMapT Tryd.prog 47 = false := by kernel_rfl
@[simp] theorem ik47 : ikOf Tryd.prog 47 = none := by kernel_rfl
@[simp] theorem es47 : elemOfSlice Tryd.prog 47 = some 52 := by kernel_rfl
@[simp] theorem ld48 : ldOf Tryd.prog 48 = some none := by kernel_rfl
@[simp] theorem z48 : zOf Tryd.prog 48 = some [.slice none 0 0] := by kernel_rfl
@[simp] theorem el48 : elOf Tryd.prog 48 = some (1, 24, [.arr []]) := by kernel_rfl
@[simp] theorem st48 : isSliceT Tryd.prog 48 = true := by kernel_rfl
@[simp] theorem sz48 : pv Tryd.prog (sizeOf 48) = some 1 := by kernel_rfl
@[simp] theorem u848 : isU8 Tryd.prog 48 = false := by kernel_rfl
@[simp] theorem mt48 : isMapT Tryd.prog 48 = false := by kernel_rfl
@[simp] theorem ik48 : ikOf Tryd.prog 48 = none := by kernel_rfl
@[simp] theorem es48 : elemOfSlice Tryd.prog 48 = some 53 := by kernel_rfl
@[simp] theorem ld49 : ldOf Tryd.prog 49 = some (some 2) := by kernel_rfl
@[simp] theorem z49 : zOf Tryd.prog 49 = some [.int .u64 0, .slice none 0 0] := by kernel_rfl
@[simp] theorem el49 : elOf Tryd.prog 49 = some (2, 32, [.v (.int .u64 0), .arr []]) := by kernel_rfl
@[simp] theorem st49 : isSliceT Tryd.prog 49 = false := by kernel_rfl
@[simp] theorem sz49 : pv Tryd.prog (sizeOf 49) = some 2 := by kernel_rfl
@[simp] theorem u849 : isU8 Tryd.prog 49 = false := by kernel_rfl
@[simp] theorem mt49 : isMapT Tryd.prog 49 = false := by kernel_rfl
@[simp] theorem ik49 : ikOf Tryd.prog 49 = none := by kernel_rfl
@[simp] theorem bld49 : bldOf Tryd.prog 49 = some ([.int .u64 0, .slice none 0 0], [(0, 1), (1, 1)]) := by kernel_rfl
@[simp] theorem off49_0 : offOf Tryd.prog 49 0 = some 0 := by kernel_rfl
@[simp] theorem fld49_0 : fldOf Tryd.prog 49 0 = some (0, none) := by kernel_rfl
@[simp] theorem off49_1 : offOf Tryd.prog 49 1 = some 1 := by kernel_rfl
@[simp] theorem fld49_1 : fldOf Tryd.prog 49 1 = some (1, none) := by kernel_rfl
@[simp] theorem ld50 : ldOf Tryd.prog 50 = some (some 2) := by kernel_rfl
@[simp] theorem z50 : zOf Tryd.prog 50 = some [.int .u64 0, .slice none 0 0] := by kernel_rfl
@[simp] theorem el50 : elOf Tryd.prog 50 = some (2, 32, [.v (.int .u64 0), .arr []]) := by kernel_rfl
@[simp] theorem st50 : isSliceT Tryd.prog 50 = false := by kernel_rfl
@[simp] theorem sz50 : pv Tryd.prog (sizeOf 50) = some 2 := by kernel_rfl
@[simp] theorem u850 : isU8 Tryd.prog 50 = false := by kernel_rfl
@[simp] theorem mt50 : isMapT Tryd.prog 50 = false := by kernel_rfl
@[simp] theorem ik50 : ikOf Tryd.prog 50 = none := by kernel_rfl
@[simp] theorem bld50 : bldOf Tryd.prog 50 = some ([.int .u64 0, .slice none 0 0], [(0, 1), (1, 1)]) := by kernel_rfl
@[simp] theorem off50_0 : offOf Tryd.prog 50 0 = some 0 := by kernel_rfl
@[simp] theorem fld50_0 : fldOf Tryd.prog 50 0 = some (0, none) := by kernel_rfl
@[simp] theorem off50_1 : offOf Tryd.prog 50 1 = some 1 := by kernel_rfl
@[simp] theorem fld50_1 : fldOf Tryd.prog 50 1 = some (1, none) := by kernel_rfl
@[simp] theorem ld51 : ldOf Tryd.prog 51 = some (some 4) := by kernel_rfl
@[simp] theorem z51 : zOf Tryd.prog 51 = some [.int .u64 0, .slice none 0 0, .string ByteArray.empty, .int .i64 0] := by kernel_rfl
@[simp] theorem el51 : elOf Tryd.prog 51 = some (4, 56, [.v (.int .u64 0), .arr [], .v (.string ByteArray.empty), .v (.int .i64 0)]) := by kernel_rfl
@[simp] theorem st51 : isSliceT Tryd.prog 51 = false := by kernel_rfl
@[simp] theorem sz51 : pv Tryd.prog (sizeOf 51) = some 4 := by kernel_rfl
@[simp] theorem u851 : isU8 Tryd.prog 51 = false := by kernel_rfl
@[simp] theorem mt51 : isMapT Tryd.prog 51 = false := by kernel_rfl
@[simp] theorem ik51 : ikOf Tryd.prog 51 = none := by kernel_rfl
@[simp] theorem bld51 : bldOf Tryd.prog 51 = some ([.int .u64 0, .slice none 0 0, .string ByteArray.empty, .int .i64 0], [(0, 2), (2, 1), (3, 1)]) := by kernel_rfl
@[simp] theorem off51_0 : offOf Tryd.prog 51 0 = some 0 := by kernel_rfl
@[simp] theorem fld51_0 : fldOf Tryd.prog 51 0 = some (0, some 2) := by kernel_rfl
@[simp] theorem off51_1 : offOf Tryd.prog 51 1 = some 2 := by kernel_rfl
@[simp] theorem fld51_1 : fldOf Tryd.prog 51 1 = some (2, none) := by kernel_rfl
@[simp] theorem off51_2 : offOf Tryd.prog 51 2 = some 3 := by kernel_rfl
@[simp] theorem fld51_2 : fldOf Tryd.prog 51 2 = some (3, none) := by kernel_rfl
@[simp] theorem ld52 : ldOf Tryd.prog 52 = some (some 4) := by kernel_rfl
@[simp] theorem z52 : zOf Tryd.prog 52 = some [.int .u64 0, .slice none 0 0, .string ByteArray.empty, .int .i64 0] := by kernel_rfl
@[simp] theorem el52 : elOf Tryd.prog 52 = some (4, 56, [.v (.int .u64 0), .arr [], .v (.string ByteArray.empty), .v (.int .i64 0)]) := by kernel_rfl
@[simp] theorem st52 : isSliceT Tryd.prog 52 = false := by kernel_rfl
@[simp] theorem sz52 : pv Tryd.prog (sizeOf 52) = some 4 := by kernel_rfl
@[simp] theorem u852 : isU8 Tryd.prog 52 = false := by kernel_rfl
@[simp] theorem mt52 : isMapT Tryd.prog 52 = false := by kernel_rfl
@[simp] theorem ik52 : ikOf Tryd.prog 52 = none := by kernel_rfl
@[simp] theorem bld52 : bldOf Tryd.prog 52 = some ([.int .u64 0, .slice none 0 0, .string ByteArray.empty, .int .i64 0], [(0, 2), (2, 1), (3, 1)]) := by kernel_rfl
@[simp] theorem off52_0 : offOf Tryd.prog 52 0 = some 0 := by kernel_rfl
@[simp] theorem fld52_0 : fldOf Tryd.prog 52 0 = some (0, some 2) := by kernel_rfl
@[simp] theorem off52_1 : offOf Tryd.prog 52 1 = some 2 := by kernel_rfl
@[simp] theorem fld52_1 : fldOf Tryd.prog 52 1 = some (2, none) := by kernel_rfl
@[simp] theorem off52_2 : offOf Tryd.prog 52 2 = some 3 := by kernel_rfl
@[simp] theorem fld52_2 : fldOf Tryd.prog 52 2 = some (3, none) := by kernel_rfl
@[simp] theorem ld53 : ldOf Tryd.prog 53 = some none := by kernel_rfl
@[simp] theorem z53 : zOf Tryd.prog 53 = some [.slice none 0 0] := by kernel_rfl
@[simp] theorem el53 : elOf Tryd.prog 53 = some (1, 24, [.arr []]) := by kernel_rfl
@[simp] theorem st53 : isSliceT Tryd.prog 53 = true := by kernel_rfl
@[simp] theorem sz53 : pv Tryd.prog (sizeOf 53) = some 1 := by kernel_rfl
@[simp] theorem u853 : isU8 Tryd.prog 53 = false := by kernel_rfl
@[simp] theorem mt53 : isMapT Tryd.prog 53 = false := by kernel_rfl
@[simp] theorem ik53 : ikOf Tryd.prog 53 = none := by kernel_rfl
@[simp] theorem es53 : elemOfSlice Tryd.prog 53 = some 4 := by kernel_rfl
@[simp] theorem ld55 : ldOf Tryd.prog 55 = some (some 5) := by kernel_rfl
@[simp] theorem z55 : zOf Tryd.prog 55 = some [.int .u64 0, .int .i64 0, .int .i64 0, .int .i64 0, .int .i64 0] := by kernel_rfl
@[simp] theorem el55 : elOf Tryd.prog 55 = some (5, 40, [.v (.int .u64 0), .v (.int .i64 0), .v (.int .i64 0), .v (.int .i64 0), .v (.int .i64 0)]) := by kernel_rfl
@[simp] theorem st55 : isSliceT Tryd.prog 55 = false := by kernel_rfl
@[simp] theorem sz55 : pv Tryd.prog (sizeOf 55) = some 5 := by kernel_rfl
@[simp] theorem u855 : isU8 Tryd.prog 55 = false := by kernel_rfl
@[simp] theorem mt55 : isMapT Tryd.prog 55 = false := by kernel_rfl
@[simp] theorem ik55 : ikOf Tryd.prog 55 = none := by kernel_rfl
@[simp] theorem bld55 : bldOf Tryd.prog 55 = some ([.int .u64 0, .int .i64 0, .int .i64 0, .int .i64 0, .int .i64 0], [(0, 1), (1, 1), (2, 1), (3, 1), (4, 1)]) := by kernel_rfl
@[simp] theorem off55_0 : offOf Tryd.prog 55 0 = some 0 := by kernel_rfl
@[simp] theorem fld55_0 : fldOf Tryd.prog 55 0 = some (0, none) := by kernel_rfl
@[simp] theorem off55_1 : offOf Tryd.prog 55 1 = some 1 := by kernel_rfl
@[simp] theorem fld55_1 : fldOf Tryd.prog 55 1 = some (1, none) := by kernel_rfl
@[simp] theorem off55_2 : offOf Tryd.prog 55 2 = some 2 := by kernel_rfl
@[simp] theorem fld55_2 : fldOf Tryd.prog 55 2 = some (2, none) := by kernel_rfl
@[simp] theorem off55_3 : offOf Tryd.prog 55 3 = some 3 := by kernel_rfl
@[simp] theorem fld55_3 : fldOf Tryd.prog 55 3 = some (3, none) := by kernel_rfl
@[simp] theorem off55_4 : offOf Tryd.prog 55 4 = some 4 := by kernel_rfl
@[simp] theorem fld55_4 : fldOf Tryd.prog 55 4 = some (4, none) := by kernel_rfl
@[simp] theorem ld56 : ldOf Tryd.prog 56 = some (some 5) := by kernel_rfl
@[simp] theorem z56 : zOf Tryd.prog 56 = some [.int .u64 0, .int .i64 0, .int .i64 0, .int .i64 0, .int .i64 0] := by kernel_rfl
@[simp] theorem el56 : elOf Tryd.prog 56 = some (5, 40, [.v (.int .u64 0), .v (.int .i64 0), .v (.int .i64 0), .v (.int .i64 0), .v (.int .i64 0)]) := by kernel_rfl
@[simp] theorem st56 : isSliceT Tryd.prog 56 = false := by kernel_rfl
@[simp] theorem sz56 : pv Tryd.prog (sizeOf 56) = some 5 := by kernel_rfl
@[simp] theorem u856 : isU8 Tryd.prog 56 = false := by kernel_rfl
@[simp] theorem mt56 : isMapT Tryd.prog 56 = false := by kernel_rfl
@[simp] theorem ik56 : ikOf Tryd.prog 56 = none := by kernel_rfl
@[simp] theorem bld56 : bldOf Tryd.prog 56 = some ([.int .u64 0, .int .i64 0, .int .i64 0, .int .i64 0, .int .i64 0], [(0, 1), (1, 1), (2, 1), (3, 1), (4, 1)]) := by kernel_rfl
@[simp] theorem off56_0 : offOf Tryd.prog 56 0 = some 0 := by kernel_rfl
@[simp] theorem fld56_0 : fldOf Tryd.prog 56 0 = some (0, none) := by kernel_rfl
@[simp] theorem off56_1 : offOf Tryd.prog 56 1 = some 1 := by kernel_rfl
@[simp] theorem fld56_1 : fldOf Tryd.prog 56 1 = some (1, none) := by kernel_rfl
@[simp] theorem off56_2 : offOf Tryd.prog 56 2 = some 2 := by kernel_rfl
@[simp] theorem fld56_2 : fldOf Tryd.prog 56 2 = some (2, none) := by kernel_rfl
@[simp] theorem off56_3 : offOf Tryd.prog 56 3 = some 3 := by kernel_rfl
@[simp] theorem fld56_3 : fldOf Tryd.prog 56 3 = some (3, none) := by kernel_rfl
@[simp] theorem off56_4 : offOf Tryd.prog 56 4 = some 4 := by kernel_rfl
@[simp] theorem fld56_4 : fldOf Tryd.prog 56 4 = some (4, none) := by kernel_rfl
@[simp] theorem ld57 : ldOf Tryd.prog 57 = some none := by kernel_rfl
@[simp] theorem z57 : zOf Tryd.prog 57 = some [.slice none 0 0] := by kernel_rfl
@[simp] theorem el57 : elOf Tryd.prog 57 = some (1, 24, [.arr []]) := by kernel_rfl
@[simp] theorem st57 : isSliceT Tryd.prog 57 = true := by kernel_rfl
@[simp] theorem sz57 : pv Tryd.prog (sizeOf 57) = some 1 := by kernel_rfl
@[simp] theorem u857 : isU8 Tryd.prog 57 = false := by kernel_rfl
@[simp] theorem mt57 : isMapT Tryd.prog 57 = false := by kernel_rfl
@[simp] theorem ik57 : ikOf Tryd.prog 57 = none := by kernel_rfl
@[simp] theorem es57 : elemOfSlice Tryd.prog 57 = some 63 := by kernel_rfl
@[simp] theorem ld60 : ldOf Tryd.prog 60 = some (some 2) := by kernel_rfl
@[simp] theorem z60 : zOf Tryd.prog 60 = some [.string ByteArray.empty, .int .i64 0] := by kernel_rfl
@[simp] theorem el60 : elOf Tryd.prog 60 = some (2, 24, [.v (.string ByteArray.empty), .v (.int .i64 0)]) := by kernel_rfl
@[simp] theorem st60 : isSliceT Tryd.prog 60 = false := by kernel_rfl
@[simp] theorem sz60 : pv Tryd.prog (sizeOf 60) = some 2 := by kernel_rfl
@[simp] theorem u860 : isU8 Tryd.prog 60 = false := by kernel_rfl
@[simp] theorem mt60 : isMapT Tryd.prog 60 = false := by kernel_rfl
@[simp] theorem ik60 : ikOf Tryd.prog 60 = none := by kernel_rfl
@[simp] theorem bld60 : bldOf Tryd.prog 60 = some ([.string ByteArray.empty, .int .i64 0], [(0, 1), (1, 1)]) := by kernel_rfl
@[simp] theorem off60_0 : offOf Tryd.prog 60 0 = some 0 := by kernel_rfl
@[simp] theorem fld60_0 : fldOf Tryd.prog 60 0 = some (0, none) := by kernel_rfl
@[simp] theorem off60_1 : offOf Tryd.prog 60 1 = some 1 := by kernel_rfl
@[simp] theorem fld60_1 : fldOf Tryd.prog 60 1 = some (1, none) := by kernel_rfl
@[simp] theorem ld61 : ldOf Tryd.prog 61 = some (some 2) := by kernel_rfl
@[simp] theorem z61 : zOf Tryd.prog 61 = some [.string ByteArray.empty, .int .i64 0] := by kernel_rfl
@[simp] theorem el61 : elOf Tryd.prog 61 = some (2, 24, [.v (.string ByteArray.empty), .v (.int .i64 0)]) := by kernel_rfl
@[simp] theorem st61 : isSliceT Tryd.prog 61 = false := by kernel_rfl
@[simp] theorem sz61 : pv Tryd.prog (sizeOf 61) = some 2 := by kernel_rfl
@[simp] theorem u861 : isU8 Tryd.prog 61 = false := by kernel_rfl
@[simp] theorem mt61 : isMapT Tryd.prog 61 = false := by kernel_rfl
@[simp] theorem ik61 : ikOf Tryd.prog 61 = none := by kernel_rfl
@[simp] theorem bld61 : bldOf Tryd.prog 61 = some ([.string ByteArray.empty, .int .i64 0], [(0, 1), (1, 1)]) := by kernel_rfl
@[simp] theorem off61_0 : offOf Tryd.prog 61 0 = some 0 := by kernel_rfl
@[simp] theorem fld61_0 : fldOf Tryd.prog 61 0 = some (0, none) := by kernel_rfl
@[simp] theorem off61_1 : offOf Tryd.prog 61 1 = some 1 := by kernel_rfl
@[simp] theorem fld61_1 : fldOf Tryd.prog 61 1 = some (1, none) := by kernel_rfl
@[simp] theorem ld62 : ldOf Tryd.prog 62 = some (some 2) := by kernel_rfl
@[simp] theorem z62 : zOf Tryd.prog 62 = some [.string ByteArray.empty, .string ByteArray.empty] := by kernel_rfl
@[simp] theorem el62 : elOf Tryd.prog 62 = some (2, 32, [.v (.string ByteArray.empty), .v (.string ByteArray.empty)]) := by kernel_rfl
@[simp] theorem st62 : isSliceT Tryd.prog 62 = false := by kernel_rfl
@[simp] theorem sz62 : pv Tryd.prog (sizeOf 62) = some 2 := by kernel_rfl
@[simp] theorem u862 : isU8 Tryd.prog 62 = false := by kernel_rfl
@[simp] theorem mt62 : isMapT Tryd.prog 62 = false := by kernel_rfl
@[simp] theorem ik62 : ikOf Tryd.prog 62 = none := by kernel_rfl
@[simp] theorem bld62 : bldOf Tryd.prog 62 = some ([.string ByteArray.empty, .string ByteArray.empty], [(0, 1), (1, 1)]) := by kernel_rfl
@[simp] theorem off62_0 : offOf Tryd.prog 62 0 = some 0 := by kernel_rfl
@[simp] theorem fld62_0 : fldOf Tryd.prog 62 0 = some (0, none) := by kernel_rfl
@[simp] theorem off62_1 : offOf Tryd.prog 62 1 = some 1 := by kernel_rfl
@[simp] theorem fld62_1 : fldOf Tryd.prog 62 1 = some (1, none) := by kernel_rfl
@[simp] theorem ld63 : ldOf Tryd.prog 63 = some (some 2) := by kernel_rfl
@[simp] theorem z63 : zOf Tryd.prog 63 = some [.string ByteArray.empty, .string ByteArray.empty] := by kernel_rfl
@[simp] theorem el63 : elOf Tryd.prog 63 = some (2, 32, [.v (.string ByteArray.empty), .v (.string ByteArray.empty)]) := by kernel_rfl
@[simp] theorem st63 : isSliceT Tryd.prog 63 = false := by kernel_rfl
@[simp] theorem sz63 : pv Tryd.prog (sizeOf 63) = some 2 := by kernel_rfl
@[simp] theorem u863 : isU8 Tryd.prog 63 = false := by kernel_rfl
@[simp] theorem mt63 : isMapT Tryd.prog 63 = false := by kernel_rfl
@[simp] theorem ik63 : ikOf Tryd.prog 63 = none := by kernel_rfl
@[simp] theorem bld63 : bldOf Tryd.prog 63 = some ([.string ByteArray.empty, .string ByteArray.empty], [(0, 1), (1, 1)]) := by kernel_rfl
@[simp] theorem off63_0 : offOf Tryd.prog 63 0 = some 0 := by kernel_rfl
@[simp] theorem fld63_0 : fldOf Tryd.prog 63 0 = some (0, none) := by kernel_rfl
@[simp] theorem off63_1 : offOf Tryd.prog 63 1 = some 1 := by kernel_rfl
@[simp] theorem fld63_1 : fldOf Tryd.prog 63 1 = some (1, none) := by kernel_rfl
@[simp] theorem ld66 : ldOf Tryd.prog 66 = some none := by kernel_rfl
@[simp] theorem z66 : zOf Tryd.prog 66 = some [.slice none 0 0] := by kernel_rfl
@[simp] theorem el66 : elOf Tryd.prog 66 = some (1, 24, [.arr []]) := by kernel_rfl
@[simp] theorem st66 : isSliceT Tryd.prog 66 = true := by kernel_rfl
@[simp] theorem sz66 : pv Tryd.prog (sizeOf 66) = some 1 := by kernel_rfl
@[simp] theorem u866 : isU8 Tryd.prog 66 = false := by kernel_rfl
@[simp] theorem mt66 : isMapT Tryd.prog 66 = false := by kernel_rfl
@[simp] theorem ik66 : ikOf Tryd.prog 66 = none := by kernel_rfl
@[simp] theorem es66 : elemOfSlice Tryd.prog 66 = some 9 := by kernel_rfl
@[simp] theorem ld69 : ldOf Tryd.prog 69 = some none := by kernel_rfl
@[simp] theorem z69 : zOf Tryd.prog 69 = some [.slice none 0 0] := by kernel_rfl
@[simp] theorem el69 : elOf Tryd.prog 69 = some (1, 24, [.arr []]) := by kernel_rfl
@[simp] theorem st69 : isSliceT Tryd.prog 69 = true := by kernel_rfl
@[simp] theorem sz69 : pv Tryd.prog (sizeOf 69) = some 1 := by kernel_rfl
@[simp] theorem u869 : isU8 Tryd.prog 69 = false := by kernel_rfl
@[simp] theorem mt69 : isMapT Tryd.prog 69 = false := by kernel_rfl
@[simp] theorem ik69 : ikOf Tryd.prog 69 = none := by kernel_rfl
@[simp] theorem es69 : elemOfSlice Tryd.prog 69 = some 72 := by kernel_rfl
@[simp] theorem ld70 : ldOf Tryd.prog 70 = some (some 2) := by kernel_rfl
@[simp] theorem z70 : zOf Tryd.prog 70 = some [.int .u64 0, .slice none 0 0] := by kernel_rfl
@[simp] theorem el70 : elOf Tryd.prog 70 = some (2, 32, [.v (.int .u64 0), .arr []]) := by kernel_rfl
@[simp] theorem st70 : isSliceT Tryd.prog 70 = false := by kernel_rfl
@[simp] theorem sz70 : pv Tryd.prog (sizeOf 70) = some 2 := by kernel_rfl
@[simp] theorem u870 : isU8 Tryd.prog 70 = false := by kernel_rfl
@[simp] theorem mt70 : isMapT Tryd.prog 70 = false := by kernel_rfl
@[simp] theorem ik70 : ikOf Tryd.prog 70 = none := by kernel_rfl
@[simp] theorem bld70 : bldOf Tryd.prog 70 = some ([.int .u64 0, .slice none 0 0], [(0, 1), (1, 1)]) := by kernel_rfl
@[simp] theorem off70_0 : offOf Tryd.prog 70 0 = some 0 := by kernel_rfl
@[simp] theorem fld70_0 : fldOf Tryd.prog 70 0 = some (0, none) := by kernel_rfl
@[simp] theorem off70_1 : offOf Tryd.prog 70 1 = some 1 := by kernel_rfl
@[simp] theorem fld70_1 : fldOf Tryd.prog 70 1 = some (1, none) := by kernel_rfl
@[simp] theorem ld71 : ldOf Tryd.prog 71 = some (some 4) := by kernel_rfl
@[simp] theorem z71 : zOf Tryd.prog 71 = some [.int .u64 0, .slice none 0 0, .string ByteArray.empty, .int .i64 0] := by kernel_rfl
@[simp] theorem el71 : elOf Tryd.prog 71 = some (4, 56, [.v (.int .u64 0), .arr [], .v (.string ByteArray.empty), .v (.int .i64 0)]) := by kernel_rfl
@[simp] theorem st71 : isSliceT Tryd.prog 71 = false := by kernel_rfl
@[simp] theorem sz71 : pv Tryd.prog (sizeOf 71) = some 4 := by kernel_rfl
@[simp] theorem u871 : isU8 Tryd.prog 71 = false := by kernel_rfl
@[simp] theorem mt71 : isMapT Tryd.prog 71 = false := by kernel_rfl
@[simp] theorem ik71 : ikOf Tryd.prog 71 = none := by kernel_rfl
@[simp] theorem bld71 : bldOf Tryd.prog 71 = some ([.int .u64 0, .slice none 0 0, .string ByteArray.empty, .int .i64 0], [(0, 2), (2, 1), (3, 1)]) := by kernel_rfl
@[simp] theorem off71_0 : offOf Tryd.prog 71 0 = some 0 := by kernel_rfl
@[simp] theorem fld71_0 : fldOf Tryd.prog 71 0 = some (0, some 2) := by kernel_rfl
@[simp] theorem off71_1 : offOf Tryd.prog 71 1 = some 2 := by kernel_rfl
@[simp] theorem fld71_1 : fldOf Tryd.prog 71 1 = some (2, none) := by kernel_rfl
@[simp] theorem off71_2 : offOf Tryd.prog 71 2 = some 3 := by kernel_rfl
@[simp] theorem fld71_2 : fldOf Tryd.prog 71 2 = some (3, none) := by kernel_rfl
@[simp] theorem ld72 : ldOf Tryd.prog 72 = some (some 4) := by kernel_rfl
@[simp] theorem z72 : zOf Tryd.prog 72 = some [.int .u64 0, .slice none 0 0, .string ByteArray.empty, .int .i64 0] := by kernel_rfl
@[simp] theorem el72 : elOf Tryd.prog 72 = some (4, 56, [.v (.int .u64 0), .arr [], .v (.string ByteArray.empty), .v (.int .i64 0)]) := by kernel_rfl
@[simp] theorem st72 : isSliceT Tryd.prog 72 = false := by kernel_rfl
@[simp] theorem sz72 : pv Tryd.prog (sizeOf 72) = some 4 := by kernel_rfl
@[simp] theorem u872 : isU8 Tryd.prog 72 = false := by kernel_rfl
@[simp] theorem mt72 : isMapT Tryd.prog 72 = false := by kernel_rfl
@[simp] theorem ik72 : ikOf Tryd.prog 72 = none := by kernel_rfl
@[simp] theorem bld72 : bldOf Tryd.prog 72 = some ([.int .u64 0, .slice none 0 0, .string ByteArray.empty, .int .i64 0], [(0, 2), (2, 1), (3, 1)]) := by kernel_rfl
@[simp] theorem off72_0 : offOf Tryd.prog 72 0 = some 0 := by kernel_rfl
@[simp] theorem fld72_0 : fldOf Tryd.prog 72 0 = some (0, some 2) := by kernel_rfl
@[simp] theorem off72_1 : offOf Tryd.prog 72 1 = some 2 := by kernel_rfl
@[simp] theorem fld72_1 : fldOf Tryd.prog 72 1 = some (2, none) := by kernel_rfl
@[simp] theorem off72_2 : offOf Tryd.prog 72 2 = some 3 := by kernel_rfl
@[simp] theorem fld72_2 : fldOf Tryd.prog 72 2 = some (3, none) := by kernel_rfl
@[simp] theorem ld80 : ldOf Tryd.prog 80 = some none := by kernel_rfl
@[simp] theorem z80 : zOf Tryd.prog 80 = some [.map none] := by kernel_rfl
@[simp] theorem el80 : elOf Tryd.prog 80 = some (1, 8, [.v (.map none)]) := by kernel_rfl
@[simp] theorem st80 : isSliceT Tryd.prog 80 = false := by kernel_rfl
@[simp] theorem sz80 : pv Tryd.prog (sizeOf 80) = some 1 := by kernel_rfl
@[simp] theorem u880 : isU8 Tryd.prog 80 = false := by kernel_rfl
@[simp] theorem mt80 : isMapT Tryd.prog 80 = true := by kernel_rfl
@[simp] theorem mty80 : mapTy Tryd.prog 80 = some (.string, .bool false) := by kernel_rfl
@[simp] theorem ik80 : ikOf Tryd.prog 80 = none := by kernel_rfl
@[simp] theorem ld91 : ldOf Tryd.prog 91 = some (some 2) := by kernel_rfl
@[simp] theorem z91 : zOf Tryd.prog 91 = some [.string ByteArray.empty, .int .i64 0] := by kernel_rfl
@[simp] theorem el91 : elOf Tryd.prog 91 = some (2, 24, [.v (.string ByteArray.empty), .v (.int .i64 0)]) := by kernel_rfl
@[simp] theorem st91 : isSliceT Tryd.prog 91 = false := by kernel_rfl
@[simp] theorem sz91 : pv Tryd.prog (sizeOf 91) = some 2 := by kernel_rfl
@[simp] theorem u891 : isU8 Tryd.prog 91 = false := by kernel_rfl
@[simp] theorem mt91 : isMapT Tryd.prog 91 = false := by kernel_rfl
@[simp] theorem ik91 : ikOf Tryd.prog 91 = none := by kernel_rfl
@[simp] theorem bld91 : bldOf Tryd.prog 91 = some ([.string ByteArray.empty, .int .i64 0], [(0, 1), (1, 1)]) := by kernel_rfl
@[simp] theorem off91_0 : offOf Tryd.prog 91 0 = some 0 := by kernel_rfl
@[simp] theorem fld91_0 : fldOf Tryd.prog 91 0 = some (0, none) := by kernel_rfl
@[simp] theorem off91_1 : offOf Tryd.prog 91 1 = some 1 := by kernel_rfl
@[simp] theorem fld91_1 : fldOf Tryd.prog 91 1 = some (1, none) := by kernel_rfl
@[simp] theorem ld108 : ldOf Tryd.prog 108 = some none := by kernel_rfl
@[simp] theorem z108 : zOf Tryd.prog 108 = some [.int .u64 0] := by kernel_rfl
@[simp] theorem el108 : elOf Tryd.prog 108 = some (1, 8, [.v (.int .u64 0)]) := by kernel_rfl
@[simp] theorem st108 : isSliceT Tryd.prog 108 = false := by kernel_rfl
@[simp] theorem sz108 : pv Tryd.prog (sizeOf 108) = some 1 := by kernel_rfl
@[simp] theorem u8108 : isU8 Tryd.prog 108 = false := by kernel_rfl
@[simp] theorem mt108 : isMapT Tryd.prog 108 = false := by kernel_rfl
@[simp] theorem ik108 : ikOf Tryd.prog 108 = some .u64 := by kernel_rfl
@[simp] theorem ld109 : ldOf Tryd.prog 109 = some none := by kernel_rfl
@[simp] theorem z109 : zOf Tryd.prog 109 = some [.slice none 0 0] := by kernel_rfl
@[simp] theorem el109 : elOf Tryd.prog 109 = some (1, 24, [.arr []]) := by kernel_rfl
@[simp] theorem st109 : isSliceT Tryd.prog 109 = true := by kernel_rfl
@[simp] theorem sz109 : pv Tryd.prog (sizeOf 109) = some 1 := by kernel_rfl
@[simp] theorem u8109 : isU8 Tryd.prog 109 = false := by kernel_rfl
@[simp] theorem mt109 : isMapT Tryd.prog 109 = false := by kernel_rfl
@[simp] theorem ik109 : ikOf Tryd.prog 109 = none := by kernel_rfl
@[simp] theorem es109 : elemOfSlice Tryd.prog 109 = some 3 := by kernel_rfl
@[simp] theorem ld123 : ldOf Tryd.prog 123 = some none := by kernel_rfl
@[simp] theorem z123 : zOf Tryd.prog 123 = some [.int .i64 0] := by kernel_rfl
@[simp] theorem el123 : elOf Tryd.prog 123 = some (1, 8, [.v (.int .i64 0)]) := by kernel_rfl
@[simp] theorem st123 : isSliceT Tryd.prog 123 = false := by kernel_rfl
@[simp] theorem sz123 : pv Tryd.prog (sizeOf 123) = some 1 := by kernel_rfl
@[simp] theorem u8123 : isU8 Tryd.prog 123 = false := by kernel_rfl
@[simp] theorem mt123 : isMapT Tryd.prog 123 = false := by kernel_rfl
@[simp] theorem ik123 : ikOf Tryd.prog 123 = some .i64 := by kernel_rfl
@[simp] theorem ld130 : ldOf Tryd.prog 130 = some none := by kernel_rfl
@[simp] theorem z130 : zOf Tryd.prog 130 = some [.int .u32 0] := by kernel_rfl
@[simp] theorem el130 : elOf Tryd.prog 130 = some (1, 4, [.v (.int .u32 0)]) := by kernel_rfl
@[simp] theorem st130 : isSliceT Tryd.prog 130 = false := by kernel_rfl
@[simp] theorem sz130 : pv Tryd.prog (sizeOf 130) = some 1 := by kernel_rfl
@[simp] theorem u8130 : isU8 Tryd.prog 130 = false := by kernel_rfl
@[simp] theorem mt130 : isMapT Tryd.prog 130 = false := by kernel_rfl
@[simp] theorem ik130 : ikOf Tryd.prog 130 = some .u32 := by kernel_rfl
@[simp] theorem ld133 : ldOf Tryd.prog 133 = some none := by kernel_rfl
@[simp] theorem z133 : zOf Tryd.prog 133 = some [.slice none 0 0] := by kernel_rfl
@[simp] theorem el133 : elOf Tryd.prog 133 = some (1, 24, [.arr []]) := by kernel_rfl
@[simp] theorem st133 : isSliceT Tryd.prog 133 = true := by kernel_rfl
@[simp] theorem sz133 : pv Tryd.prog (sizeOf 133) = some 1 := by kernel_rfl
@[simp] theorem u8133 : isU8 Tryd.prog 133 = false := by kernel_rfl
@[simp] theorem mt133 : isMapT Tryd.prog 133 = false := by kernel_rfl
@[simp] theorem ik133 : ikOf Tryd.prog 133 = none := by kernel_rfl
@[simp] theorem es133 : elemOfSlice Tryd.prog 133 = some 22 := by kernel_rfl
@[simp] theorem ld137 : ldOf Tryd.prog 137 = some none := by kernel_rfl
@[simp] theorem z137 : zOf Tryd.prog 137 = some [.int .u64 0] := by kernel_rfl
@[simp] theorem el137 : elOf Tryd.prog 137 = some (1, 8, [.v (.int .u64 0)]) := by kernel_rfl
@[simp] theorem st137 : isSliceT Tryd.prog 137 = false := by kernel_rfl
@[simp] theorem sz137 : pv Tryd.prog (sizeOf 137) = some 1 := by kernel_rfl
@[simp] theorem u8137 : isU8 Tryd.prog 137 = false := by kernel_rfl
@[simp] theorem mt137 : isMapT Tryd.prog 137 = false := by kernel_rfl
@[simp] theorem ik137 : ikOf Tryd.prog 137 = some .u64 := by kernel_rfl
@[simp] theorem ld141 : ldOf Tryd.prog 141 = some none := by kernel_rfl
@[simp] theorem z141 : zOf Tryd.prog 141 = some [.pointer none] := by kernel_rfl
@[simp] theorem el141 : elOf Tryd.prog 141 = some (1, 8, [.v (.pointer none)]) := by kernel_rfl
@[simp] theorem st141 : isSliceT Tryd.prog 141 = false := by kernel_rfl
@[simp] theorem sz141 : pv Tryd.prog (sizeOf 141) = some 1 := by kernel_rfl
@[simp] theorem u8141 : isU8 Tryd.prog 141 = false := by kernel_rfl
@[simp] theorem mt141 : isMapT Tryd.prog 141 = false := by kernel_rfl
@[simp] theorem ik141 : ikOf Tryd.prog 141 = none := by kernel_rfl
@[simp] theorem up141 : pv Tryd.prog (underlying 141) = some (.pointer 3) := by kernel_rfl
@[simp] theorem ld143 : ldOf Tryd.prog 143 = some none := by kernel_rfl
@[simp] theorem z143 : zOf Tryd.prog 143 = some [.slice none 0 0] := by kernel_rfl
@[simp] theorem el143 : elOf Tryd.prog 143 = some (1, 24, [.arr []]) := by kernel_rfl
@[simp] theorem st143 : isSliceT Tryd.prog 143 = true := by kernel_rfl
@[simp] theorem sz143 : pv Tryd.prog (sizeOf 143) = some 1 := by kernel_rfl
@[simp] theorem u8143 : isU8 Tryd.prog 143 = true := by kernel_rfl
@[simp] theorem mt143 : isMapT Tryd.prog 143 = false := by kernel_rfl
@[simp] theorem sr143 : isStrT Tryd.prog 143 = false := by kernel_rfl
@[simp] theorem ik143 : ikOf Tryd.prog 143 = none := by kernel_rfl
@[simp] theorem es143 : elemOfSlice Tryd.prog 143 = some 5 := by kernel_rfl
@[simp] theorem ld144 : ldOf Tryd.prog 144 = some none := by kernel_rfl
@[simp] theorem z144 : zOf Tryd.prog 144 = some [.pointer none] := by kernel_rfl
@[simp] theorem el144 : elOf Tryd.prog 144 = some (1, 8, [.v (.pointer none)]) := by kernel_rfl
@[simp] theorem st144 : isSliceT Tryd.prog 144 = false := by kernel_rfl
@[simp] theorem sz144 : pv Tryd.prog (sizeOf 144) = some 1 := by kernel_rfl
@[simp] theorem u8144 : isU8 Tryd.prog 144 = false := by kernel_rfl
@[simp] theorem mt144 : isMapT Tryd.prog 144 = false := by kernel_rfl
@[simp] theorem ik144 : ikOf Tryd.prog 144 = none := by kernel_rfl
@[simp] theorem up144 : pv Tryd.prog (underlying 144) = some (.pointer 137) := by kernel_rfl
@[simp] theorem ld156 : ldOf Tryd.prog 156 = some none := by kernel_rfl
@[simp] theorem z156 : zOf Tryd.prog 156 = some [.pointer none] := by kernel_rfl
@[simp] theorem el156 : elOf Tryd.prog 156 = some (1, 8, [.v (.pointer none)]) := by kernel_rfl
@[simp] theorem st156 : isSliceT Tryd.prog 156 = false := by kernel_rfl
@[simp] theorem sz156 : pv Tryd.prog (sizeOf 156) = some 1 := by kernel_rfl
@[simp] theorem u8156 : isU8 Tryd.prog 156 = false := by kernel_rfl
@[simp] theorem mt156 : isMapT Tryd.prog 156 = false := by kernel_rfl
@[simp] theorem ik156 : ikOf Tryd.prog 156 = none := by kernel_rfl
@[simp] theorem up156 : pv Tryd.prog (underlying 156) = some (.pointer 5) := by kernel_rfl
@[simp] theorem ld159 : ldOf Tryd.prog 159 = some (some 11) := by kernel_rfl
@[simp] theorem z159 : zOf Tryd.prog 159 = some [.int .u64 0, .int .u64 0, .int .u32 0, .int .u8 0, .int .u8 0, .int .u8 0, .int .u8 0, .nilFunc, .pointer none, .int .i32 0, .int .i32 0] := by kernel_rfl
@[simp] theorem el159 : elOf Tryd.prog 159 = some (11, 48, [.v (.int .u64 0), .v (.int .u64 0), .v (.int .u32 0), .v (.int .u8 0), .v (.int .u8 0), .v (.int .u8 0), .v (.int .u8 0), .v (.nilFunc), .v (.pointer none), .v (.int .i32 0), .v (.int .i32 0)]) := by kernel_rfl
@[simp] theorem st159 : isSliceT Tryd.prog 159 = false := by kernel_rfl
@[simp] theorem sz159 : pv Tryd.prog (sizeOf 159) = some 11 := by kernel_rfl
@[simp] theorem u8159 : isU8 Tryd.prog 159 = false := by kernel_rfl
@[simp] theorem mt159 : isMapT Tryd.prog 159 = false := by kernel_rfl
@[simp] theorem ik159 : ikOf Tryd.prog 159 = none := by kernel_rfl
@[simp] theorem bld159 : bldOf Tryd.prog 159 = some ([.int .u64 0, .int .u64 0, .int .u32 0, .int .u8 0, .int .u8 0, .int .u8 0, .int .u8 0, .nilFunc, .pointer none, .int .i32 0, .int .i32 0], [(0, 1), (1, 1), (2, 1), (3, 1), (4, 1), (5, 1), (6, 1), (7, 1), (8, 1), (9, 1), (10, 1)]) := by kernel_rfl
@[simp] theorem off159_0 : offOf Tryd.prog 159 0 = some 0 := by kernel_rfl
@[simp] theorem fld159_0 : fldOf Tryd.prog 159 0 = some (0, none) := by kernel_rfl
@[simp] theorem off159_1 : offOf Tryd.prog 159 1 = some 1 := by kernel_rfl
@[simp] theorem fld159_1 : fldOf Tryd.prog 159 1 = some (1, none) := by kernel_rfl
@[simp] theorem off159_2 : offOf Tryd.prog 159 2 = some 2 := by kernel_rfl
@[simp] theorem fld159_2 : fldOf Tryd.prog 159 2 = some (2, none) := by kernel_rfl
@[simp] theorem off159_3 : offOf Tryd.prog 159 3 = some 3 := by kernel_rfl
@[simp] theorem fld159_3 : fldOf Tryd.prog 159 3 = some (3, none) := by kernel_rfl
@[simp] theorem off159_4 : offOf Tryd.prog 159 4 = some 4 := by kernel_rfl
@[simp] theorem fld159_4 : fldOf Tryd.prog 159 4 = some (4, none) := by kernel_rfl
@[simp] theorem off159_5 : offOf Tryd.prog 159 5 = some 5 := by kernel_rfl
@[simp] theorem fld159_5 : fldOf Tryd.prog 159 5 = some (5, none) := by kernel_rfl
@[simp] theorem off159_6 : offOf Tryd.prog 159 6 = some 6 := by kernel_rfl
@[simp] theorem fld159_6 : fldOf Tryd.prog 159 6 = some (6, none) := by kernel_rfl
@[simp] theorem off159_7 : offOf Tryd.prog 159 7 = some 7 := by kernel_rfl
@[simp] theorem fld159_7 : fldOf Tryd.prog 159 7 = some (7, none) := by kernel_rfl
@[simp] theorem off159_8 : offOf Tryd.prog 159 8 = some 8 := by kernel_rfl
@[simp] theorem fld159_8 : fldOf Tryd.prog 159 8 = some (8, none) := by kernel_rfl
@[simp] theorem off159_9 : offOf Tryd.prog 159 9 = some 9 := by kernel_rfl
@[simp] theorem fld159_9 : fldOf Tryd.prog 159 9 = some (9, none) := by kernel_rfl
@[simp] theorem off159_10 : offOf Tryd.prog 159 10 = some 10 := by kernel_rfl
@[simp] theorem fld159_10 : fldOf Tryd.prog 159 10 = some (10, none) := by kernel_rfl
@[simp] theorem lna23 {H : Hp} {ty : TypeId} {l : List (List CV)} : vlen Tryd.prog H #[23] ty (.one (.c (.arr l))) = qa (vI .i64 l.length) := len_arr es23
@[simp] theorem lnl23 {H : Hp} {ty : TypeId} {id o n tot : Nat} : vlen Tryd.prog H #[23] ty (.one (.sl id o n tot)) = if lenIs H id tot = true then qa (vI .i64 n) else none := len_sl es23
@[simp] theorem iaa23 {H : Hp} {k : IntKind} {l : List (List CV)} {i : Int} : vindexAddr Tryd.prog H 23 (.one (.c (.arr l))) (vI k i) = if 0 ≤ i then (match l[i.toNat]? with | some x => if x.length = 1 then qa (.one (.c (.cptr x))) else none | none => none) else none := ia_arr es23 sz47
@[simp] theorem ial23 {H : Hp} {k : IntKind} {id o n tot : Nat} {i : Int} : vindexAddr Tryd.prog H 23 (.one (.sl id o n tot)) (vI k i) = if 0 ≤ i then (if i.toNat < n then (if elAt H id tot (o + i.toNat) = some 1 then qa (.one (.ptr ⟨id, o + i.toNat, 0, tot⟩)) else none) else none) else none := ia_sl es23 sz47
@[simp] theorem lna26 {H : Hp} {ty : TypeId} {l : List (List CV)} : vlen Tryd.prog H #[26] ty (.one (.c (.arr l))) = qa (vI .i64 l.length) := len_arr es26
@[simp] theorem lnl26 {H : Hp} {ty : TypeId} {id o n tot : Nat} : vlen Tryd.prog H #[26] ty (.one (.sl id o n tot)) = if lenIs H id tot = true then qa (vI .i64 n) else none := len_sl es26
@[simp] theorem iaa26 {H : Hp} {k : IntKind} {l : List (List CV)} {i : Int} : vindexAddr Tryd.prog H 26 (.one (.c (.arr l))) (vI k i) = if 0 ≤ i then (match l[i.toNat]? with | some x => if x.length = 1 then qa (.one (.c (.cptr x))) else none | none => none) else none := ia_arr es26 sz69
@[simp] theorem ial26 {H : Hp} {k : IntKind} {id o n tot : Nat} {i : Int} : vindexAddr Tryd.prog H 26 (.one (.sl id o n tot)) (vI k i) = if 0 ≤ i then (if i.toNat < n then (if elAt H id tot (o + i.toNat) = some 1 then qa (.one (.ptr ⟨id, o + i.toNat, 0, tot⟩)) else none) else none) else none := ia_sl es26 sz69
@[simp] theorem lna34 {H : Hp} {ty : TypeId} {l : List (List CV)} : vlen Tryd.prog H #[34] ty (.one (.c (.arr l))) = qa (vI .i64 l.length) := len_arr es34
@[simp] theorem lnl34 {H : Hp} {ty : TypeId} {id o n tot : Nat} : vlen Tryd.prog H #[34] ty (.one (.sl id o n tot)) = if lenIs H id tot = true then qa (vI .i64 n) else none := len_sl es34
@[simp] theorem iaa34 {H : Hp} {k : IntKind} {l : List (List CV)} {i : Int} : vindexAddr Tryd.prog H 34 (.one (.c (.arr l))) (vI k i) = if 0 ≤ i then (match l[i.toNat]? with | some x => if x.length = 2 then qa (.one (.c (.cptr x))) else none | none => none) else none := ia_arr es34 sz61
@[simp] theorem ial34 {H : Hp} {k : IntKind} {id o n tot : Nat} {i : Int} : vindexAddr Tryd.prog H 34 (.one (.sl id o n tot)) (vI k i) = if 0 ≤ i then (if i.toNat < n then (if elAt H id tot (o + i.toNat) = some 2 then qa (.one (.ptr ⟨id, o + i.toNat, 0, tot⟩)) else none) else none) else none := ia_sl es34 sz61
@[simp] theorem lna40 {H : Hp} {ty : TypeId} {l : List (List CV)} : vlen Tryd.prog H #[40] ty (.one (.c (.arr l))) = qa (vI .i64 l.length) := len_arr es40
@[simp] theorem lnl40 {H : Hp} {ty : TypeId} {id o n tot : Nat} : vlen Tryd.prog H #[40] ty (.one (.sl id o n tot)) = if lenIs H id tot = true then qa (vI .i64 n) else none := len_sl es40
@[simp] theorem iaa40 {H : Hp} {k : IntKind} {l : List (List CV)} {i : Int} : vindexAddr Tryd.prog H 40 (.one (.c (.arr l))) (vI k i) = if 0 ≤ i then (match l[i.toNat]? with | some x => if x.length = 2 then qa (.one (.c (.cptr x))) else none | none => none) else none := ia_arr es40 sz91
@[simp] theorem ial40 {H : Hp} {k : IntKind} {id o n tot : Nat} {i : Int} : vindexAddr Tryd.prog H 40 (.one (.sl id o n tot)) (vI k i) = if 0 ≤ i then (if i.toNat < n then (if elAt H id tot (o + i.toNat) = some 2 then qa (.one (.ptr ⟨id, o + i.toNat, 0, tot⟩)) else none) else none) else none := ia_sl es40 sz91
@[simp] theorem lna47 {H : Hp} {ty : TypeId} {l : List (List CV)} : vlen Tryd.prog H #[47] ty (.one (.c (.arr l))) = qa (vI .i64 l.length) := len_arr es47
@[simp] theorem lnl47 {H : Hp} {ty : TypeId} {id o n tot : Nat} : vlen Tryd.prog H #[47] ty (.one (.sl id o n tot)) = if lenIs H id tot = true then qa (vI .i64 n) else none := len_sl es47
@[simp] theorem iaa47 {H : Hp} {k : IntKind} {l : List (List CV)} {i : Int} : vindexAddr Tryd.prog H 47 (.one (.c (.arr l))) (vI k i) = if 0 ≤ i then (match l[i.toNat]? with | some x => if x.length = 4 then qa (.one (.c (.cptr x))) else none | none => none) else none := ia_arr es47 sz52
@[simp] theorem ial47 {H : Hp} {k : IntKind} {id o n tot : Nat} {i : Int} : vindexAddr Tryd.prog H 47 (.one (.sl id o n tot)) (vI k i) = if 0 ≤ i then (if i.toNat < n then (if elAt H id tot (o + i.toNat) = some 4 then qa (.one (.ptr ⟨id, o + i.toNat, 0, tot⟩)) else none) else none) else none := ia_sl es47 sz52
@[simp] theorem lna48 {H : Hp} {ty : TypeId} {l : List (List CV)} : vlen Tryd.prog H #[48] ty (.one (.c (.arr l))) = qa (vI .i64 l.length) := len_arr es48
@[simp] theorem lnl48 {H : Hp} {ty : TypeId} {id o n tot : Nat} : vlen Tryd.prog H #[48] ty (.one (.sl id o n tot)) = if lenIs H id tot = true then qa (vI .i64 n) else none := len_sl es48
@[simp] theorem iaa48 {H : Hp} {k : IntKind} {l : List (List CV)} {i : Int} : vindexAddr Tryd.prog H 48 (.one (.c (.arr l))) (vI k i) = if 0 ≤ i then (match l[i.toNat]? with | some x => if x.length = 1 then qa (.one (.c (.cptr x))) else none | none => none) else none := ia_arr es48 sz53
@[simp] theorem ial48 {H : Hp} {k : IntKind} {id o n tot : Nat} {i : Int} : vindexAddr Tryd.prog H 48 (.one (.sl id o n tot)) (vI k i) = if 0 ≤ i then (if i.toNat < n then (if elAt H id tot (o + i.toNat) = some 1 then qa (.one (.ptr ⟨id, o + i.toNat, 0, tot⟩)) else none) else none) else none := ia_sl es48 sz53
@[simp] theorem lna53 {H : Hp} {ty : TypeId} {l : List (List CV)} : vlen Tryd.prog H #[53] ty (.one (.c (.arr l))) = qa (vI .i64 l.length) := len_arr es53
@[simp] theorem lnl53 {H : Hp} {ty : TypeId} {id o n tot : Nat} : vlen Tryd.prog H #[53] ty (.one (.sl id o n tot)) = if lenIs H id tot = true then qa (vI .i64 n) else none := len_sl es53
@[simp] theorem iaa53 {H : Hp} {k : IntKind} {l : List (List CV)} {i : Int} : vindexAddr Tryd.prog H 53 (.one (.c (.arr l))) (vI k i) = if 0 ≤ i then (match l[i.toNat]? with | some x => if x.length = 1 then qa (.one (.c (.cptr x))) else none | none => none) else none := ia_arr es53 sz4
@[simp] theorem ial53 {H : Hp} {k : IntKind} {id o n tot : Nat} {i : Int} : vindexAddr Tryd.prog H 53 (.one (.sl id o n tot)) (vI k i) = if 0 ≤ i then (if i.toNat < n then (if elAt H id tot (o + i.toNat) = some 1 then qa (.one (.ptr ⟨id, o + i.toNat, 0, tot⟩)) else none) else none) else none := ia_sl es53 sz4
@[simp] theorem lna57 {H : Hp} {ty : TypeId} {l : List (List CV)} : vlen Tryd.prog H #[57] ty (.one (.c (.arr l))) = qa (vI .i64 l.length) := len_arr es57
@[simp] theorem lnl57 {H : Hp} {ty : TypeId} {id o n tot : Nat} : vlen Tryd.prog H #[57] ty (.one (.sl id o n tot)) = if lenIs H id tot = true then qa (vI .i64 n) else none := len_sl es57
@[simp] theorem iaa57 {H : Hp} {k : IntKind} {l : List (List CV)} {i : Int} : vindexAddr Tryd.prog H 57 (.one (.c (.arr l))) (vI k i) = if 0 ≤ i then (match l[i.toNat]? with | some x => if x.length = 2 then qa (.one (.c (.cptr x))) else none | none => none) else none := ia_arr es57 sz63
@[simp] theorem ial57 {H : Hp} {k : IntKind} {id o n tot : Nat} {i : Int} : vindexAddr Tryd.prog H 57 (.one (.sl id o n tot)) (vI k i) = if 0 ≤ i then (if i.toNat < n then (if elAt H id tot (o + i.toNat) = some 2 then qa (.one (.ptr ⟨id, o + i.toNat, 0, tot⟩)) else none) else none) else none := ia_sl es57 sz63
@[simp] theorem lna66 {H : Hp} {ty : TypeId} {l : List (List CV)} : vlen Tryd.prog H #[66] ty (.one (.c (.arr l))) = qa (vI .i64 l.length) := len_arr es66
@[simp] theorem lnl66 {H : Hp} {ty : TypeId} {id o n tot : Nat} : vlen Tryd.prog H #[66] ty (.one (.sl id o n tot)) = if lenIs H id tot = true then qa (vI .i64 n) else none := len_sl es66
@[simp] theorem iaa66 {H : Hp} {k : IntKind} {l : List (List CV)} {i : Int} : vindexAddr Tryd.prog H 66 (.one (.c (.arr l))) (vI k i) = if 0 ≤ i then (match l[i.toNat]? with | some x => if x.length = 1 then qa (.one (.c (.cptr x))) else none | none => none) else none := ia_arr es66 sz9
@[simp] theorem ial66 {H : Hp} {k : IntKind} {id o n tot : Nat} {i : Int} : vindexAddr Tryd.prog H 66 (.one (.sl id o n tot)) (vI k i) = if 0 ≤ i then (if i.toNat < n then (if elAt H id tot (o + i.toNat) = some 1 then qa (.one (.ptr ⟨id, o + i.toNat, 0, tot⟩)) else none) else none) else none := ia_sl es66 sz9
@[simp] theorem lna69 {H : Hp} {ty : TypeId} {l : List (List CV)} : vlen Tryd.prog H #[69] ty (.one (.c (.arr l))) = qa (vI .i64 l.length) := len_arr es69
@[simp] theorem lnl69 {H : Hp} {ty : TypeId} {id o n tot : Nat} : vlen Tryd.prog H #[69] ty (.one (.sl id o n tot)) = if lenIs H id tot = true then qa (vI .i64 n) else none := len_sl es69
@[simp] theorem iaa69 {H : Hp} {k : IntKind} {l : List (List CV)} {i : Int} : vindexAddr Tryd.prog H 69 (.one (.c (.arr l))) (vI k i) = if 0 ≤ i then (match l[i.toNat]? with | some x => if x.length = 4 then qa (.one (.c (.cptr x))) else none | none => none) else none := ia_arr es69 sz72
@[simp] theorem ial69 {H : Hp} {k : IntKind} {id o n tot : Nat} {i : Int} : vindexAddr Tryd.prog H 69 (.one (.sl id o n tot)) (vI k i) = if 0 ≤ i then (if i.toNat < n then (if elAt H id tot (o + i.toNat) = some 4 then qa (.one (.ptr ⟨id, o + i.toNat, 0, tot⟩)) else none) else none) else none := ia_sl es69 sz72
@[simp] theorem lna109 {H : Hp} {ty : TypeId} {l : List (List CV)} : vlen Tryd.prog H #[109] ty (.one (.c (.arr l))) = qa (vI .i64 l.length) := len_arr es109
@[simp] theorem lnl109 {H : Hp} {ty : TypeId} {id o n tot : Nat} : vlen Tryd.prog H #[109] ty (.one (.sl id o n tot)) = if lenIs H id tot = true then qa (vI .i64 n) else none := len_sl es109
@[simp] theorem iaa109 {H : Hp} {k : IntKind} {l : List (List CV)} {i : Int} : vindexAddr Tryd.prog H 109 (.one (.c (.arr l))) (vI k i) = if 0 ≤ i then (match l[i.toNat]? with | some x => if x.length = 1 then qa (.one (.c (.cptr x))) else none | none => none) else none := ia_arr es109 sz3
@[simp] theorem ial109 {H : Hp} {k : IntKind} {id o n tot : Nat} {i : Int} : vindexAddr Tryd.prog H 109 (.one (.sl id o n tot)) (vI k i) = if 0 ≤ i then (if i.toNat < n then (if elAt H id tot (o + i.toNat) = some 1 then qa (.one (.ptr ⟨id, o + i.toNat, 0, tot⟩)) else none) else none) else none := ia_sl es109 sz3
@[simp] theorem lna133 {H : Hp} {ty : TypeId} {l : List (List CV)} : vlen Tryd.prog H #[133] ty (.one (.c (.arr l))) = qa (vI .i64 l.length) := len_arr es133
@[simp] theorem lnl133 {H : Hp} {ty : TypeId} {id o n tot : Nat} : vlen Tryd.prog H #[133] ty (.one (.sl id o n tot)) = if lenIs H id tot = true then qa (vI .i64 n) else none := len_sl es133
@[simp] theorem iaa133 {H : Hp} {k : IntKind} {l : List (List CV)} {i : Int} : vindexAddr Tryd.prog H 133 (.one (.c (.arr l))) (vI k i) = if 0 ≤ i then (match l[i.toNat]? with | some x => if x.length = 1 then qa (.one (.c (.cptr x))) else none | none => none) else none := ia_arr es133 sz22
@[simp] theorem ial133 {H : Hp} {k : IntKind} {id o n tot : Nat} {i : Int} : vindexAddr Tryd.prog H 133 (.one (.sl id o n tot)) (vI k i) = if 0 ≤ i then (if i.toNat < n then (if elAt H id tot (o + i.toNat) = some 1 then qa (.one (.ptr ⟨id, o + i.toNat, 0, tot⟩)) else none) else none) else none := ia_sl es133 sz22
@[simp] theorem lna143 {H : Hp} {ty : TypeId} {l : List (List CV)} : vlen Tryd.prog H #[143] ty (.one (.c (.arr l))) = qa (vI .i64 l.length) := len_arr es143
@[simp] theorem lnl143 {H : Hp} {ty : TypeId} {id o n tot : Nat} : vlen Tryd.prog H #[143] ty (.one (.sl id o n tot)) = if lenIs H id tot = true then qa (vI .i64 n) else none := len_sl es143
@[simp] theorem iaa143 {H : Hp} {k : IntKind} {l : List (List CV)} {i : Int} : vindexAddr Tryd.prog H 143 (.one (.c (.arr l))) (vI k i) = if 0 ≤ i then (match l[i.toNat]? with | some x => if x.length = 1 then qa (.one (.c (.cptr x))) else none | none => none) else none := ia_arr es143 sz5
@[simp] theorem ial143 {H : Hp} {k : IntKind} {id o n tot : Nat} {i : Int} : vindexAddr Tryd.prog H 143 (.one (.sl id o n tot)) (vI k i) = if 0 ≤ i then (if i.toNat < n then (if elAt H id tot (o + i.toNat) = some 1 then qa (.one (.ptr ⟨id, o + i.toNat, 0, tot⟩)) else none) else none) else none := ia_sl es143 sz5
theorem mixed : Tryd.prog.follows .mixedOrders = true := by kernel_rfl
theorem ok3 : FnOk Tryd.prog 3 := ⟨Tryd.f3, Tryd.func3, by kernel_rfl, by kernel_rfl⟩ -- rillmeter/rillmeterlaw19.SpreadTurns
theorem ok4 : FnOk Tryd.prog 4 := ⟨Tryd.f4, Tryd.func4, by kernel_rfl, by kernel_rfl⟩ -- rillmeter/rillmeterlaw19.SpreadNews
theorem ok5 : FnOk Tryd.prog 5 := ⟨Tryd.f5, Tryd.func5, by kernel_rfl, by kernel_rfl⟩ -- rillmeter/rillmeterlaw19.SpreadSeen
theorem ok6 : FnOk Tryd.prog 6 := ⟨Tryd.f6, Tryd.func6, by kernel_rfl, by kernel_rfl⟩ -- rillmeter/rillmeterlaw19.SpreadLeast
theorem ok7 : FnOk Tryd.prog 7 := ⟨Tryd.f7, Tryd.func7, by kernel_rfl, by kernel_rfl⟩ -- rillmeter/rillmeterlaw19.SpreadAlone
theorem ok8 : FnOk Tryd.prog 8 := ⟨Tryd.f8, Tryd.func8, by kernel_rfl, by kernel_rfl⟩ -- rillmeter/rillmeterlaw19.SpreadOrder
theorem ok9 : FnOk Tryd.prog 9 := ⟨Tryd.f9, Tryd.func9, by kernel_rfl, by kernel_rfl⟩ -- rillmeter/rillmeterlaw19.ref
theorem ok10 : FnOk Tryd.prog 10 := ⟨Tryd.f10, Tryd.func10, by kernel_rfl, by kernel_rfl⟩ -- rillmeter/rillmeterref19.Small
theorem ok11 : FnOk Tryd.prog 11 := ⟨Tryd.f11, Tryd.func11, by kernel_rfl, by kernel_rfl⟩ -- rillmeter/rillmeterlaw19.awake
theorem ok12 : FnOk Tryd.prog 12 := ⟨Tryd.f12, Tryd.func12, by kernel_rfl, by kernel_rfl⟩ -- rillmeter/spread.Add
theorem ok13 : FnOk Tryd.prog 13 := ⟨Tryd.f13, Tryd.func13, by kernel_rfl, by kernel_rfl⟩ -- rillmeter/spread.Estimate
theorem ok14 : FnOk Tryd.prog 14 := ⟨Tryd.f14, Tryd.func14, by kernel_rfl, by kernel_rfl⟩ -- rillmeter/spread.List
theorem ok15 : FnOk Tryd.prog 15 := ⟨Tryd.f15, Tryd.func15, by kernel_rfl, by kernel_rfl⟩ -- rillmeter/rillmeterref19.Right
theorem ok16 : FnOk Tryd.prog 16 := ⟨Tryd.f16, Tryd.func16, by kernel_rfl, by kernel_rfl⟩ -- rillmeter/spread.Right
theorem ok17 : FnOk Tryd.prog 17 := ⟨Tryd.f17, Tryd.func17, by kernel_rfl, by kernel_rfl⟩ -- rillmeter/rillmeterref19.Equal
theorem ok18 : FnOk Tryd.prog 18 := ⟨Tryd.f18, Tryd.func18, by kernel_rfl, by kernel_rfl⟩ -- rillmeter/rillmeterref19.Estimate
theorem ok19 : FnOk Tryd.prog 19 := ⟨Tryd.f19, Tryd.func19, by kernel_rfl, by kernel_rfl⟩ -- rillmeter/rillmeterlaw19.same
theorem ok20 : FnOk Tryd.prog 20 := ⟨Tryd.f20, Tryd.func20, by kernel_rfl, by kernel_rfl⟩ -- rillmeter/rillmeterref19.List
theorem ok21 : FnOk Tryd.prog 21 := ⟨Tryd.f21, Tryd.func21, by kernel_rfl, by kernel_rfl⟩ -- rillmeter/rillmeterref19.Add
theorem ok22 : FnOk Tryd.prog 22 := ⟨Tryd.f22, Tryd.func22, by kernel_rfl, by kernel_rfl⟩ -- rillmeter/spread.New
theorem ok23 : FnOk Tryd.prog 23 := ⟨Tryd.f23, Tryd.func23, by kernel_rfl, by kernel_rfl⟩ -- rillmeter/rillmeterlaw19.few
theorem ok24 : FnOk Tryd.prog 24 := ⟨Tryd.f24, Tryd.func24, by kernel_rfl, by kernel_rfl⟩ -- rillmeter/rillmeterlaw19.fed
theorem ok25 : FnOk Tryd.prog 25 := ⟨Tryd.f25, Tryd.func25, by kernel_rfl, by kernel_rfl⟩ -- rillmeter/hash.Level
theorem ok26 : FnOk Tryd.prog 26 := ⟨Tryd.f26, Tryd.func26, by kernel_rfl, by kernel_rfl⟩ -- rillmeter/hash.Row
theorem ok27 : FnOk Tryd.prog 27 := ⟨Tryd.f27, Tryd.func27, by kernel_rfl, by kernel_rfl⟩ -- slices.Clone[[][]rillmeter/spread.Bucket,[]rillmeter/spread.Bucket]
theorem ok28 : FnOk Tryd.prog 28 := ⟨Tryd.f28, Tryd.func28, by kernel_rfl, by kernel_rfl⟩ -- rillmeter/spread.place
theorem ok29 : FnOk Tryd.prog 29 := ⟨Tryd.f29, Tryd.func29, by kernel_rfl, by kernel_rfl⟩ -- rillmeter/bitmap.Add
theorem ok30 : FnOk Tryd.prog 30 := ⟨Tryd.f30, Tryd.func30, by kernel_rfl, by kernel_rfl⟩ -- slices.Clone[[]rillmeter/spread.Bucket,rillmeter/spread.Bucket]
theorem ok31 : FnOk Tryd.prog 31 := ⟨Tryd.f31, Tryd.func31, by kernel_rfl, by kernel_rfl⟩ -- rillmeter/bitmap.Estimate
theorem ok32 : FnOk Tryd.prog 32 := ⟨Tryd.f32, Tryd.func32, by kernel_rfl, by kernel_rfl⟩ -- slices.SortFunc[[]rillmeter/heavy.Item,rillmeter/heavy.Item]
theorem ok33 : FnOk Tryd.prog 33 := ⟨Tryd.f33, Tryd.func33, by kernel_rfl, by kernel_rfl⟩ -- rillmeter/spread.List$1
theorem ok34 : FnOk Tryd.prog 34 := ⟨Tryd.f34, Tryd.func34, by kernel_rfl, by kernel_rfl⟩ -- cmp.Or[int]
theorem ok35 : FnOk Tryd.prog 35 := ⟨Tryd.f35, Tryd.func35, by kernel_rfl, by kernel_rfl⟩ -- cmp.Compare[int]
theorem ok36 : FnOk Tryd.prog 36 := ⟨Tryd.f36, Tryd.func36, by kernel_rfl, by kernel_rfl⟩ -- strings.Compare
theorem ok37 : FnOk Tryd.prog 37 := ⟨Tryd.f37, Tryd.func37, by kernel_rfl, by kernel_rfl⟩ -- rillmeter/rillmeterref13.Right
theorem ok38 : FnOk Tryd.prog 38 := ⟨Tryd.f38, Tryd.func38, by kernel_rfl, by kernel_rfl⟩ -- rillmeter/rillmeterref02.Row
theorem ok39 : FnOk Tryd.prog 39 := ⟨Tryd.f39, Tryd.func39, by kernel_rfl, by kernel_rfl⟩ -- rillmeter/rillmeterref13.Estimate
theorem ok40 : FnOk Tryd.prog 40 := ⟨Tryd.f40, Tryd.func40, by kernel_rfl, by kernel_rfl⟩ -- rillmeter/bitmap.Right
theorem ok41 : FnOk Tryd.prog 41 := ⟨Tryd.f41, Tryd.func41, by kernel_rfl, by kernel_rfl⟩ -- rillmeter/spread.none
theorem ok42 : FnOk Tryd.prog 42 := ⟨Tryd.f42, Tryd.func42, by kernel_rfl, by kernel_rfl⟩ -- rillmeter/rillmeterref13.Equal
theorem ok43 : FnOk Tryd.prog 43 := ⟨Tryd.f43, Tryd.func43, by kernel_rfl, by kernel_rfl⟩ -- rillmeter/rillmeterref19.Place
theorem ok44 : FnOk Tryd.prog 44 := ⟨Tryd.f44, Tryd.func44, by kernel_rfl, by kernel_rfl⟩ -- rillmeter/rillmeterref14.Get
theorem ok45 : FnOk Tryd.prog 45 := ⟨Tryd.f45, Tryd.func45, by kernel_rfl, by kernel_rfl⟩ -- rillmeter/rillmeterref14.Put
theorem ok46 : FnOk Tryd.prog 46 := ⟨Tryd.f46, Tryd.func46, by kernel_rfl, by kernel_rfl⟩ -- rillmeter/rillmeterref02.Level
theorem ok47 : FnOk Tryd.prog 47 := ⟨Tryd.f47, Tryd.func47, by kernel_rfl, by kernel_rfl⟩ -- rillmeter/rillmeterref13.Add
theorem ok48 : FnOk Tryd.prog 48 := ⟨Tryd.f48, Tryd.func48, by kernel_rfl, by kernel_rfl⟩ -- rillmeter/bitmap.New
theorem ok49 : FnOk Tryd.prog 49 := ⟨Tryd.f49, Tryd.func49, by kernel_rfl, by kernel_rfl⟩ -- slices.Repeat[[]rillmeter/spread.Bucket,rillmeter/spread.Bucket]
theorem ok50 : FnOk Tryd.prog 50 := ⟨Tryd.f50, Tryd.func50, by kernel_rfl, by kernel_rfl⟩ -- rillmeter/hash.Sum
theorem ok51 : FnOk Tryd.prog 51 := ⟨Tryd.f51, Tryd.func51, by kernel_rfl, by kernel_rfl⟩ -- math/bits.TrailingZeros64
theorem ok52 : FnOk Tryd.prog 52 := ⟨Tryd.f52, Tryd.func52, by kernel_rfl, by kernel_rfl⟩ -- rillmeter/field.Add
theorem ok53 : FnOk Tryd.prog 53 := ⟨Tryd.f53, Tryd.func53, by kernel_rfl, by kernel_rfl⟩ -- rillmeter/field.Mul
theorem ok54 : FnOk Tryd.prog 54 := ⟨Tryd.f54, Tryd.func54, by kernel_rfl, by kernel_rfl⟩ -- rillmeter/hash.Cell
theorem ok55 : FnOk Tryd.prog 55 := ⟨Tryd.f55, Tryd.func55, by kernel_rfl, by kernel_rfl⟩ -- rillmeter/bitmap.Place
theorem ok56 : FnOk Tryd.prog 56 := ⟨Tryd.f56, Tryd.func56, by kernel_rfl, by kernel_rfl⟩ -- slices.Clone[[][]bool,[]bool]
theorem ok57 : FnOk Tryd.prog 57 := ⟨Tryd.f57, Tryd.func57, by kernel_rfl, by kernel_rfl⟩ -- slices.Clone[[]bool,bool]
theorem ok58 : FnOk Tryd.prog 58 := ⟨Tryd.f58, Tryd.func58, by kernel_rfl, by kernel_rfl⟩ -- slices.pdqsortCmpFunc[rillmeter/heavy.Item]
theorem ok59 : FnOk Tryd.prog 59 := ⟨Tryd.f59, Tryd.func59, by kernel_rfl, by kernel_rfl⟩ -- math/bits.Len
theorem ok60 : FnOk Tryd.prog 60 := ⟨Tryd.f60, Tryd.func60, by kernel_rfl, by kernel_rfl⟩ -- cmp.isNaN[int]
theorem ok61 : FnOk Tryd.prog 61 := ⟨Tryd.f61, Tryd.func61, by kernel_rfl, by kernel_rfl⟩ -- internal/bytealg.CompareString
theorem ok62 : FnOk Tryd.prog 62 := ⟨Tryd.f62, Tryd.func62, by kernel_rfl, by kernel_rfl⟩ -- rillmeter/rillmeterref01.Mul
theorem ok63 : FnOk Tryd.prog 63 := ⟨Tryd.f63, Tryd.func63, by kernel_rfl, by kernel_rfl⟩ -- rillmeter/rillmeterref01.Add
theorem ok64 : FnOk Tryd.prog 64 := ⟨Tryd.f64, Tryd.func64, by kernel_rfl, by kernel_rfl⟩ -- rillmeter/rillmeterref01.Pow
theorem ok65 : FnOk Tryd.prog 65 := ⟨Tryd.f65, Tryd.func65, by kernel_rfl, by kernel_rfl⟩ -- slices.ContainsFunc[[][]bool,[]bool]
theorem ok66 : FnOk Tryd.prog 66 := ⟨Tryd.f66, Tryd.func66, by kernel_rfl, by kernel_rfl⟩ -- rillmeter/bitmap.Right$1
theorem ok67 : FnOk Tryd.prog 67 := ⟨Tryd.f67, Tryd.func67, by kernel_rfl, by kernel_rfl⟩ -- rillmeter/spread.none$1
theorem ok68 : FnOk Tryd.prog 68 := ⟨Tryd.f68, Tryd.func68, by kernel_rfl, by kernel_rfl⟩ -- slices.Contains[[]bool,bool]
theorem ok69 : FnOk Tryd.prog 69 := ⟨Tryd.f69, Tryd.func69, by kernel_rfl, by kernel_rfl⟩ -- rillmeter/rillmeterref02.Cell
theorem ok70 : FnOk Tryd.prog 70 := ⟨Tryd.f70, Tryd.func70, by kernel_rfl, by kernel_rfl⟩ -- rillmeter/rillmeterref14.Ahead
theorem ok71 : FnOk Tryd.prog 71 := ⟨Tryd.f71, Tryd.func71, by kernel_rfl, by kernel_rfl⟩ -- rillmeter/rillmeterref02.Sum
theorem ok72 : FnOk Tryd.prog 72 := ⟨Tryd.f72, Tryd.func72, by kernel_rfl, by kernel_rfl⟩ -- rillmeter/rillmeterref13.Place
theorem ok73 : FnOk Tryd.prog 73 := ⟨Tryd.f73, Tryd.func73, by kernel_rfl, by kernel_rfl⟩ -- math/bits.Mul
theorem ok74 : FnOk Tryd.prog 74 := ⟨Tryd.f74, Tryd.func74, by kernel_rfl, by kernel_rfl⟩ -- rillmeter/field.Pow
theorem ok75 : FnOk Tryd.prog 75 := ⟨Tryd.f75, Tryd.func75, by kernel_rfl, by kernel_rfl⟩ -- rillmeter/field.Of
theorem ok76 : FnOk Tryd.prog 76 := ⟨Tryd.f76, Tryd.func76, by kernel_rfl, by kernel_rfl⟩ -- math/bits.Mul64
theorem ok77 : FnOk Tryd.prog 77 := ⟨Tryd.f77, Tryd.func77, by kernel_rfl, by kernel_rfl⟩ -- slices.insertionSortCmpFunc[rillmeter/heavy.Item]
theorem ok78 : FnOk Tryd.prog 78 := ⟨Tryd.f78, Tryd.func78, by kernel_rfl, by kernel_rfl⟩ -- slices.heapSortCmpFunc[rillmeter/heavy.Item]
theorem ok79 : FnOk Tryd.prog 79 := ⟨Tryd.f79, Tryd.func79, by kernel_rfl, by kernel_rfl⟩ -- slices.breakPatternsCmpFunc[rillmeter/heavy.Item]
theorem ok80 : FnOk Tryd.prog 80 := ⟨Tryd.f80, Tryd.func80, by kernel_rfl, by kernel_rfl⟩ -- slices.choosePivotCmpFunc[rillmeter/heavy.Item]
theorem ok81 : FnOk Tryd.prog 81 := ⟨Tryd.f81, Tryd.func81, by kernel_rfl, by kernel_rfl⟩ -- slices.reverseRangeCmpFunc[rillmeter/heavy.Item]
theorem ok82 : FnOk Tryd.prog 82 := ⟨Tryd.f82, Tryd.func82, by kernel_rfl, by kernel_rfl⟩ -- slices.partialInsertionSortCmpFunc[rillmeter/heavy.Item]
theorem ok83 : FnOk Tryd.prog 83 := ⟨Tryd.f83, Tryd.func83, by kernel_rfl, by kernel_rfl⟩ -- slices.partitionEqualCmpFunc[rillmeter/heavy.Item]
theorem ok84 : FnOk Tryd.prog 84 := ⟨Tryd.f84, Tryd.func84, by kernel_rfl, by kernel_rfl⟩ -- slices.partitionCmpFunc[rillmeter/heavy.Item]
theorem ok85 : FnOk Tryd.prog 85 := ⟨Tryd.f85, Tryd.func85, by kernel_rfl, by kernel_rfl⟩ -- math/bits.Len32
theorem ok86 : FnOk Tryd.prog 86 := ⟨Tryd.f86, Tryd.func86, by kernel_rfl, by kernel_rfl⟩ -- math/bits.Len64
theorem ok88 : FnOk Tryd.prog 88 := ⟨Tryd.f88, Tryd.func88, by kernel_rfl, by kernel_rfl⟩ -- slices.IndexFunc[[][]bool,[]bool]
theorem ok89 : FnOk Tryd.prog 89 := ⟨Tryd.f89, Tryd.func89, by kernel_rfl, by kernel_rfl⟩ -- slices.Index[[]bool,bool]
theorem ok90 : FnOk Tryd.prog 90 := ⟨Tryd.f90, Tryd.func90, by kernel_rfl, by kernel_rfl⟩ -- rillmeter/rillmeterref01.Of
theorem ok91 : FnOk Tryd.prog 91 := ⟨Tryd.f91, Tryd.func91, by kernel_rfl, by kernel_rfl⟩ -- rillmeter/rillmeterref02.words
theorem ok92 : FnOk Tryd.prog 92 := ⟨Tryd.f92, Tryd.func92, by kernel_rfl, by kernel_rfl⟩ -- math/bits.Mul32
theorem ok93 : FnOk Tryd.prog 93 := ⟨Tryd.f93, Tryd.func93, by kernel_rfl, by kernel_rfl⟩ -- slices.siftDownCmpFunc[rillmeter/heavy.Item]
theorem ok94 : FnOk Tryd.prog 94 := ⟨Tryd.f94, Tryd.func94, by kernel_rfl, by kernel_rfl⟩ -- slices.nextPowerOfTwo
theorem ok95 : FnOk Tryd.prog 95 := ⟨Tryd.f95, Tryd.func95, by kernel_rfl, by kernel_rfl⟩ -- (*slices.xorshift).Next
theorem ok96 : FnOk Tryd.prog 96 := ⟨Tryd.f96, Tryd.func96, by kernel_rfl, by kernel_rfl⟩ -- slices.medianAdjacentCmpFunc[rillmeter/heavy.Item]
theorem ok97 : FnOk Tryd.prog 97 := ⟨Tryd.f97, Tryd.func97, by kernel_rfl, by kernel_rfl⟩ -- slices.medianCmpFunc[rillmeter/heavy.Item]
theorem ok98 : FnOk Tryd.prog 98 := ⟨Tryd.f98, Tryd.func98, by kernel_rfl, by kernel_rfl⟩ -- slices.order2CmpFunc[rillmeter/heavy.Item]
end Go.Proofs.YtonkhpeahbjmmaaDoorF
end

section
/- Sorting in place, from the shelf's contract. -/
namespace Go.Proofs.Vm
open Go

variable {P : Program}

def SortsInt (P : Program) (g : FuncId) : Prop := ∀ (blk off cap : Nat) (zs : List Int) (w : World), Sort.Holds (Value.int .i64) w blk off zs.toArray → blk < w.heap.size → zs.length < 4611686018427387904 →
  Calls P g #[.slice (some ⟨blk, off, none⟩) zs.length cap] w fun e w' => e = .returned (.tuple #[]) ∧ ∃ n os, w' = Sort.grow (Sort.putRow (Value.int .i64) (Sort.ahead w n) blk off (zs.mergeSort fun x y => decide (x ≤ y)).toArray) os
def SortsNone (P : Program) (g : FuncId) : Prop := ∀ (p : Option Addr) (cap : Nat) (w : World), Calls P g #[.slice p 0 cap] w fun e w' => e = .returned (.tuple #[]) ∧ w' = w

theorem mapO_int_inv : ∀ {l : List (List CV)} {xs : List Int}, mapO intOf l = some xs → l = xs.map cInt
  | [], xs, h => by cases h; rfl
  | e :: l, xs, h => by
    simp only [mapO] at h
    split at h
    · rename_i y m h1 h2
      cases h
      rw [List.map_cons, mapO_int_inv h2]
      congr 1
      unfold intOf at h1
      split at h1
      · cases h1; rfl
      · cases h1
    · cases h

theorem sortTab_ok {g : FuncId} (hnc : isCl P g = false) (hf : FnOk P g) (h1 : SortsInt P g) (h2 : SortsNone P g) : TOk P (sortTab g) := by
  refine ⟨fun f args r h => (by cases h), fun f args H r H' h => ?_⟩
  simp only [sortTab] at h
  split at h
  case isFalse => cases h
  rename_i hfg
  subst hfg
  unfold sortRun at h
  split at h
  case h_2 => cases h
  rename_i id n tot
  split at h
  case h_2 => cases h
  rename_i l hl
  split at h
  case h_2 => cases h
  rename_i xs hxs
  split at h
  case isFalse => cases h
  rename_i hc
  obtain ⟨rfl, hlt, hsz⟩ := hc
  cases h
  have hlx := mapO_int_inv hxs
  have hxl : xs.length = n := by rw [← hlt, hlx, List.length_map]
  refine ⟨⟨by simp, fun h => by rw [hnc] at h; cases h⟩, hf, ?_⟩
  intro X S M hX hD vals hv
  subst hX
  have hv1 : vals.length = 1 := by rw [← hv.1]; rfl
  match vals, hv1 with
  | [v], _ =>
  have hr : RCell X (.sl id 0 n n) v := hv.2 0 _ v rfl rfl
  obtain ⟨_, hd, e0, he0, _, _, hp⟩ := hr
  rw [hl] at he0
  cases he0
  obtain ⟨ad, cap, rfl, hcap, hne, _⟩ := hp hlt
  have hent := S.ent _ _ hd hl
  have hlen' : (xs.mergeSort fun x y => decide (x ≤ y)).length = xs.length := List.length_mergeSort _
  have hylen : ((xs.mergeSort fun x y => decide (x ≤ y)).map cInt).length = l.length := by rw [List.length_map, hlen', hlx, List.length_map]
  by_cases h0 : n = 0
  · subst h0
    have hxe : xs = [] := List.length_eq_zero_iff.1 hxl
    subst hxe
    refine (h2 ad cap X.w).mono fun e w' hh => ?_
    obtain ⟨rfl, rfl⟩ := hh
    refine ⟨_, X, rfl, rfl, .refl S M, ?_, fun id => by rw [hD]; simp, ⟨[], rfl, rfl, fun j p y hp => by simp at hp⟩⟩
    rw [List.mergeSort_nil]
    simp only [List.map_nil] at hlx ⊢
    rw [hlx] at hl
    exact (set_same hl).symm
  · obtain ⟨b, hb, rfl⟩ := hne h0
    rcases hent.2 with ⟨h3, _⟩ | ⟨b', c, ty, fr, g1, g2, g3, g4, g5, g6, g7, g8, g9, g10⟩
    · exact absurd (hlt.symm.trans h3) h0
    rw [hb] at g1
    cases g1
    have hsz1 : (X.σ id).sz = 1 := by
      cases l with
      | nil => exact absurd hlt.symm h0
      | cons e l =>
        have := hent.1 e List.mem_cons_self
        cases xs with
        | nil => simp at hlx
        | cons x xs =>
          rw [List.map_cons] at hlx
          cases hlx
          exact this.symm
    rw [hsz1] at g5 g10
    have hblk := S.blk M id b hd hb
    have hcell : ∀ j, ∀ hj : j < xs.length, c[j]? = some (.int .i64 xs[j]) := by
      intro j hj
      obtain ⟨v, h3, e, x, h4, h5, h6⟩ := g10 j 0 (by omega) (by omega)
      rw [hlx, List.getElem?_map, List.getElem?_eq_getElem hj] at h4
      cases h4
      cases h5
      cases h6
      rw [← h3, Nat.mul_one, Nat.add_zero]
    have hH : Sort.Holds (Value.int .i64) X.w b 0 xs.toArray := by
      intro j hj
      have hj : j < xs.length := by simpa using hj
      refine ⟨?_, g4 _ ?_⟩
      · unfold World.cell?
        simp only [g3]
        rw [if_neg (by simp), Nat.zero_add, hcell j hj]
        simp [hj]
      · have := (Array.getElem?_eq_some_iff.1 (hcell j hj)).1
        omega
    rw [Nat.zero_mul, ← hxl]
    refine (h1 b 0 cap xs X.w hH hblk.1 (by omega)).mono fun e w' hh => ?_
    obtain ⟨rfl, m, os, rfl⟩ := hh
    generalize hys : (xs.mergeSort fun x y => decide (x ≤ y)) = ys at hlen' hylen
    let w' := Sort.grow (Sort.putRow (Value.int .i64) (Sort.ahead X.w m) b 0 ys.toArray) os
    have hms : (X.w.heap.modify b (Sort.onCells (Sort.putCells (Value.int .i64) 0 ys.toArray))).size = X.w.heap.size := by simp
    have hheap : ∀ k, k < X.w.heap.size → w'.heap[k]? = (X.w.heap.modify b (Sort.onCells (Sort.putCells (Value.int .i64) 0 ys.toArray)))[k]? := by
      intro k hk
      show (X.w.heap.modify b _ ++ os)[k]? = _
      rw [Array.getElem?_append_left (by simpa using hk)]
    have hself : w'.heap[b]? = some (.cells (Sort.putCells (Value.int .i64) 0 ys.toArray c) ty fr) := by
      rw [hheap b hblk.1, Array.getElem?_modify, if_pos rfl, g3]
      rfl
    have hoth : ∀ k, k < X.w.heap.size → k ≠ b → w'.heap[k]? = X.w.heap[k]? := by
      intro k hk hkb
      rw [hheap k hk, Array.getElem?_modify, if_neg (fun e => hkb e.symm)]
    let Y : Cx := { X with H := X.H.set id (.clo (ys.map cInt) false), w := w' }
    have W : Wrote X Y id := ⟨rfl, rfl, fun _ => Iff.rfl, fun _ _ _ => rfl, rfl, fun i hi => set_get hi, by
      show X.w.heap.size ≤ (X.w.heap.modify b _ ++ os).size
      rw [Array.size_append, hms]
      exact Nat.le_add_right _ _, fun k hk hkb => hoth k hk (hkb b hb), ⟨_, _, hl, set_self hl, by simp only [Ent.len]; omega, fun _ => rfl, fun l h => by cases h⟩, hd, ⟨⟨rfl, rfl⟩, rfl, Nat.le_add_right _ _⟩, fun k hk => by rw [hb] at hk; cases hk; exact g9 rfl⟩
    have SY : SR Y := W.sr S M (fun e h => by
      have : Y.H[id]? = some (.clo (ys.map cInt) false) := set_self hl
      rw [this] at h
      cases h
      refine ⟨fun e he => ?_, .inr ⟨b, _, ty, fr, hb, g2, hself, fun o ho => ?_, ?_, by rw [hylen]; exact g6, g7, (fun h => by cases h), g9, fun i j hi hj => ?_⟩⟩
      · obtain ⟨y, _, rfl⟩ := List.mem_map.1 he
        show 1 = (X.σ id).sz
        rw [hsz1]
      · have := g4 o (by simpa [Sort.putCells] using ho)
        unfold World.frozen? at this ⊢
        rw [g3] at this
        rw [hself]
        exact this
      · show (Sort.putCells (Value.int .i64) 0 ys.toArray c).size = (X.σ id).cap * (X.σ id).sz
        rw [hsz1, ← g5]
        simp [Sort.putCells]
      · have hj : j < (X.σ id).sz := hj
        rw [hsz1] at hj
        have hi' : i < ys.length := by simpa using hi
        have hic : i < c.size := by rw [g5]; have := g6.2; rw [hylen] at hi; omega
        refine ⟨.int .i64 ys[i], ?_, cInt ys[i], .v (.int .i64 ys[i]), by rw [List.getElem?_map, List.getElem?_eq_getElem hi']; rfl, by rw [show j = 0 by omega]; rfl, .v _ rfl⟩
        show (Sort.putCells (Value.int .i64) 0 ys.toArray c)[i * (X.σ id).sz + j]? = _
        rw [hsz1, show i * 1 + j = i by omega, Sort.putCells, Array.getElem?_mapIdx, Array.getElem?_eq_getElem hic, Option.map_some, if_pos ⟨Nat.zero_le _, by simpa using hi'⟩]
        simp [hi']) (fun b' h => .inl h)
    exact ⟨_, Y, rfl, rfl, W.nxt S M SY, rfl, fun id => by rw [show Y.D = X.D from rfl, hD]; simp, ⟨[], rfl, rfl, fun j p y hp => by simp at hp⟩⟩

end Go.Proofs.Vm
end
