/- Steps shared by the proofs of this seat's statements (part 1). -/
import Derived.Test.YtngpmpmhpggpgaaDoorS0
import Derived.Laws.Entries
section
/- The value machine's reading operations together; and what more of a heap does to them: nothing. -/
namespace Go.Proofs.Vm
open Go

variable {P : Program} {X : Cx}

def optOp (ρ : Operand → Option AV) : Option Operand → Option (Option AV)
  | none => some none
  | some x => (ρ x).map some

def vnil (H : Hp) (a : AV) : RR := if isPtr a && fresh H a then qa a else none

def vun (P : Program) (op : UnOp) (a : AV) : RR :=
  match a.sc with
  | some x => ofPv (pv P (Op.unary op x))
  | none => none

def scsAV : List AV → Option (List Value)
  | [] => some []
  | a :: r => match a.sc, scsAV r with
    | some x, some l => some (x :: l)
    | _, _ => none

def vrd (P : Program) (T : Tab) (nest : Bool) (H : Hp) (nid : Nat) (ρ : Operand → Option AV) (o : Oper) : RR :=
  match o.op with
  | .move x | .assign x => vmove ρ nid x
  | .pick c a b => vpick ρ c a b
  | .alloc t => valloc P nid t
  | .box _ x => match ρ x with
    | some a => vbox nid a
    | none => none
  | .build t ps => vbuild P nid ρ t ps.toList
  | .buildSlice t n ps => vbuildN P nest T.cb H nid ρ t n ps.toList
  | .load t x => match ρ x with
    | some a => vload P H t a
    | none => none
  | .nilCheck x => match ρ x with
    | some a => vnil H a
    | none => none
  | .binOp op t x y _ => match ρ x, ρ y with
    | some a, some b => vbin P H op t x y a b
    | _, _ => none
  | .unOp op _ x => match ρ x with
    | some a => vun P op a
    | none => none
  | .convert s d x => match ρ x with
    | some a => vconvert P s d a
    | none => none
  | .makeFunc fn first caps => match mapO ρ caps.toList with
    | some l => vmakeFunc fn first.toList l
    | none => none
  | .makeSlice t l c => match ρ l, ρ c with
    | some a, some b => vmakeN P nest nid t a b
    | _, _ => none
  | .slice t x lo hi mx => match ρ x, optOp ρ lo, optOp ρ hi, optOp ρ mx with
    | some a, some l, some h, some m => vslice P H nid t a l h m
    | _, _, _, _ => none
  | .fieldAddr s x f => match ρ x with
    | some a => vfieldAddr P H s f a
    | none => none
  | .field s x f => match ρ x with
    | some a => vfield P s f a
    | none => none
  | .indexAddr t x i => match ρ x, ρ i with
    | some a, some b => vindexAddr P H t a b
    | _, _ => none
  | .index t x i => match ρ x, ρ i with
    | some a, some b => match a.sc, b.sc with
      | some u, some v => ofPv (pv P (Instr.index t u v))
      | _, _ => none
    | _, _ => none
  | .extract x i => match ρ x with
    | some a => vextract a i
    | none => none
  | .call c => match c.callee with
    | .builtin .len => match c.args.toList with
      | [x] => match ρ x with
        | some a => vlen P H c.argTypes o.type a
        | none => none
      | _ => none
    | .builtin .max => match mapO ρ c.args.toList with
      | some l => match scsAV l with
        | some vs => ofPv (pv P (Builtin.max_ c.argTypes o.type vs.toArray))
        | none => none
      | none => none
    | .builtin .min => match mapO ρ c.args.toList with
      | some l => match scsAV l with
        | some vs => ofPv (pv P (Builtin.min_ c.argTypes o.type vs.toArray))
        | none => none
      | none => none
    | .value f => match ρ f, mapO ρ c.args.toList with
      | some fv, some args => vcall T H fv args
      | _, _ => none
    | _ => none
  | .lookup t x i cok => match ρ x, ρ i with
    | some a, some b => vlookup P H t a b cok
    | _, _ => none
  | _ => none

theorem scsAV_sound : ∀ {l : List AV} {xs vs : List Value}, scsAV l = some xs → RAs X l vs → vs = xs
  | [], xs, vs, h, hv => by
    simp [scsAV] at h
    subst h
    cases vs with
    | nil => rfl
    | cons _ _ => exact absurd hv.1 (by simp)
  | a :: r, xs, vs, h, hv => by
    unfold scsAV at h
    split at h
    · rename_i x l hx hl
      cases h
      cases vs with
      | nil => exact absurd hv.1 (by simp)
      | cons y vs => rw [AV.sc_sound hx (hv.2 0 a y rfl rfl), scsAV_sound hl ⟨by simpa using hv.1, fun j a' y' ha hy => hv.2 (j + 1) a' y' ha hy⟩]
    · cases h

section
variable {T : Tab} (hT : PuOk P T) (S : SR X) (M : Dom X) {ρ : Operand → Option AV} {act : Act} (hρ : ∀ x a, ρ x = some a → RA X a (act.eval x))
include hT S M hρ

omit hT S M in
theorem mapO_ras {l : List Operand} {m : List AV} (h : mapO ρ l = some m) : RAs X m (l.map act.eval) := by
  obtain ⟨h1, h2⟩ := mapO_spec h
  refine ⟨by simp [h1], fun j a v ha hv => ?_⟩
  rw [List.getElem?_map] at hv
  obtain ⟨x, hx, rfl⟩ := Option.map_eq_some_iff.1 hv
  obtain ⟨y, hy, hf⟩ := h2 j x hx
  rw [ha] at hy
  cases hy
  exact hρ x _ hf

omit hT S M in
theorem optOp_sound {x : Option Operand} {a : Option AV} (h : optOp ρ x = some a) : ROpt X a (x.map act.eval) := by
  cases x with
  | none => cases h; trivial
  | some x =>
    obtain ⟨b, hb, rfl⟩ := Option.map_eq_some_iff.1 h
    exact hρ x b hb

theorem vrd_does {nest : Bool} {nid : Nat} {o : Oper} {r : AV × List Ent × List Nat} (h : vrd P T nest X.H nid ρ o = some r) : OpDoes P X nid r o act := by
  have wrap : ∀ {s : Sem Value}, Does P X nid r s → (execOp act.eval o = (do pure (.value (← s)))) → OpDoes P X nid r o act := by
    intro s hd he
    exact hd.op fun w v w' hr => by rw [he]; simp [hr]
  unfold vrd at h
  split at h
  · -- move
    rename_i x ho
    have he : execOp act.eval o = pure (.value (act.eval x)) := by simp [execOp, ho]
    unfold vmove at h
    split at h
    · rename_i hn
      cases h
      intro hn' _ K Q hK
      obtain ⟨a1, e', a2, a3⟩ := hn'.head
      obtain ⟨g, rfl⟩ := a3.clo
      obtain ⟨Y, hw, hY, hσ, _⟩ := S.nil M nid a1 a2 none
      have hx : act.eval x = .slice none 0 0 := by
        unfold isNil at hn
        split at hn
        · rfl
        · cases hn
      unfold Oper.wp
      rw [he, hx]
      show K _ X.w
      rw [← hw]
      exact hK _ Y hY ⟨rfl, (hY.D nid).2 (.inr ⟨Nat.le_refl _, by simp⟩), _, by rw [hY.ext.H]; exact a2, by simp, by simp [Ent.len], fun _ => ⟨none, 0, rfl, Nat.le_refl _, fun h => absurd rfl h, fun _ _ => by rw [hσ]; exact ⟨rfl, rfl⟩⟩⟩
    · split at h
      case h_2 => cases h
      rename_i a ha
      cases h
      exact (Does.quiet S M (s := pure (act.eval x)) rfl (hρ x a ha)).op fun w v w' hr => by
        rw [he]
        cases hr
        rfl
  · -- assign
    rename_i x ho
    have he : execOp act.eval o = pure (.value (act.eval x)) := by simp [execOp, ho]
    unfold vmove at h
    split at h
    · rename_i hn
      cases h
      intro hn' _ K Q hK
      obtain ⟨a1, e', a2, a3⟩ := hn'.head
      obtain ⟨g, rfl⟩ := a3.clo
      obtain ⟨Y, hw, hY, hσ, _⟩ := S.nil M nid a1 a2 none
      have hx : act.eval x = .slice none 0 0 := by
        unfold isNil at hn
        split at hn
        · rfl
        · cases hn
      unfold Oper.wp
      rw [he, hx]
      show K _ X.w
      rw [← hw]
      exact hK _ Y hY ⟨rfl, (hY.D nid).2 (.inr ⟨Nat.le_refl _, by simp⟩), _, by rw [hY.ext.H]; exact a2, by simp, by simp [Ent.len], fun _ => ⟨none, 0, rfl, Nat.le_refl _, fun h => absurd rfl h, fun _ _ => by rw [hσ]; exact ⟨rfl, rfl⟩⟩⟩
    · split at h
      case h_2 => cases h
      rename_i a ha
      cases h
      exact (Does.quiet S M (s := pure (act.eval x)) rfl (hρ x a ha)).op fun w v w' hr => by
        rw [he]
        cases hr
        rfl
  · -- pick
    rename_i c a b ho
    unfold vpick at h
    split at h
    case h_2 => cases h
    rename_i t hc
    split at h
    case h_2 => cases h
    rename_i y hy
    cases h
    have hcv := hρ c _ hc
    have hc' : act.eval c = .bool t := by
      generalize act.eval c = q at hcv
      cases hcv
      rfl
    refine (Does.quiet S M (s := pure (if t = true then act.eval a else act.eval b)) rfl ?_).op fun w v w' hr => ?_
    · cases t
      · exact hρ b y hy
      · exact hρ a y hy
    · cases hr
      simp [execOp, ho, hc', asBool]
  · rename_i t ho
    exact wrap (valloc_does S M h (old := .tuple #[])) (by simp [execOp, ho])
  · rename_i t x ho
    split at h
    case h_2 => cases h
    rename_i a ha
    exact wrap (vbox_does (t := t) S M h (hρ x a ha)) (by simp [execOp, ho])
  · rename_i t ps ho
    exact wrap (vbuild_does S M hρ h) (by simp [execOp, ho]; congr; apply Array.ext'; simp)
  · rename_i t n ps ho
    exact wrap (vbuildN_does S M hρ h) (by simp [execOp, ho]; congr; apply Array.ext'; simp)
  · rename_i t x ho
    split at h
    case h_2 => cases h
    rename_i a ha
    exact wrap (vload_does S M h (hρ x a ha)) (by simp [execOp, ho])
  · rename_i x ho
    split at h
    case h_2 => cases h
    rename_i a ha
    unfold vnil at h
    split at h
    case isFalse => cases h
    rename_i hc
    simp only [Bool.and_eq_true] at hc
    cases h
    obtain ⟨q, hq⟩ := isPtr_sound hc.1 (hρ x a ha) hc.2
    refine (Does.quiet S M (s := pure (act.eval x)) rfl (hρ x a ha)).op fun w v w' hr => ?_
    cases hr
    simp [execOp, ho, hq]
  · rename_i op t x y ty ho
    split at h
    case h_2 => cases h
    rename_i a b ha hb
    exact wrap (vbin_does (x := x) (y := y) S M h (hρ x a ha) (hρ y b hb)) (by simp [execOp, ho])
  · rename_i op t x ho
    split at h
    case h_2 => cases h
    rename_i a ha
    unfold vun at h
    split at h
    case h_2 => cases h
    rename_i u hu
    rw [← AV.sc_sound hu (hρ x a ha)] at h
    exact wrap (ofPv_does S M h) (by simp [execOp, ho])
  · rename_i s d x ho
    split at h
    case h_2 => cases h
    rename_i a ha
    unfold vconvert at h
    split at h
    case h_2 => cases h
    rename_i u
    have hv := hρ x _ ha
    have hu : act.eval x = u := by
      generalize act.eval x = q at hv
      cases hv
      rfl
    rw [← hu] at h
    exact wrap (ofPv_does S M h) (by simp [execOp, ho])
  · rename_i fn first caps ho
    split at h
    case h_2 => cases h
    rename_i l hl
    obtain ⟨h1, h2⟩ := vmakeFunc_does S M h (mapO_ras hρ hl)
    refine wrap h1 ?_
    have hf : first = #[] := by
      apply Array.ext'
      simpa using h2
    simp [execOp, ho, hf, ← Array.toList_map]
  · rename_i t l c ho
    split at h
    case h_2 => cases h
    rename_i a b ha hb
    exact wrap (vmakeN_does S M h (hρ l a ha) (hρ c b hb)) (by simp [execOp, ho])
  · rename_i t x lo hi mx ho
    split at h
    case h_2 => cases h
    rename_i a l h' m ha hl hh hm
    exact wrap (vslice_does S M h (hρ x a ha) (optOp_sound hρ hl) (optOp_sound hρ hh) (optOp_sound hρ hm)) (by simp [execOp, ho])
  · rename_i s x f ho
    split at h
    case h_2 => cases h
    rename_i a ha
    exact wrap (vfieldAddr_does S M h (hρ x a ha)) (by simp [execOp, ho])
  · rename_i s x f ho
    split at h
    case h_2 => cases h
    rename_i a ha
    exact wrap (vfield_does S M h (hρ x a ha)) (by simp [execOp, ho])
  · rename_i t x i ho
    split at h
    case h_2 => cases h
    rename_i a b ha hb
    exact wrap (vindexAddr_does S M h (hρ x a ha) (hρ i b hb)) (by simp [execOp, ho])
  · rename_i t x i ho
    split at h
    case h_2 => cases h
    rename_i a b ha hb
    split at h
    case h_2 => cases h
    rename_i u v hu hv
    rw [← AV.sc_sound hu (hρ x a ha), ← AV.sc_sound hv (hρ i b hb)] at h
    exact wrap (ofPv_does S M h) (by simp [execOp, ho])
  · rename_i x i ho
    split at h
    case h_2 => cases h
    rename_i a ha
    exact wrap (vextract_does S M h (hρ x a ha)) (by simp [execOp, ho])
  · rename_i c ho
    split at h
    · rename_i hc
      split at h
      case h_2 => cases h
      rename_i x hargs
      split at h
      case h_2 => cases h
      rename_i a ha
      have hargs' : c.args.map act.eval = #[act.eval x] := by
        apply Array.ext'
        simp [hargs]
      exact wrap (vlen_does S M h (hρ x a ha)) (by simp [execOp, ho, resolve, hc, invoke, builtin, hargs'])
    · rename_i hc
      split at h
      case h_2 => cases h
      rename_i l hl
      split at h
      case h_2 => cases h
      rename_i vs hvs
      have := scsAV_sound hvs (mapO_ras hρ hl)
      rw [← this, show (c.args.toList.map act.eval).toArray = c.args.map act.eval from by apply Array.ext'; simp] at h
      exact wrap (ofPv_does S M h) (by simp [execOp, ho, resolve, hc, invoke, builtin])
    · rename_i hc
      split at h
      case h_2 => cases h
      rename_i l hl
      split at h
      case h_2 => cases h
      rename_i vs hvs
      have := scsAV_sound hvs (mapO_ras hρ hl)
      rw [← this, show (c.args.toList.map act.eval).toArray = c.args.map act.eval from by apply Array.ext'; simp] at h
      exact wrap (ofPv_does S M h) (by simp [execOp, ho, resolve, hc, invoke, builtin])
    · rename_i f hc
      split at h
      case h_2 => cases h
      rename_i fv args hf ha
      exact vcall_does hT S M ho hc h (hρ f fv hf) (mapO_ras hρ ha)
    · cases h
  · rename_i t x i cok ho
    split at h
    case h_2 => cases h
    rename_i a b ha hb
    exact wrap (vlookup_does S M h (hρ x a ha) (hρ i b hb)) (by simp [execOp, ho])
  · cases h
end

/-- More of a heap: what was there stands, perhaps given up. -/
def Sub (H K : Hp) : Prop := ∀ (id : Nat) e, H[id]? = some e → ∃ e', K[id]? = some e' ∧ Le e e'

section
variable {H K : Hp} (U : Sub H K)
include U

theorem Sub.clo {id : Nat} {l : List (List CV)} {f : Bool} (h : H[id]? = some (.clo l f)) : ∃ g, K[id]? = some (.clo l g) := by
  obtain ⟨e', h1, h2⟩ := U _ _ h
  obtain ⟨g, rfl⟩ := h2.clo
  exact ⟨g, h1⟩

theorem Sub.opn {id : Nat} {l : List (List Cell)} {f : Bool} (h : H[id]? = some (.opn l f)) : ∃ g, K[id]? = some (.opn l g) := by
  obtain ⟨e', h1, h2⟩ := U _ _ h
  obtain ⟨g, rfl⟩ := h2.opn
  exact ⟨g, h1⟩

theorem Sub.cellsAt {p : Pt} {cs : List Cell} (h : cellsAt H p = some cs) : cellsAt K p = some cs := by
  unfold Vm.cellsAt at h ⊢
  split at h
  · rename_i l f he
    obtain ⟨g, hg⟩ := U.opn he
    rw [hg]
    exact h
  · rename_i l f he
    obtain ⟨g, hg⟩ := U.clo he
    rw [hg]
    exact h
  · cases h

theorem Sub.behind {a : AV} {cs : List Cell} (h : behind H a = some cs) : behind K a = some cs := by
  unfold Vm.behind at h ⊢
  split at h
  · exact U.cellsAt h
  · exact h
  · cases h

theorem Sub.mapAt {a : AV} {q : Nat × Nat × List (Value × List CV)} (h : mapAt H a = some q) : Vm.mapAt K a = some q := by
  unfold Vm.mapAt at h ⊢
  split at h
  · split at h
    · rename_i l0 he
      obtain ⟨e', h1, h2⟩ := U _ _ he
      have : e' = .mp l0 := by rcases h2 with rfl | rfl <;> rfl
      rw [h1, this]
      exact h
    · cases h
  · cases h

theorem Sub.lenIs {id tot : Nat} (h : lenIs H id tot = true) : lenIs K id tot = true := by
  unfold Vm.lenIs at h ⊢
  split at h
  · rename_i e he
    obtain ⟨e', h1, h2⟩ := U _ _ he
    rw [h1]
    have : e'.len = e.len := by
      rcases h2 with rfl | rfl
      · rfl
      · exact e.frz_len
    dsimp only
    rw [this]
    exact h
  · cases h

theorem Sub.elAt {id tot i n : Nat} (h : elAt H id tot i = some n) : elAt K id tot i = some n := by
  unfold Vm.elAt at h ⊢
  split at h
  · rename_i l f he
    obtain ⟨g, hg⟩ := U.clo he
    rw [hg]
    exact h
  · rename_i l f he
    obtain ⟨g, hg⟩ := U.opn he
    rw [hg]
    exact h
  · cases h

theorem Sub.fresh {a : AV} (h : fresh H a = true) : fresh K a = true := by
  unfold Vm.fresh at h ⊢
  split at h
  · exact U.lenIs h
  · rfl

theorem Sub.okSl {a : AV} (h : okSl H a = true) : okSl K a = true := by
  unfold Vm.okSl at h ⊢
  split at h
  · exact U.lenIs h
  · rfl

omit U in
theorem mapO_congr {α β : Type} {f g : α → Option β} : ∀ {l : List α} {m : List β}, mapO f l = some m → (∀ x ∈ l, ∀ y, f x = some y → g x = some y) → mapO g l = some m
  | [], m, h, _ => h
  | x :: r, m, h, hfg => by
    unfold mapO at h ⊢
    split at h
    · rename_i y l hy hl
      rw [hfg x (by simp) y hy, mapO_congr hl fun x hx => hfg x (by simp [hx])]
      exact h
    · cases h

theorem Sub.fzc' : ∀ (n : Nat) {c : Cell} {x : CV}, Vm.fzc n H c = some x → Vm.fzc n K c = some x ∧ rch n K c = rch n H c := by
  intro n
  induction n with
  | zero => intro c x h; cases h
  | succ n ih =>
    have hptr : ∀ {p : Pt} {x : CV}, Vm.fzc (n + 1) H (.ptr p) = some x → Vm.fzc (n + 1) K (.ptr p) = some x ∧ rch (n + 1) K (.ptr p) = rch (n + 1) H (.ptr p) := by
      intro p x h
      simp only [Vm.fzc, rch] at h ⊢
      split at h
      case h_2 => cases h
      rename_i cs hcs
      obtain ⟨xs, hxs, rfl⟩ := Option.map_eq_some_iff.1 h
      simp only [U.cellsAt hcs]
      refine ⟨by rw [mapO_congr hxs fun c _ y hy => (ih hy).1]; rfl, ?_⟩
      congr 2
      refine List.map_congr_left fun c hc => ?_
      obtain ⟨j, hj⟩ := List.getElem?_of_mem hc
      obtain ⟨y, _, hy⟩ := (mapO_spec hxs).2 j c hj
      exact (ih hy).2
    intro c x h
    cases c with
    | c y =>
      cases y <;> simp only [Vm.fzc, rch] at h ⊢ <;> exact ⟨h, trivial⟩
    | sl id o m tot =>
      simp only [Vm.fzc, rch] at h ⊢
      split at h
      · rename_i l f he
        obtain ⟨g, hg⟩ := U.clo he
        rw [hg, he]
        exact ⟨h, rfl⟩
      · rename_i l f he
        obtain ⟨g, hg⟩ := U.opn he
        rw [hg, he]
        try dsimp only
        split at h
        case isFalse => cases h
        rename_i hl
        obtain ⟨xs, hxs, rfl⟩ := Option.map_eq_some_iff.1 h
        rw [if_pos hl]
        refine ⟨by rw [mapO_congr hxs fun c _ y hy => mapO_congr hy fun c _ y hy => (ih hy).1]; rfl, ?_⟩
        congr 2
        refine List.map_congr_left fun e he => ?_
        obtain ⟨j, hj⟩ := List.getElem?_of_mem he
        obtain ⟨y, _, hy⟩ := (mapO_spec hxs).2 j e hj
        congr 1
        refine List.map_congr_left fun c hc => ?_
        obtain ⟨k, hk⟩ := List.getElem?_of_mem hc
        obtain ⟨z, _, hz⟩ := (mapO_spec hy).2 k c hk
        exact (ih hz).2
      · cases h
    | ptr p => exact hptr h
    | fn f caps =>
      simp only [Vm.fzc, rch] at h ⊢
      obtain ⟨xs, hxs, rfl⟩ := Option.map_eq_some_iff.1 h
      refine ⟨?_, ?_⟩
      · rw [mapO_congr hxs fun c _ y hy => ?_]
        · rfl
        · cases c with
          | inl z => exact hy
          | inr p => exact (ih hy).1
      · congr 1
        refine List.map_congr_left fun c hc => ?_
        obtain ⟨j, hj⟩ := List.getElem?_of_mem hc
        obtain ⟨y, _, hy⟩ := (mapO_spec hxs).2 j c hj
        cases c with
        | inl z => rfl
        | inr p => exact (ih hy).2
    | mp id => cases h; exact ⟨rfl, rfl⟩

theorem Sub.fzl {l : List Cell} {xs : List CV} (h : mapO (Vm.fzc 5 H) l = some xs) : mapO (Vm.fzc 5 K) l = some xs ∧ (l.map (rch 5 K)).flatten = (l.map (rch 5 H)).flatten := by
  refine ⟨mapO_congr h fun c _ y hy => (U.fzc' 5 hy).1, ?_⟩
  congr 1
  refine List.map_congr_left fun c hc => ?_
  obtain ⟨j, hj⟩ := List.getElem?_of_mem hc
  obtain ⟨y, _, hy⟩ := (mapO_spec h).2 j c hj
  exact (U.fzc' 5 hy).2

theorem Sub.fza {a : AV} {k : CA} (h : Vm.fza H a = some k) : Vm.fza K a = some k ∧ rcha K a = rcha H a := by
  cases a with
  | one c =>
    obtain ⟨x, hx, rfl⟩ := Option.map_eq_some_iff.1 h
    obtain ⟨h1, h2⟩ := U.fzc' 5 hx
    exact ⟨by simp [Vm.fza, h1], h2⟩
  | agg l =>
    obtain ⟨x, hx, rfl⟩ := Option.map_eq_some_iff.1 h
    obtain ⟨h1, h2⟩ := U.fzl hx
    exact ⟨by simp [Vm.fza, h1], h2⟩
  | tup l =>
    obtain ⟨x, hx, rfl⟩ := Option.map_eq_some_iff.1 h
    refine ⟨?_, ?_⟩
    · simp only [Vm.fza]
      rw [mapO_congr hx fun p _ y hy => ?_]
      · rfl
      · obtain ⟨z, hz, rfl⟩ := Option.map_eq_some_iff.1 hy
        rw [(U.fzl hz).1]
        rfl
    · simp only [rcha]
      congr 1
      refine List.map_congr_left fun p hp => ?_
      obtain ⟨j, hj⟩ := List.getElem?_of_mem hp
      obtain ⟨y, _, hy⟩ := (mapO_spec hx).2 j p hj
      obtain ⟨z, hz, _⟩ := Option.map_eq_some_iff.1 hy
      exact (U.fzl hz).2

omit U in
theorem rchParts_cons (H : Hp) (i : Nat) (cs : List Cell) (r : List (Nat × List Cell)) : rchParts H ((i, cs) :: r) = (cs.map (rch 5 H)).flatten ++ rchParts H r := by
  simp only [rchParts, List.map_cons, List.flatten_cons]

omit U in
theorem fzParts_cons (H : Hp) (i : Nat) (cs : List Cell) (r : List (Nat × List Cell)) : fzParts H ((i, cs) :: r) = (match mapO (Vm.fzc 5 H) cs, fzParts H r with
    | some x, some l => some ((i, x) :: l)
    | _, _ => none) := by
  cases h1 : mapO (Vm.fzc 5 H) cs <;> cases h2 : fzParts H r <;> simp only [fzParts, h1, h2]

theorem Sub.parts (ps : List (Nat × List Cell)) : ∀ {qs : List (Nat × List CV)}, fzParts H ps = some qs → fzParts K ps = some qs ∧ rchParts K ps = rchParts H ps := by
  induction ps with
  | nil =>
    intro qs h
    simp only [fzParts] at h ⊢
    exact ⟨h, by simp only [rchParts, List.map_nil]⟩
  | cons p r ih =>
    intro qs h
    obtain ⟨i, cs⟩ := p
    rw [fzParts_cons] at h
    rw [fzParts_cons, rchParts_cons, rchParts_cons]
    have hx : ∃ x, mapO (Vm.fzc 5 H) cs = some x := by
      cases hx : mapO (Vm.fzc 5 H) cs with
      | none => rw [hx] at h; cases h
      | some x => exact ⟨x, rfl⟩
    obtain ⟨x, hx⟩ := hx
    have hl : ∃ l, fzParts H r = some l := by
      cases hl : fzParts H r with
      | none => rw [hx, hl] at h; cases h
      | some l => exact ⟨l, rfl⟩
    obtain ⟨l, hl⟩ := hl
    obtain ⟨h1, h2⟩ := U.fzl hx
    obtain ⟨h3, h4⟩ := ih hl
    rw [hx, hl] at h
    rw [h1, h3, h4, h2]
    exact ⟨h, rfl⟩

theorem Sub.calleeOf {a : AV} {r : FuncId × List CV} (h : calleeOf H a = some r) : calleeOf K a = some r ∧ rcha K a = rcha H a := by
  unfold Vm.calleeOf at h ⊢
  split at h
  · rename_i g caps
    split at h
    case h_2 => cases h
    rename_i g' cs hf
    obtain ⟨h1, h2⟩ := U.fzc' 5 hf
    try dsimp only
    rw [h1]
    exact ⟨h, h2⟩
  · exact ⟨h, rfl⟩
  · cases h

theorem Sub.cl {ρ : Operand → Option AV} {ps : List (Nat × Operand)} (h : clParts H ρ ps = true) : clParts K ρ ps = true := by
  unfold clParts at h ⊢
  split at h
  · rename_i l hl
    simp only [Bool.and_eq_true] at h ⊢
    cases hq : fzParts H l with
    | none => rw [hq] at h; cases h.1
    | some qs =>
      obtain ⟨h1, h2⟩ := Sub.parts U _ hq
      rw [h1, h2]
      exact ⟨rfl, h.2⟩
  · cases h
theorem Sub.vrd {T : Tab} {nest : Bool} {nid : Nat} {ρ : Operand → Option AV} {o : Oper} {r : AV × List Ent × List Nat} (h : vrd P T nest H nid ρ o = some r) : vrd P T nest K nid ρ o = some r := by
  unfold Vm.vrd at h ⊢
  split at h
  · exact h
  · exact h
  · exact h
  · exact h
  · exact h
  · exact h
  · -- buildSlice
    unfold vbuildN at h ⊢
    split at h
    · rename_i hc
      rw [if_pos hc]
      exact h
    rename_i hnn
    rw [if_neg hnn]
    unfold vbuildT at h ⊢
    split at h
    · rename_i hc
      obtain ⟨c1, c2⟩ := hc
      rw [if_pos ⟨c1, U.cl c2⟩]
      unfold vbuildC at h ⊢
      split at h
      case h_2 => cases h
      rename_i e ps he hps
      split at h
      case h_2 => cases h
      rename_i i z qs hi hz hqs
      obtain ⟨h1, h2⟩ := Sub.parts U _ hqs
      rw [h1]
      simp only [hi, hz]
      exact h
    rename_i hnc
    have hnc' : ¬ (T.cb = true ∧ clParts K ρ _ = true) := fun hc => hnc ⟨hc.1, by
      have h' := h
      unfold vbuildSlice at h'
      split at h'
      · rename_i hz
        have : ∀ ps : List (Nat × Operand), ps.isEmpty = true → clParts H ρ ps = true := fun ps hp => by
          cases ps with
          | nil => rfl
          | cons a b => cases hp
        exact this _ hz.2
      unfold vbuildSlice1 at h'
      split at h'
      case h_2 => cases h'
      rename_i e ps he hps
      split at h'
      case h_2 => cases h'
      rename_i i z qs hi hz hqs
      obtain ⟨h1, h2⟩ := Sub.parts U _ hqs
      have hc2 := hc.2
      unfold clParts at hc2 ⊢
      rw [hps] at hc2 ⊢
      dsimp only at hc2 ⊢
      rw [h1, h2] at hc2
      rw [hqs]
      exact hc2⟩
    rw [if_neg hnc']
    unfold vbuildSlice at h ⊢
    split at h
    · rename_i hz
      rw [if_pos hz]
      exact h
    rename_i hz
    rw [if_neg hz]
    unfold vbuildSlice1 at h ⊢
    split at h
    case h_2 => cases h
    rename_i e ps he hps
    split at h
    case h_2 => cases h
    rename_i i z qs hi hz hqs
    obtain ⟨h1, h2⟩ := Sub.parts U _ hqs
    rw [h1, h2]
    simp only [hi, hz]
    exact h
  · split at h
    case h_2 => cases h
    rename_i a ha
    try dsimp only
    unfold vload at h ⊢
    split at h
    case h_2 => cases h
    rename_i cs hb
    rw [U.behind hb]
    exact h
  · split at h
    case h_2 => cases h
    rename_i a ha
    try dsimp only
    unfold vnil at h ⊢
    split at h
    case isFalse => cases h
    rename_i hc
    simp only [Bool.and_eq_true] at hc
    rw [if_pos (by rw [hc.1, U.fresh hc.2]; rfl)]
    exact h
  · split at h
    case h_2 => cases h
    rename_i a b ha hb
    try dsimp only
    unfold vbin at h ⊢
    split at h
    · rename_i hc
      rw [if_pos hc]
      cases hk : Vm.okSl H a with
      | false => rw [hk] at h; cases h
      | true => rw [hk] at h; rw [U.okSl hk]; exact h
    rename_i hc0
    rw [if_neg hc0]
    unfold vbin0 at h ⊢
    split at h
    · rename_i hc
      rw [if_pos ?_]
      · exact h
      · rw [Bool.or_eq_true] at hc ⊢
        rcases hc with hc | hc
        · left
          simp only [Bool.and_eq_true] at hc ⊢
          exact ⟨⟨hc.1.1, U.fresh hc.1.2⟩, hc.2⟩
        · right
          simp only [Bool.and_eq_true] at hc ⊢
          exact ⟨hc.1, hc.2.1, U.fresh hc.2.2⟩
    · split at h
      case h_2 => cases h
      rename_i u v hu hv
      have nos : ∀ {a : AV} {u : Value}, a.sc = some u → isPtr a = false := by
        intro a u h
        cases a with
        | one c => cases c <;> first | (cases h; done) | rfl | skip
                   rename_i x
                   cases x <;> first | rfl | cases h
        | agg l => rfl
        | tup l => rfl
      rw [if_neg (by rw [nos hu, nos hv]; simp)]
      exact h
  · exact h
  · exact h
  · exact h
  · exact h
  · split at h
    case h_2 => cases h
    rename_i a l h' m ha hl hh hm
    try dsimp only
    unfold vslice at h ⊢
    split at h
    · rename_i id o n tot
      try dsimp only
      split at h
      case h_2 => cases h
      rename_i e l2 h2 he hl2 hh2
      split at h
      case h_2 => cases h
      rename_i sz hsz
      dsimp only at h ⊢
      split at h
      case isFalse => cases h
      rename_i hc
      rw [if_pos ⟨U.lenIs hc.1, hc.2.1, hc.2.2.1, hc.2.2.2.1, hc.2.2.2.2.imp (fun h => h) U.elAt⟩]
      exact h
    · exact h
    · rename_i hn1 hn2
      exact h
  · split at h
    case h_2 => cases h
    rename_i a ha
    try dsimp only
    unfold vfieldAddr at h ⊢
    split at h
    case h_2 => cases h
    rename_i fd hf
    split at h
    case h_2 => cases h
    try dsimp only
    unfold shift at h ⊢
    split at h
    · rename_i p
      split at h
      case h_2 => cases h
      rename_i e he
      split at h
      case isFalse => cases h
      rename_i hl
      obtain ⟨e', h1, h2⟩ := U _ _ he
      have : e'.len = e.len := by
        rcases h2 with rfl | rfl
        · rfl
        · exact e.frz_len
      try dsimp only
      rw [h1]
      try dsimp only
      rw [if_pos (by rw [this]; exact hl)]
      exact h
    · exact h
    · cases h
  · exact h
  · split at h
    case h_2 => cases h
    rename_i a b ha hb
    try dsimp only
    unfold vindexAddr at h ⊢
    split at h
    case h_2 => cases h
    rename_i e he
    split at h
    case h_2 => cases h
    rename_i sz k i hsz
    split at h
    case isFalse => cases h
    rename_i h0
    try dsimp only
    rw [if_pos h0]
    split at h
    · rename_i id o n tot
      split at h
      case isFalse => cases h
      rename_i hi
      split at h
      case isFalse => cases h
      rename_i hel
      try dsimp only
      rw [if_pos hi, if_pos (U.elAt hel)]
      exact h
    · exact h
    · cases h
  · exact h
  · exact h
  · rename_i c ho
    try dsimp only
    split at h
    · split at h
      case h_2 => cases h
      rename_i x hx
      split at h
      case h_2 => cases h
      rename_i a ha
      try dsimp only
      unfold vlen at h ⊢
      split at h
      case h_2 => cases h
      rename_i t ht
      split at h
      · rename_i id o n tot
        split at h
        case h_2 => cases h
        split at h
        case isFalse => cases h
        rename_i hl
        try dsimp only
        rw [if_pos (U.lenIs hl)]
        exact h
      · exact h
      · split at h
        case h_2 => cases h
        rename_i q hq
        try dsimp only
        rw [U.mapAt hq]
        exact h
      · exact h
    · exact h
    · exact h
    · split at h
      case h_2 => cases h
      rename_i fv args hf ha
      try dsimp only
      unfold vcall at h ⊢
      split at h
      case h_2 => cases h
      rename_i g cs ks hcal hks
      obtain ⟨h1, h2⟩ := U.calleeOf hcal
      have h3 : mapO (Vm.fza K) args = some ks := mapO_congr hks fun a _ k hk => (U.fza hk).1
      have h4 : (args.map (rcha K)).flatten = (args.map (rcha H)).flatten := by
        congr 1
        refine List.map_congr_left fun a haa => ?_
        obtain ⟨j, hj⟩ := List.getElem?_of_mem haa
        obtain ⟨y, _, hy⟩ := (mapO_spec hks).2 j a hj
        exact (U.fza hy).2
      rw [h1, h3, h2, h4]
      exact h
    · cases h
  · split at h
    case h_2 => cases h
    rename_i a b ha hb
    try dsimp only
    unfold vlookup at h ⊢
    cases hm : Vm.mapAt H a with
    | none => rw [hm] at h; simp at h
    | some q => rw [U.mapAt hm]; rw [hm] at h; exact h
  · cases h
end

end Go.Proofs.Vm
end

section
/- Steps, in the text's order. -/
namespace Go.Proofs.Vm
open Go

variable {P : Program} {X : Cx}

/-- How a function is run: its slots, the functions that share its memory, and whether rows may lie in rows that change. -/
structure Fx where
  N : Nat
  sh : FuncId → Bool
  nest : Bool
  /-- Of a region: which of its operations may stand beside writes (they are read again). -/
  fl : Nat → List Nat

structure St where
  env : Nat → AV
  H : Hp

def putV (N : Fx) (s : St) (d : Option Tmp) (a : AV) : Option St :=
  match d with
  | none => some s
  | some d => if d < N.N then some { s with env := upd s.env d a } else none

def wantV (env : Nat → AV) (ops : Array Oper) (o : Oper) : Option Bool :=
  match o.guard with
  | none => some true
  | some (j, want) => match (ops[j]?).bind (·.dst) with
    | some d => match env d with
      | .one (.c (.v (.bool b))) => some (b == want)
      | .tup [] => some false
      | _ => none
    | none => none

def isWr (P : Program) (N : Fx) (o : Oper) : Bool :=
  match o.op with
  | .store .. => true
  | .makeMap .. => true
  | .mapUpdate .. => true
  | .mapEntry .. => true
  | .entryStore .. => true
  | .convert s d _ => isU8 P s || isU8 P d
  | .call c => match c.callee with
    | .builtin .append => true
    | .builtin .delete => true
    | .builtin .copy => true
    | .builtin .clear => true
    | .value (.func g) => N.sh g
    | _ => false
  | _ => false

def vwr (P : Program) (T : Tab) (N : Fx) (H : Hp) (ρ : Operand → Option AV) (o : Oper) : Option (AV × Hp) :=
  match o.op with
  | .store t a x => match ρ a, ρ x with
    | some a, some x => (vstore P N.nest H t a x).map fun K => (und, K)
    | _, _ => none
  | .makeMap _ none => vmakeMap H
  | .mapUpdate t m k x => match ρ m, ρ k, ρ x with
    | some a, some b, some c => vmapUpdate P H t a b c
    | _, _, _ => none
  | .mapEntry t m k => match ρ m, ρ k with
    | some a, some b => vmapEntry P H t a b
    | _, _ => none
  | .entryStore _ m s x => match ρ m, ρ s, ρ x with
    | some a, some b, some c => ventryStore H a b c
    | _, _, _ => none
  | .convert s d x => match ρ x with
    | some a => vconvW P H s d a
    | none => none
  | .call c => match c.callee, c.args.toList, c.argTypes.toList with
    | .builtin .append, [s, x], [t, tx] => match ρ s, ρ x with
      | some a, some b => vappendN P N.nest H t tx a b
      | _, _ => none
    | .builtin .delete, [m, k], [t, _] => match ρ m, ρ k with
      | some a, some b => vdelete P H t a b
      | _, _ => none
    | .builtin .copy, [m, k], [t, _] => match ρ m, ρ k with
      | some a, some b => vcopy P H t a b
      | _, _ => none
    | .builtin .clear, [m], [t] => match ρ m with
      | some a => vclear P H t a
      | none => none
    | .value (.func g), _, _ => if N.sh g then match mapO ρ c.args.toList with
      | some args => T.S g args H
      | none => none
      else none
    | _, _, _ => none
  | _ => none

def stepV (P : Program) (T : Tab) (N : Fx) (ops : Array Oper) (o : Oper) (s : St) : Option St :=
  match wantV s.env ops o with
  | some false => putV N s o.dst und
  | some true =>
    if isWr P N o then match vwr P T N s.H (evo s.env) o with
      | some (a, K) => putV N { s with H := K } o.dst a
      | none => none
    else match vrd P T N.nest s.H s.H.length (evo s.env) o with
      | some (a, news, ms) => putV N { s with H := frzAll (s.H ++ news) ms } o.dst a
      | none => none
  | none => none

def runV (P : Program) (T : Tab) (N : Fx) (ops : Array Oper) : List Oper → St → Option St
  | [], s => some s
  | o :: r, s => match stepV P T N ops o s with
    | some s' => runV P T N ops r s'
    | none => none

/-- The machine's frame beside the value machine's. -/
structure Rel (X : Cx) (N : Fx) (s : St) (act : Act) : Prop where
  H : X.H = s.H
  D : ∀ id, X.D id ↔ id < s.H.length
  size : act.tmps.size = N.N
  env : ∀ k, RA X (s.env k) (act.tmps.getD k undef)
  defers : act.defers = []

theorem und_ra (X : Cx) : RA X und undef := ⟨[], rfl, rfl, fun j p y hp => by simp at hp⟩

theorem evo_sound {env : Nat → AV} {act : Act} (h : ∀ k, RA X (env k) (act.tmps.getD k undef)) (x : Operand) (a : AV) (hx : evo env x = some a) : RA X a (act.eval x) := by
  unfold evo at hx
  split at hx
  · cases hx
    exact h _
  · rename_i cs
    split at hx
    case isFalse => cases hx
    rename_i h1
    cases hx
    refine ⟨cs.toList, by simp [Act.eval], by simp, fun j c y hc hy => ?_⟩
    rw [List.getElem?_map, hy] at hc
    cases hc
    exact nrm_rc (List.all_eq_true.1 h1 y (List.mem_of_getElem? hy))
  · cases hx
  · rename_i x h1 h2
    cases hx
    refine .v x ?_
    cases x <;> first | rfl | (exact absurd rfl (h1 _)) | (exact absurd rfl (h2 _))
  · cases hx
    exact ⟨[], rfl, rfl, fun j x y hx => by simp at hx⟩
  · cases hx

theorem getD_put {act : Act} {d : Option Tmp} {v : Value} {k : Nat} : (act.put d v).tmps.getD k undef = if d = some k ∧ k < act.tmps.size then v else act.tmps.getD k undef := by
  cases d with
  | none => simp [Act.put]
  | some d =>
    simp only [Act.put, Option.some.injEq]
    by_cases h : d = k
    · subst h
      by_cases hl : d < act.tmps.size
      · simp [hl]
      · simp [hl]
    · simp only [h, false_and, if_false]
      simp only [Array.getD_eq_getD_getElem?]
      rw [Array.getElem?_setIfInBounds_ne h]

theorem put_size {act : Act} {d : Option Tmp} {v : Value} : (act.put d v).tmps.size = act.tmps.size := by cases d <;> simp [Act.put]
theorem put_defers {act : Act} {d : Option Tmp} {v : Value} : (act.put d v).defers = act.defers := by cases d <;> rfl

theorem Rel.put {Y : Cx} {N : Fx} {s s' s'' : St} {act : Act} {d : Option Tmp} {a : AV} {v : Value} (R : Rel X N s act) (N1 : Nxt X Y) (hs : s''.env = s.env) (h : putV N s'' d a = some s') (hH : Y.H = s''.H) (hD : ∀ id, Y.D id ↔ id < s''.H.length)
    (hr : RA Y a v) : Rel Y N s' (act.put d v) := by
  have henv : ∀ k, RA Y (s''.env k) (act.tmps.getD k undef) := fun k => by rw [hs]; exact N1.ra _ _ (R.env k)
  cases d with
  | none =>
    cases h
    exact ⟨hH, hD, R.size, henv, R.defers⟩
  | some d =>
    unfold putV at h
    dsimp only at h
    split at h
    case isFalse => cases h
    rename_i hd
    cases h
    refine ⟨hH, hD, by rw [put_size]; exact R.size, fun k => ?_, by rw [put_defers]; exact R.defers⟩
    rw [getD_put]
    by_cases hk : d = k
    · subst hk
      rw [if_pos ⟨rfl, by rw [R.size]; exact hd⟩]
      show RA Y (upd s''.env d a d) v
      simp only [upd, if_true]
      exact hr
    · rw [if_neg (fun h => hk (by cases h.1; rfl))]
      show RA Y (upd s''.env d a k) _
      simp only [upd]
      rw [if_neg (fun e => hk e.symm)]
      exact henv k

theorem want_sound {env : Nat → AV} {act : Act} (h : ∀ k, RA X (env k) (act.tmps.getD k undef)) {ops : Array Oper} {o : Oper} {b : Bool} (hw : wantV env ops o = some b) : Region.wanted o (yielded ops act.tmps) = b := by
  unfold wantV at hw
  unfold Region.wanted
  split at hw
  · rename_i hg
    cases hw
    rw [hg]
  · rename_i j want hg
    rw [hg]
    dsimp only
    split at hw
    case h_2 => cases hw
    rename_i d hd
    have hy : yielded ops act.tmps j = match act.tmps[d]? with | some (.bool b) => some b | _ => none := by
      unfold yielded
      rw [hd]
      rfl
    rw [hy]
    have hr := h d
    have hget : act.tmps.getD d undef = (act.tmps[d]?).getD undef := by simp
    split at hw
    · rename_i b' hb
      cases hw
      rw [hb] at hr
      generalize hq : act.tmps.getD d undef = q at hr
      cases hr
      rw [hget] at hq
      cases hx : act.tmps[d]? with
      | none => rw [hx] at hq; cases hq
      | some z =>
        rw [hx] at hq
        simp at hq
        subst hq
        cases b' <;> cases want <;> rfl
    · rename_i hb
      cases hw
      rw [hb] at hr
      obtain ⟨vs, h1, h2, _⟩ := hr
      have hvs : vs = [] := List.eq_nil_of_length_eq_zero h2.symm
      subst hvs
      rw [hget] at h1
      cases hx : act.tmps[d]? with
      | none => rfl
      | some z =>
        rw [hx] at h1
        simp at h1
        subst h1
        rfl
    · cases hw

theorem sub_append (H news : Hp) : Sub H (H ++ news) := fun id e he => ⟨e, by rw [List.getElem?_append_left (List.getElem?_eq_some_iff.1 he).1]; exact he, .inl rfl⟩

theorem sub_frz (H : Hp) (ms : List Nat) : Sub H (frzAll H ms) := fun id e he => by
  rw [frzAll_get, he]
  split
  · exact ⟨_, rfl, .inr rfl⟩
  · exact ⟨_, rfl, .inl rfl⟩

theorem Le.trans {a b c : Ent} (h : Le a b) (g : Le b c) : Le a c := by
  have ff : ∀ e : Ent, e.frz.frz = e.frz := fun e => by cases e <;> rfl
  rcases h with rfl | rfl <;> rcases g with rfl | rfl
  · exact .inl rfl
  · exact .inr rfl
  · exact .inr rfl
  · exact .inr (ff a)

theorem Sub.trans {H K L : Hp} (h : Sub H K) (g : Sub K L) : Sub H L := fun id e he => by
  obtain ⟨e1, h1, h2⟩ := h id e he
  obtain ⟨e2, g1, g2⟩ := g id e1 h1
  exact ⟨e2, g1, h2.trans g2⟩

theorem vwr_does {X : Cx} {T : Tab} {N : Fx} (hT : TOk P T) (S : SR X) (M : Dom X) (hDX : ∀ id, X.D id ↔ id < X.H.length) {ρ : Operand → Option AV} {act : Act} (hρ : ∀ x a, ρ x = some a → RA X a (act.eval x)) {o : Oper} {a : AV} {L : Hp} (hv : vwr P T N X.H ρ o = some (a, L)) :
    X.H.length ≤ L.length ∧ ∀ (K : Act → World → Prop) (Q : Exit → Act → World → Prop), (∀ v Y, Nxt X Y → Y.H = L → (∀ id, Y.D id ↔ id < L.length) → RA Y a v → K (act.put o.dst v) Y.w) → o.wp P act X.w K Q := by
  unfold vwr at hv
  split at hv
  · rename_i t a' x' ho
    split at hv
    case h_2 => cases hv
    rename_i b c hb hc
    obtain ⟨H', hst, he⟩ := Option.map_eq_some_iff.1 hv
    obtain ⟨rfl, rfl⟩ : und = a ∧ H' = L := by cases he; exact ⟨rfl, rfl⟩
    clear he
    have hlen := vstore_len hst
    obtain ⟨Y, hrun, hN, hYH, hYD⟩ := vstore_does S M hst (hρ a' b hb) (hρ x' c hc)
    refine ⟨Nat.le_of_eq hlen.symm, fun K Q hK => ?_⟩
    unfold Oper.wp
    have he : (execOp act.eval o).run P X.w = .ok .skip Y.w := by simp [execOp, ho, hrun]
    rw [he, Oper.upon_skip]
    exact hK undef Y hN hYH (fun id => by rw [hYD, hDX, hlen]) (und_ra Y)
  · rename_i t ho
    obtain ⟨h1, v, Y, hrun, hN, hYH, hYD, hr⟩ := vmakeMap_does (P := P) (t := t) S M hDX hv
    refine ⟨h1, fun K Q hK => ?_⟩
    unfold Oper.wp
    have he : (execOp act.eval o).run P X.w = .ok (.value v) Y.w := by simp [execOp, ho, hrun]
    rw [he, Oper.upon_value]
    exact hK v Y hN hYH hYD hr
  · rename_i t m k x ho
    split at hv
    case h_2 => cases hv
    rename_i b c d hb hc hd
    obtain ⟨h1, h2, Y, hrun, hN, hYH, hYD⟩ := vmapUpdate_does S M hDX hv (hρ m b hb) (hρ k c hc) (hρ x d hd)
    refine ⟨h1, fun K Q hK => ?_⟩
    unfold Oper.wp
    have he : (execOp act.eval o).run P X.w = .ok .skip Y.w := by simp [execOp, ho, hrun]
    rw [he, Oper.upon_skip]
    refine hK undef Y hN hYH hYD ?_
    simp only at h2
    rw [h2]
    exact und_ra Y
  · rename_i t x i ho
    split at hv
    case h_2 => cases hv
    rename_i b c hb hc
    obtain ⟨h1, v, Y, hrun, hN, hYH, hYD, hr⟩ := vmapEntry_does S M hDX hv (hρ x b hb) (hρ i c hc)
    refine ⟨h1, fun K Q hK => ?_⟩
    unfold Oper.wp
    have he : (execOp act.eval o).run P X.w = .ok (.value v) Y.w := by simp [execOp, ho, hrun]
    rw [he, Oper.upon_value]
    exact hK v Y hN hYH hYD hr
  · rename_i t m k x ho
    split at hv
    case h_2 => cases hv
    rename_i b c d hb hc hd
    obtain ⟨h1, h2, Y, hrun, hN, hYH, hYD⟩ := ventryStore_does (P := P) (t := t) S M hDX hv (hρ m b hb) (hρ k c hc) (hρ x d hd)
    refine ⟨h1, fun K Q hK => ?_⟩
    unfold Oper.wp
    have he : (execOp act.eval o).run P X.w = .ok .skip Y.w := by simp [execOp, ho, hrun]
    rw [he, Oper.upon_skip]
    refine hK undef Y hN hYH hYD ?_
    simp only at h2
    rw [h2]
    exact und_ra Y
  · rename_i s d x ho
    split at hv
    case h_2 => cases hv
    rename_i b hb
    obtain ⟨h1, v, Y, hrun, hN, hYH, hYD, hr⟩ := vconvW_does S M hDX hv (hρ x b hb)
    refine ⟨h1, fun K Q hK => ?_⟩
    unfold Oper.wp
    have he : (execOp act.eval o).run P X.w = .ok (.value v) Y.w := by simp [execOp, ho, hrun]
    rw [he, Oper.upon_value]
    exact hK v Y hN hYH hYD hr
  · rename_i c ho
    split at hv
    · rename_i s0 x0 t tx hc ha ht
      split at hv
      case h_2 => cases hv
      rename_i b b' hb hb'
      have hlen := vappendN_len hv
      obtain ⟨y, Y, hrun, hN, hYH, hYD, hr⟩ := vappendN_does (ty := o.type) S M hv (hρ s0 b hb) (hρ x0 b' hb')
      refine ⟨Nat.le_of_eq hlen.symm, fun K Q hK => ?_⟩
      unfold Oper.wp
      have hargs : c.args.map act.eval = #[act.eval s0, act.eval x0] := by
        apply Array.ext'
        simp [ha]
      have htys : c.argTypes = #[t, tx] := by
        apply Array.ext'
        simp [ht]
      have he : (execOp act.eval o).run P X.w = .ok (.value y) Y.w := by simp [execOp, ho, resolve, hc, invoke, builtin, hargs, htys, hrun]
      rw [he, Oper.upon_value]
      exact hK y Y hN hYH (fun id => by rw [hYD, hDX]; simp only at hlen; rw [hlen]) hr
    · rename_i m0 k0 t t' hc ha ht
      split at hv
      case h_2 => cases hv
      rename_i b b' hb hb'
      obtain ⟨h1, v, Y, hrun, hN, hYH, hYD, hr⟩ := vdelete_does (t' := t') (ty := o.type) S M hDX hv (hρ m0 b hb) (hρ k0 b' hb')
      refine ⟨h1, fun K Q hK => ?_⟩
      unfold Oper.wp
      have hargs : c.args.map act.eval = #[act.eval m0, act.eval k0] := by
        apply Array.ext'
        simp [ha]
      have htys : c.argTypes = #[t, t'] := by
        apply Array.ext'
        simp [ht]
      have he : (execOp act.eval o).run P X.w = .ok (.value v) Y.w := by simp [execOp, ho, resolve, hc, invoke, builtin, hargs, htys, hrun]
      rw [he, Oper.upon_value]
      exact hK v Y hN hYH hYD hr
    · rename_i m0 k0 t t' hc ha ht
      split at hv
      case h_2 => cases hv
      rename_i b b' hb hb'
      obtain ⟨h1, v, Y, hrun, hN, hYH, hYD, hr⟩ := vcopy_does (t' := t') (ty := o.type) S M hDX hv (hρ m0 b hb) (hρ k0 b' hb')
      refine ⟨h1, fun K Q hK => ?_⟩
      unfold Oper.wp
      have hargs : c.args.map act.eval = #[act.eval m0, act.eval k0] := by
        apply Array.ext'
        simp [ha]
      have htys : c.argTypes = #[t, t'] := by
        apply Array.ext'
        simp [ht]
      have he : (execOp act.eval o).run P X.w = .ok (.value v) Y.w := by simp [execOp, ho, resolve, hc, invoke, builtin, hargs, htys, hrun]
      rw [he, Oper.upon_value]
      exact hK v Y hN hYH hYD hr
    · rename_i m0 t hc ha ht
      split at hv
      case h_2 => cases hv
      rename_i b hb
      obtain ⟨h1, v, Y, hrun, hN, hYH, hYD, hr⟩ := vclear_does (ty := o.type) S M hDX hv (hρ m0 b hb)
      refine ⟨h1, fun K Q hK => ?_⟩
      unfold Oper.wp
      have hargs : c.args.map act.eval = #[act.eval m0] := by
        apply Array.ext'
        simp [ha]
      have htys : c.argTypes = #[t] := by
        apply Array.ext'
        simp [ht]
      have he : (execOp act.eval o).run P X.w = .ok (.value v) Y.w := by simp [execOp, ho, resolve, hc, invoke, builtin, hargs, htys, hrun]
      rw [he, Oper.upon_value]
      exact hK v Y hN hYH hYD hr
    · rename_i g hc
      split at hv
      case isFalse => cases hv
      split at hv
      case h_2 => cases hv
      rename_i args hargs
      obtain ⟨h1, h2, h3⟩ := hT.2 _ _ _ _ _ hv
      refine ⟨h1.1, fun K Q hK => ?_⟩
      unfold Oper.wp
      have hrun : (execOp act.eval o).run P X.w = .ok (.enter g (c.args.toList.map act.eval).toArray) X.w := by
        simp only [execOp, ho, resolve, hc, Act.eval, Deferred.ofValue, Sem.run_bind, Sem.run_pure, Result.andThen_ok, invoke]
        rw [h2.run]
        congr 2
        apply Array.ext'
        simp
      rw [hrun]
      show Calls P g _ X.w _
      refine (h3 X S M rfl hDX _ (mapO_ras hρ hargs)).mono fun e w' he => ?_
      obtain ⟨v, Y, rfl, rfl, k1, k2, k3, k4⟩ := he
      exact hK v Y k1 k2 k3 k4
    · cases hv
  · cases hv

theorem frzAll_length (ms : List Nat) : ∀ H : Hp, (frzAll H ms).length = H.length := by
  induction ms with
  | nil => intro H; rfl
  | cons m r ih => intro H; show (frzAll (H.modify m Ent.frz) r).length = _; rw [ih]; simp

theorem step_seq {T : Tab} (hT : TOk P T) (S : SR X) (M : Dom X) {N : Fx} {s s' : St} {act : Act} (R : Rel X N s act) {ops : Array Oper} {o : Oper} {i : Nat} (hi : ops[i]? = some o) (h : stepV P T N ops o s = some s')
    {K : Act → World → Prop} {Q : Exit → Act → World → Prop} (hK : ∀ Y act', Nxt X Y → Rel Y N s' act' → K act' Y.w) : wpOp P ops Q i K act X.w := by
  unfold wpOp
  rw [hi]
  dsimp only
  unfold stepV at h
  split at h
  · -- not wanted
    rename_i hw
    rw [want_sound R.env hw, if_neg (by simp)]
    exact hK X _ (.refl S M) (R.put (.refl S M) rfl h R.H R.D (und_ra X))
  · rename_i hw
    rw [want_sound R.env hw, if_pos rfl]
    have hρ := evo_sound R.env
    left
    split at h
    · split at h
      case h_2 => cases h
      rename_i a K' hv
      rw [← R.H] at hv
      obtain ⟨_, hdo⟩ := vwr_does hT S M (fun id => by rw [R.D, R.H]) hρ hv
      exact hdo K Q fun v Y hN hYH hYD hr => hK Y _ hN (R.put (s'' := { s with H := K' }) hN rfl h hYH hYD hr)
    · split at h
      case h_2 => cases h
      rename_i a news ms hv
      -- the heap grows, and some of it is given up
      have hK1 : ∀ (id : Nat) e, X.H[id]? = some e → (s.H ++ news)[id]? = some e := fun id e he => by
        rw [R.H] at he
        rw [List.getElem?_append_left (List.getElem?_eq_some_iff.1 he).1]
        exact he
      have N1 := longer_nxt S M hK1
      have F := frozeOf_is (longer X (s.H ++ news)) ms
      have N2 := F.nxt N1.sr N1.dom
      have N12 := N1.trans N2
      let X2 := frozeOf (longer X (s.H ++ news)) ms
      have hX2 : X2.H = frzAll (s.H ++ news) ms := rfl
      have U : Sub s.H X2.H := (sub_append s.H news).trans (sub_frz _ ms)
      have hv2 := U.vrd hv
      have hρ2 : ∀ x b, evo s.env x = some b → RA X2 b (act.eval x) := fun x b hb => N12.ra _ _ (hρ x b hb)
      have hD2 : ∀ id, X2.D id ↔ id < s.H.length := R.D
      refine vrd_does hT.1 N12.sr N12.dom hρ2 hv2 (fun k e hk => ⟨fun hd => ?_, ?_⟩) (F.given N1.dom) K Q fun v Y hY hr => ?_
      · have := (hD2 _).1 hd
        omega
      · have hk' : (s.H ++ news)[s.H.length + k]? = some e := by
          rw [List.getElem?_append_right (by omega)]
          simpa using hk
        exact sub_frz _ ms _ _ hk'
      · have NY := N12.trans (hY.nxt N12.sr)
        refine hK Y _ NY (R.put (s'' := { s with H := frzAll (s.H ++ news) ms }) NY rfl h hY.ext.H (fun id => ?_) hr)
        have hnl : (a, news, ms).2.1.length = news.length := rfl
        rw [hY.D, hD2, frzAll_length, List.length_append]
        omega
  · cases h

end Go.Proofs.Vm
end

section
/- Code and functions, where no statement's order is open. -/
namespace Go.Proofs.Vm
open Go

variable {P : Program} {X : Cx}

inductive Ex where
  | normal
  | exit (id : Nat)
  | ret

def Ex.go : Ex → Exit
  | .normal => .normal
  | .exit id => .exit id
  | .ret => .ret

def iter : Nat → (St → Option (Ex × St)) → St → Option (Ex × St)
  | 0, _, _ => none
  | n + 1, f, s => match f s with
    | some (.normal, s') => iter n f s'
    | r => r

/-! regions in which reads stand beside writes: they are read again at each write, and must tell the same -/
def late (T : Tab) : Tab := ⟨T.pu, T.S, true⟩
theorem TOk.late {T : Tab} (h : TOk P T) : TOk P (late T) := ⟨fun f a r hr => h.1 f a r hr, fun f a H r K hr => h.2 f a H r K hr⟩
def lateOp (o : Oper) : Bool := match o.op with
  | .load .. => true
  | .indexAddr .. => true
  | .fieldAddr .. => true
  | .buildSlice .. => true
  | _ => false
abbrev LateR := Oper × (Nat → AV) × Nat × AV
def okRs (P : Program) (T : Tab) (nest : Bool) (H : Hp) : List LateR → Prop
  | [] => True
  | x :: l => vrd P T nest H x.2.2.1 (evo x.2.1) x.1 = some (x.2.2.2, [], []) ∧ okRs P T nest H l
def okHs (P : Program) (T : Tab) (nest : Bool) (o : Oper) (e : Nat → AV) (nid : Nat) (a : AV) : List Hp → Prop
  | [] => True
  | h :: l => vrd P T nest h nid (evo e) o = some (a, [], []) ∧ okHs P T nest o e nid a l
open Classical in
noncomputable def runW (P : Program) (T : Tab) (N : Fx) (ops : Array Oper) (fl : List Nat) : Nat → List Oper → List Hp → List LateR → St → Option St
  | _, [], _, rs, s => if okRs P T N.nest s.H rs then some s else none
  | i, o :: os, hs, rs, s =>
    if i ∈ fl then
      if lateOp o = true then match wantV s.env ops o with
        | some false => match putV N s o.dst und with
          | some s' => runW P T N ops fl (i + 1) os hs rs s'
          | none => none
        | some true => match vrd P T N.nest s.H s.H.length (evo s.env) o with
          | some (a, [], []) => if okHs P T N.nest o s.env s.H.length a hs then (match putV N s o.dst a with
            | some s' => runW P T N ops fl (i + 1) os hs ((o, s.env, s.H.length, a) :: rs) s'
            | none => none) else none
          | _ => none
        | none => none
      else none
    else if isWr P N o = true then
      if okRs P T N.nest s.H rs then match stepV P T N ops o s with
        | some s' => runW P T N ops fl (i + 1) os (s.H :: hs) rs s'
        | none => none
      else none
    else match stepV P T N ops o s with
      | some s' => runW P T N ops fl (i + 1) os hs rs s'
      | none => none
noncomputable def runR (P : Program) (T : Tab) (N : Fx) (id : Nat) (ops : Array Oper) (s : St) : Option St :=
  if N.fl id = [] then runV P T N ops ops.toList s else runW P (late T) N ops (N.fl id) 0 ops.toList [] [] s
noncomputable def vcode (P : Program) (T : Tab) (N : Fx) (n : Nat) : Code → St → Option (Ex × St)
  | .skip, s => some (.normal, s)
  | .region id ops _, s => match runR P T N id ops s with
    | some s' => some (.normal, s')
    | none => none
  | .seq a b, s => match vcode P T N n a s with
    | some (.normal, s') => vcode P T N n b s'
    | r => r
  | .cond c x y, s => match evo s.env c with
    | some (.one (.c (.v (.bool t)))) => if t then vcode P T N n x s else vcode P T N n y s
    | _ => none
  | .block id c, s => match vcode P T N n c s with
    | some (.exit k, s') => if k = id then some (.normal, s') else some (.exit k, s')
    | r => r
  | .loop c, s => iter n (vcode P T N n c) s
  | .exit id, s => some (.exit id, s)
  | .ret, s => some (.ret, s)
  | _, _ => none

/-- What is shown of a region whose order is open. -/
def OpenOk (P : Program) (N : Fx) (id : Nat) (ops : Array Oper) : Prop :=
  ∀ (T : Tab) (X : Cx) (s s' : St) (act : Act) (Q : Exit → Act → World → Prop), TOk P T → SR X → Dom X → Rel X N s act → runR P T N id ops s = some s' →
    (∀ Y act', Nxt X Y → Rel Y N s' act' → Q .normal act' Y.w) → (Code.region id ops true).wp P Q act X.w

/-- All regions of a code whose order is open are shown. -/
def CodeOk (P : Program) (N : Fx) : Code → Prop
  | .region id ops true => OpenOk P N id ops
  | .region id _ false => N.fl id = []
  | .seq a b => CodeOk P N a ∧ CodeOk P N b
  | .cond _ x y => CodeOk P N x ∧ CodeOk P N y
  | .block _ c => CodeOk P N c
  | .loop c => CodeOk P N c
  | _ => True

theorem run_seq {T : Tab} (hT : TOk P T) {N : Fx} {ops : Array Oper} {Q : Exit → Act → World → Prop} : ∀ (l : List Nat) {X : Cx} {s s' : St} {act : Act}, SR X → Dom X → Rel X N s act → (∀ i ∈ l, i < ops.size) →
    runV P T N ops (l.map fun i => (ops[i]?).getD default) s = some s' → (∀ Y act', Nxt X Y → Rel Y N s' act' → Q .normal act' Y.w) → wpOps P ops Q l act X.w
  | [], X, s, s', act, S, M, R, _, h, hQ => by
    cases h
    exact hQ X act (.refl S M) R
  | i :: r, X, s, s', act, S, M, R, hl, h, hQ => by
    rw [wpOps_cons]
    have hi : ops[i]? = some ((ops[i]?).getD default) := by
      rw [Array.getElem?_eq_getElem (hl i (by simp))]
      rfl
    simp only [List.map_cons, runV] at h
    split at h
    case h_2 => cases h
    rename_i s1 h1
    refine step_seq hT S M R hi h1 fun Y act' hN hR => ?_
    exact run_seq hT r hN.sr hN.dom hR (fun j hj => hl j (by simp [hj])) h fun Z act'' h2 h3 => hQ Z act'' (hN.trans h2) h3

theorem code_sound {T : Tab} (hT : TOk P T) {N : Fx} {n : Nat} : ∀ (c : Code) {X : Cx} {s s' : St} {ex : Ex} {act : Act} {Q : Exit → Act → World → Prop}, CodeOk P N c → SR X → Dom X → Rel X N s act →
    vcode P T N n c s = some (ex, s') → (∀ Y act', Nxt X Y → Rel Y N s' act' → Q ex.go act' Y.w) → c.wp P Q act X.w := by
  intro c
  induction c with
  | skip =>
    intro X s s' ex act Q _ S M R h hQ
    cases h
    exact wp_skip (hQ X act (.refl S M) R)
  | region id ops draw =>
    intro X s s' ex act Q hc S M R h hQ
    simp only [vcode] at h
    split at h
    case h_2 => cases h
    rename_i s1 h1
    cases h
    cases draw with
    | true => exact hc T X s s' act Q hT S M R h1 hQ
    | false =>
      have hc : N.fl id = [] := hc
      unfold runR at h1
      rw [if_pos hc] at h1
      refine wp_region (run_seq hT _ S M R (fun i hi => by simpa using hi) ?_ hQ)
      have : (List.range ops.size).map (fun i => (ops[i]?).getD default) = ops.toList := by
        apply List.ext_getElem?
        intro j
        rw [List.getElem?_map]
        by_cases hj : j < ops.size
        · rw [List.getElem?_range hj]
          simp [hj]
        · rw [List.getElem?_eq_none (by simp; omega), List.getElem?_eq_none (by simp; omega)]
          rfl
      rw [this]
      exact h1
  | seq a b iha ihb =>
    intro X s s' ex act Q hc S M R h hQ
    simp only [vcode] at h
    refine wp_seq ?_
    split at h
    · rename_i s1 h1
      refine iha hc.1 S M R h1 fun Y act' hN hR => ?_
      exact ihb hc.2 hN.sr hN.dom hR h fun Z act'' h2 h3 => hQ Z act'' (hN.trans h2) h3
    · rename_i h1
      refine iha hc.1 S M R h fun Y act' hN hR => ?_
      have := hQ Y act' hN hR
      cases ex with
      | normal => exact absurd h (h1 _)
      | exit id => exact this
      | ret => exact this
  | cond c x y ihx ihy =>
    intro X s s' ex act Q hc S M R h hQ
    simp only [vcode] at h
    split at h
    case h_2 => cases h
    rename_i t ht
    have hv := evo_sound R.env c _ ht
    have hv' : act.eval c = .bool t := by
      generalize act.eval c = q at hv
      cases hv
      rfl
    cases t with
    | true => exact wp_cond_true hv' (ihx hc.1 S M R h hQ)
    | false => exact wp_cond_false hv' (ihy hc.2 S M R h hQ)
  | block id c ih =>
    intro X s s' ex act Q hc S M R h hQ
    simp only [vcode] at h
    refine wp_block ?_
    split at h
    · rename_i k s1 h1
      refine ih hc S M R h1 fun Y act' hN hR => ?_
      show (if k = id then _ else _)
      split at h
      · rename_i hk
        cases h
        rw [if_pos hk]
        exact hQ Y act' hN hR
      · rename_i hk
        cases h
        rw [if_neg hk]
        exact hQ Y act' hN hR
    · rename_i h1
      refine ih hc S M R h fun Y act' hN hR => ?_
      have := hQ Y act' hN hR
      cases ex with
      | normal => exact this
      | exit k => exact absurd h (h1 _ _)
      | ret => exact this
  | loop c ih =>
    intro X s s' ex act Q hc S M R h hQ
    simp only [vcode] at h
    refine wp_loop_rounds n ?_
    have key : ∀ (k : Nat) {X : Cx} {s : St} {act : Act}, SR X → Dom X → Rel X N s act → iter k (vcode P T N n c) s = some (ex, s') → (∀ Y act', Nxt X Y → Rel Y N s' act' → Q ex.go act' Y.w) → Code.rounds P c Q k act X.w := by
      intro k
      induction k with
      | zero => intro X s act S M R h; cases h
      | succ k ihk =>
        intro X s act S M R h hQ
        rw [rounds_succ]
        simp only [iter] at h
        split at h
        · rename_i s1 h1
          refine ih hc S M R h1 fun Y act' hN hR => ?_
          exact ihk hN.sr hN.dom hR h fun Z act'' h2 h3 => hQ Z act'' (hN.trans h2) h3
        · rename_i h1
          refine ih hc S M R h fun Y act' hN hR => ?_
          have := hQ Y act' hN hR
          cases ex with
          | normal => exact absurd h (h1 _)
          | exit id => exact this
          | ret => exact this
    exact key n S M R h hQ
  | exit id =>
    intro X s s' ex act Q _ S M R h hQ
    cases h
    exact wp_exit (hQ X act (.refl S M) R)
  | ret =>
    intro X s s' ex act Q _ S M R h hQ
    cases h
    exact wp_ret (hQ X act (.refl S M) R)
  | rangeFunc f params assign body _ _ => intro X s s' ex act Q _ S M R h; cases h
  | scope body _ => intro X s s' ex act Q _ S M R h; cases h
  | label l => intro X s s' ex act Q _ S M R h; cases h
  | goto l => intro X s s' ex act Q _ S M R h; cases h
  | refuse why => intro X s s' ex act Q _ S M R h; cases h

/-- A function's results. -/
def vres (P : Program) (s : St) : ResultVar → Option AV
  | .tmp t => some (s.env t)
  | .cell a t => match vload P s.H t (s.env a) with
    | some (b, [], []) => some b
    | _ => none

def comps : List AV → Option (List (Bool × List Cell))
  | [] => some []
  | a :: r => match comps r with
    | some l => match a with
      | .one c => some ((false, [c]) :: l)
      | .agg cs => some ((true, cs) :: l)
      | .tup _ => none
    | none => none

def join (l : List AV) : Option AV :=
  match l with
  | [a] => some a
  | l => (comps l).map .tup

def env0 (args : List CA) : Nat → AV := fun k => match args[k]? with | some a => a.av | none => und

/-- What a function comes to. -/
noncomputable def vfun (P : Program) (T : Tab) (N : Fx) (n : Nat) (fn : Func) (args : List CA) : Option CA :=
  match fn.body with
  | some c => if args.length ≤ fn.ntmps ∧ N.N = fn.ntmps then
      match vcode P T N n c ⟨env0 args, []⟩ with
      | some (.exit _, _) => none
      | some (_, s) => match mapO (vres P s) fn.results.toList with
        | some l => match join l with
          | some a => fza s.H a
          | none => none
        | none => none
      | none => none
    else none
  | none => none

def resSem (tmps : Array Value) : ResultVar → Sem Value
  | .tmp t => pure (tmps.getD t undef)
  | .cell a t => do loadVar t (← asAddr (tmps.getD a undef))

theorem results_eq (fn : Func) (tmps : Array Value) : results fn tmps = (do
    let vs ← fn.results.mapM (resSem tmps)
    pure (if h : vs.size = 1 then vs[0] else .tuple vs)) := by
  unfold results
  congr 1

theorem res_run {s : St} {act : Act} {N : Fx} (S : SR X) (M : Dom X) (R : Rel X N s act) : ∀ {l : List ResultVar} {ags : List AV}, mapO (vres P s) l = some ags →
    ∃ vs : List Value, (l.mapM (resSem act.tmps)).run P X.w = .ok vs X.w ∧ RAs X ags vs
  | [], ags, h => by
    cases h
    exact ⟨[], rfl, rfl, fun j a v h => by simp at h⟩
  | x :: r, ags, h => by
    unfold mapO at h
    split at h
    case h_2 => cases h
    rename_i y l hy hl
    cases h
    obtain ⟨vs, h1, h2⟩ := res_run S M R hl
    have key : ∃ v, (resSem act.tmps x).run P X.w = .ok v X.w ∧ RA X y v := by
      cases x with
      | tmp t =>
        cases hy
        exact ⟨_, rfl, R.env t⟩
      | cell a t =>
        simp only [vres] at hy
        split at hy
        case h_2 => cases hy
        rename_i b hb
        obtain rfl : b = y := by cases hy; rfl
        clear hy
        rw [← R.H] at hb
        have hv := R.env a
        obtain ⟨v, Y, e1, e2, e3⟩ := vload_does (P := P) (nid := 0) S M hb hv (fun k e hk => by simp at hk) (fun id hi => by cases hi)
        have hbh : ∃ cs, behind X.H (s.env a) = some cs := by
          unfold vload at hb
          split at hb
          · exact ⟨_, by assumption⟩
          · cases hb
        obtain ⟨cs, hcs⟩ := hbh
        obtain ⟨bb, o, us, hp, _, _⟩ := behind_sound S hcs hv
        rw [hp] at e1
        -- a load leaves the world ags it is
        have hsame : ∃ v', (Instr.loadAt t (.pointer (some ⟨bb, o, none⟩))).run P X.w = .ok v' X.w ∧ RA X b v' := by
          rw [hp] at hv
          unfold vload at hb
          rw [hcs] at hb
          dsimp only at hb
          obtain ⟨b', o', us', hp', hr', hc'⟩ := behind_sound S hcs hv
          cases hp'
          split at hb
          · rename_i ht
            split at hb
            case h_2 => cases hb
            rename_i n hn
            split at hb
            case isFalse => cases hb
            rename_i hle
            cases hb
            have hvs : n ≤ us'.length := by rw [← hr'.1]; exact hle
            refine ⟨.agg (us'.take n).toArray, ?_, us'.take n, rfl, hr'.take n⟩
            have hl := run_loadCells_list (P := P) X.w ⟨bb, o, none⟩ (us'.take n) (fun j y hy => by
              rw [add_plain]
              rw [List.getElem?_take] at hy
              split at hy
              · exact hc' j y hy
              · cases hy)
            rw [List.length_take, Nat.min_eq_left hvs] at hl
            simp [Instr.loadAt, Instr.sureAddr, loadVar, pv_run ht, pv_run hn, hl]
          · rename_i ht
            split at hb
            case h_2 => cases hb
            rename_i c r' 
            cases hb
            cases us' with
            | nil => simp [RCells] at hr'
            | cons y r'' =>
              refine ⟨y, ?_, hr'.2 0 _ y rfl rfl⟩
              have := hc' 0 y rfl
              simp only [Nat.add_zero] at this
              simp [Instr.loadAt, Instr.sureAddr, loadVar, pv_run ht, this]
          · cases hb
        obtain ⟨v', f1, f2⟩ := hsame
        refine ⟨v', ?_, f2⟩
        show (do loadVar t (← asAddr (act.tmps.getD a undef)) : Sem Value).run P X.w = _
        rw [hp]
        simpa [Instr.loadAt, Instr.sureAddr, asAddr] using f1
    obtain ⟨v, k1, k2⟩ := key
    refine ⟨v :: vs, ?_, by simp [h2.1], fun j a u ha hu => ?_⟩
    · rw [List.mapM_cons]
      simp only [Sem.run_bind]
      rw [k1]
      simp only [Result.andThen_ok]
      rw [h1]
      rfl
    · cases j with
      | zero => simp at ha hu; subst ha; subst hu; exact k2
      | succ j => exact h2.2 j a u ha hu

theorem comps_sound : ∀ {ags : List AV} {l : List (Bool × List Cell)} {vs : List Value}, comps ags = some l → RAs X ags vs → l.length = vs.length ∧ ∀ (j : Nat) p y, l[j]? = some p → vs[j]? = some y → RP X p y
  | [], l, vs, h, hv => by
    cases h
    have := hv.1
    exact ⟨by simpa using this, fun j p y hp => by simp at hp⟩
  | a :: r, l, vs, h, hv => by
    cases vs with
    | nil => exact absurd hv.1 (by simp)
    | cons v vs =>
      unfold comps at h
      split at h
      case h_2 => cases h
      rename_i l' hl
      obtain ⟨h1, h2⟩ := comps_sound hl (vs := vs) ⟨by simpa using hv.1, fun j a' y' ha hy => hv.2 (j + 1) a' y' ha hy⟩
      have hr := hv.2 0 a v rfl rfl
      split at h
      · cases h
        refine ⟨by simp [h1], fun j p y hp hy => ?_⟩
        cases j with
        | zero => simp at hp hy; subst hp; subst hy; exact ⟨_, rfl, hr⟩
        | succ j => exact h2 j p y hp hy
      · cases h
        refine ⟨by simp [h1], fun j p y hp hy => ?_⟩
        cases j with
        | zero => simp at hp hy; subst hp; subst hy; exact hr
        | succ j => exact h2 j p y hp hy
      · cases h

theorem join_sound {ags : List AV} {a : AV} {vs : List Value} (h : join ags = some a) (hv : RAs X ags vs) : RA X a (if h : vs.toArray.size = 1 then vs.toArray[0] else .tuple vs.toArray) := by
  unfold join at h
  split at h
  · cases h
    have h1 : vs.length = 1 := hv.1.symm
    cases vs with
    | nil => simp at h1
    | cons v r =>
      cases r with
      | nil => exact hv.2 0 _ v rfl rfl
      | cons _ _ => simp at h1
  · rename_i hne
    obtain ⟨l, hl, rfl⟩ := Option.map_eq_some_iff.1 h
    obtain ⟨h1, h2⟩ := comps_sound hl hv
    have : ¬ vs.toArray.size = 1 := by
      intro e
      have e' : ags.length = 1 := by rw [hv.1]; simpa using e
      match ags, e' with
      | [a], _ => exact hne a rfl
    rw [dif_neg this]
    exact ⟨vs, rfl, h1, h2⟩

/-- WHAT A FUNCTION COMES TO, the machine comes to. -/
theorem ctr_of_fun {T : Tab} (hT : TOk P T) {f : FuncId} {fn : Func} {c : Code} (hf : P.funcs[f]? = some fn) (hb : fn.body = some c) {N : Fx} (hc : CodeOk P N c) {n : Nat} {args : List CA} {r : CA}
    (h : vfun P T N n fn args = some r) : Ctr P f args r := by
  intro I w vals hI hTb hv
  unfold vfun at h
  rw [hb] at h
  dsimp only at h
  split at h
  case isFalse => cases h
  rename_i hlen
  obtain ⟨hlen, hNN⟩ := hlen
  have hvl : vals.length = args.length := hv.1.symm
  let X : Cx := ⟨w.heap.size, w, fun _ => False, [], fun _ => ⟨none, none, 0, 0⟩, I, w⟩
  have S : SR X := ⟨fun id e hd => hd.elim, fun i j b hi => hi.elim, Nat.le_refl _, fun b _ => rfl, hI, .refl _, hTb⟩
  have M : Dom X := fun id hd => hd.elim
  have R : Rel X N ⟨env0 args, []⟩ { tmps := vals.toArray ++ Array.replicate (fn.ntmps - vals.toArray.size) undef, defers := [] } := by
    refine ⟨rfl, fun id => ⟨fun h => h.elim, fun h => by simp at h⟩, by simp [hvl, hNN]; omega, fun k => ?_, rfl⟩
    show RA X (env0 args k) _
    unfold env0
    by_cases hk : k < args.length
    · rw [List.getElem?_eq_getElem hk]
      have hk' : k < vals.length := by omega
      have e : (vals.toArray ++ Array.replicate (fn.ntmps - vals.toArray.size) undef).getD k undef = vals[k] := by
        rw [Array.getD_eq_getD_getElem?, Array.getElem?_append_left (by simpa using hk')]
        simp [hk']
      rw [e]
      exact ra_of_rk (hv.2 k _ _ (List.getElem?_eq_getElem hk) (List.getElem?_eq_getElem hk'))
    · rw [List.getElem?_eq_none (by omega)]
      have e : (vals.toArray ++ Array.replicate (fn.ntmps - vals.toArray.size) undef).getD k undef = undef := by
        rw [Array.getD_eq_getD_getElem?, Array.getElem?_append_right (by simp; omega)]
        by_cases h2 : k - vals.toArray.size < fn.ntmps - vals.toArray.size
        · rw [Array.getElem?_replicate, if_pos h2]; rfl
        · rw [Array.getElem?_replicate, if_neg h2]; rfl
      rw [e]
      exact und_ra X
  have fin : ∀ (s : St) (l : List AV) (a : AV), mapO (vres P s) fn.results.toList = some l → join l = some a → fza s.H a = some r → ∀ (Y : Cx) (act' : Act), Nxt X Y → Rel Y N s act' →
      act'.defers = [] ∧ ∃ v, (results fn act'.tmps).run P Y.w = .ok v Y.w ∧ ∃ v' I', Ending.returned v = .returned v' ∧ (∀ b, I b → I' b) ∧ (∀ b, I' b → I b ∨ w.heap.size ≤ b) ∧ (∀ b, I' b → b < Y.w.heap.size) ∧
        w.heap.size ≤ Y.w.heap.size ∧ (∀ b, b < w.heap.size → Y.w.heap[b]? = w.heap[b]?) ∧ Stl w Y.w ∧ RK I' Y.w r v' := by
    intro s l a h1 h2 h3 Y act' hN hR
    refine ⟨hR.defers, ?_⟩
    obtain ⟨vs, hrun, hra⟩ := res_run (P := P) hN.sr hN.dom hR h1
    have hj := join_sound h2 hra
    refine ⟨if h : vs.toArray.size = 1 then vs.toArray[0] else .tuple vs.toArray, ?_, _, fun b => Y.I b ∨ ∃ id, Y.D id ∧ (Y.σ id).blk = some b, rfl, fun b hb => .inl (hN.I b hb), fun b hb => ?_, fun b hb => ?_, ?_, fun b hb => ?_, ?_, ?_⟩
    · rw [results_eq, Array.mapM_eq_mapM_toList]
      simp only [Sem.run_bind, Sem.run_map]
      rw [hrun]
      rfl
    · rcases hb with hb | ⟨id, hd, hb⟩
      · exact hN.I' b hb
      · exact .inr (by have := (hN.sr.blk hN.dom id b hd hb).2; rw [hN.base] at this; exact this)
    · rcases hb with hb | ⟨id, hd, hb⟩
      · exact hN.sr.imm b hb
      · exact (hN.sr.blk hN.dom id b hd hb).1
    · have := hN.sr.size
      rw [hN.base] at this
      exact this
    · have := hN.sr.old b (by rw [hN.base]; exact hb)
      rw [this, hN.w0]
    · have := hN.sr.kp
      rw [hN.w0] at this
      exact this
    · rw [← hR.H] at h3
      exact fza_sound hN.sr (fun b hb => .inl hb) h3 hj (fun id hi hd e he hm b hb => .inr ⟨id, hd, hb⟩)
  refine calls_of_wp hf hb ?_
  split at h
  · cases h
  · rename_i ex s hne hcode
    split at h
    case h_2 => cases h
    rename_i l hl
    split at h
    case h_2 => cases h
    rename_i a ha
    refine code_sound hT c hc S M R hcode fun Y act' hN hR => ?_
    have := fin s l a hl ha h Y act' hN hR
    cases ex with
    | normal => exact this
    | exit id => exact absurd rfl (hne id)
    | ret => exact this
  · cases h

end Go.Proofs.Vm
end

section
/- Regions whose order is open: what each operation hangs on. -/
namespace Go.Proofs.Vm
open Go

variable {P : Program} {X : Cx}

def pureOp (P : Program) (o : Oper) : Bool :=
  match o.op with
  | .move x | .assign x => !isNil x
  | .pick .. | .unOp .. => true
  | .convert s d _ => !(isU8 P s || isU8 P d)
  | .extract .. | .field .. | .index .. | .makeFunc .. => true
  | .binOp _ t _ _ _ => match pv P (underlying t) with
    | some (.pointer _) => false
    | some (.slice _) => false
    | _ => true
  | .call c => match c.callee with
    | .builtin .max => true
    | .builtin .min => true
    | _ => false
  | _ => false

theorem qa_inv {a : AV} {r : AV × List Ent × List Nat} (h : qa a = some r) : r.2 = ([], []) := by cases h; rfl

theorem ofPv_inv {x : Option Value} {r : AV × List Ent × List Nat} (h : ofPv x = some r) : r.2 = ([], []) := by
  unfold ofPv one? at h
  split at h
  · split at h
    · exact qa_inv h
    · cases h
  · cases h

theorem vrd_pure {T : Tab} {nest : Bool} {H : Hp} {nid : Nat} {ρ : Operand → Option AV} {o : Oper} {r : AV × List Ent × List Nat} (hp : pureOp P o = true) (h : vrd P T nest H nid ρ o = some r) :
    r.2 = ([], []) ∧ ∀ K n, vrd P T nest K n ρ o = some r := by
  unfold pureOp at hp
  unfold vrd at h ⊢
  split at hp
  · rename_i x ho
    simp only [Bool.not_eq_true'] at hp
    simp only [ho, vmove, hp, Bool.false_eq_true, if_false] at h ⊢
    refine ⟨?_, fun _ _ => h⟩
    split at h
    · exact qa_inv h
    · cases h
  · rename_i x ho
    simp only [Bool.not_eq_true'] at hp
    simp only [ho, vmove, hp, Bool.false_eq_true, if_false] at h ⊢
    refine ⟨?_, fun _ _ => h⟩
    split at h
    · exact qa_inv h
    · cases h
  · rename_i ho
    simp only [ho] at h ⊢
    refine ⟨?_, fun _ _ => h⟩
    unfold vpick at h
    split at h
    · split at h
      · exact qa_inv h
      · cases h
    · cases h
  · rename_i ho
    simp only [ho] at h ⊢
    refine ⟨?_, fun _ _ => h⟩
    split at h
    · unfold vun at h
      split at h
      · exact ofPv_inv h
      · cases h
    · cases h
  · rename_i ho
    simp only [ho] at h ⊢
    refine ⟨?_, fun _ _ => h⟩
    split at h
    · unfold vconvert at h
      split at h
      · exact ofPv_inv h
      · cases h
    · cases h
  · rename_i ho
    simp only [ho] at h ⊢
    refine ⟨?_, fun _ _ => h⟩
    split at h
    · unfold vextract at h
      split at h
      · split at h <;> first | exact qa_inv h | cases h
      · cases h
    · cases h
  · rename_i ho
    simp only [ho] at h ⊢
    refine ⟨?_, fun _ _ => h⟩
    split at h
    · unfold vfield at h
      split at h
      · split at h
        · split at h
          · split at h
            · exact qa_inv h
            · cases h
          · cases h
        · split at h
          · exact qa_inv h
          · cases h
        · cases h
      · cases h
    · cases h
  · rename_i ho
    simp only [ho] at h ⊢
    refine ⟨?_, fun _ _ => h⟩
    split at h
    · split at h
      · exact ofPv_inv h
      · cases h
    · cases h
  · rename_i ho
    simp only [ho] at h ⊢
    refine ⟨?_, fun _ _ => h⟩
    split at h
    · unfold vmakeFunc at h
      split at h
      · split at h
        · exact qa_inv h
        · cases h
      · cases h
    · cases h
  · rename_i op t x y ty ho
    simp only [ho] at h ⊢
    split at h
    case h_2 => cases h
    rename_i a b ha hb
    have nos : ∀ {a : AV} {u : Value}, a.sc = some u → isPtr a = false := by
      intro a u h
      cases a with
      | one c => cases c <;> first | (cases h; done) | rfl | skip
                 rename_i x
                 cases x <;> first | rfl | cases h
      | agg l => rfl
      | tup l => rfl
    unfold vbin at h ⊢
    split at h
    · exfalso
      split at hp
      · cases hp
      · cases hp
      · rename_i hne
        split at h
        · rename_i e _ he
          exact hne _ he
        · rename_i e _ he
          exact hne _ he
        · cases h
    rename_i hc0
    rw [show (∀ (K : Hp) (n : Nat), (if (neSl a && isNils b) = true then _ else vbin0 P K op t x y a b) = some r) = (∀ (K : Hp) (n : Nat), vbin0 P K op t x y a b = some r) from by simp only [if_neg hc0]]
    unfold vbin0 at h ⊢
    split at h
    · exfalso
      split at hp
      · cases hp
      · cases hp
      · rename_i hne _
        split at h
        · rename_i e he
          exact hne _ he
        · rename_i e he
          exact hne _ he
        · cases h
    · split at h
      case h_2 => cases h
      rename_i u v hu hv
      refine ⟨ofPv_inv h, fun K n => ?_⟩
      rw [if_neg (by rw [nos hu, nos hv]; simp)]
      exact h
  · rename_i c ho
    simp only [ho] at h ⊢
    split at hp
    · rename_i hc
      simp only [hc] at h ⊢
      refine ⟨?_, fun _ _ => h⟩
      split at h
      · split at h
        · exact ofPv_inv h
        · cases h
      · cases h
    · rename_i hc
      simp only [hc] at h ⊢
      refine ⟨?_, fun _ _ => h⟩
      split at h
      · split at h
        · exact ofPv_inv h
        · cases h
      · cases h
    · cases hp
  · cases hp

theorem mapO_eq {α β : Type} {f g : α → Option β} : ∀ {l : List α}, (∀ x ∈ l, f x = g x) → mapO f l = mapO g l
  | [], _ => rfl
  | x :: r, h => by
    simp only [mapO]
    rw [h x (by simp), mapO_eq fun y hy => h y (by simp [hy])]

theorem partsOf_eq {ρ ρ' : Operand → Option AV} : ∀ {l : List (Nat × Operand)}, (∀ p ∈ l, ρ p.2 = ρ' p.2) → partsOf ρ l = partsOf ρ' l
  | [], _ => rfl
  | (i, x) :: r, h => by
    simp only [partsOf]
    rw [h (i, x) (by simp), partsOf_eq fun y hy => h y (by simp [hy])]

theorem optOp_eq {ρ ρ' : Operand → Option AV} {x : Option Operand} (h : ∀ y, x = some y → ρ y = ρ' y) : optOp ρ x = optOp ρ' x := by
  cases x with
  | none => rfl
  | some x => simp only [optOp, h x rfl]

theorem vrd_eq {T : Tab} {nest : Bool} {H : Hp} {nid : Nat} {ρ ρ' : Operand → Option AV} {o : Oper} (h : ∀ x ∈ o.op.operands, ρ x = ρ' x) : vrd P T nest H nid ρ o = vrd P T nest H nid ρ' o := by
  unfold vrd
  cases ho : o.op <;> simp only [ho, Op.operands] at h ⊢
  case move x => simp only [vmove]; rw [h x (by simp)]
  case assign x => simp only [vmove]; rw [h x (by simp)]
  case pick c a b => simp only [vpick]; rw [h c (by simp), h a (by simp), h b (by simp)]
  case box t x => rw [h x (by simp)]
  case build t ps =>
    simp only [vbuild]
    rw [partsOf_eq fun p hp => h p.2 (by simp; exact ⟨p.1, by simpa using hp⟩)]
  case buildSlice t n ps =>
    have hp := partsOf_eq (ρ := ρ) (ρ' := ρ') (l := ps.toList) fun p hp => h p.2 (by simp; exact ⟨p.1, by simpa using hp⟩)
    have e1 : ∀ H, clParts H ρ ps.toList = clParts H ρ' ps.toList := fun H => by unfold clParts; rw [hp]
    have e2 : ∀ H, vbuildC P H ρ t n ps.toList = vbuildC P H ρ' t n ps.toList := fun H => by unfold vbuildC; rw [hp]
    have e3 : ∀ H nid, vbuildSlice P H nid ρ t n ps.toList = vbuildSlice P H nid ρ' t n ps.toList := fun H nid => by unfold vbuildSlice vbuildSlice1; rw [hp]
    have e4 : ownPart ρ ps.toList = ownPart ρ' ps.toList := by unfold ownPart; rw [hp]
    have e5 : ∀ nid, vbuildO P nid ρ t n ps.toList = vbuildO P nid ρ' t n ps.toList := fun nid => by unfold vbuildO; rw [hp]
    simp only [vbuildN, vbuildT, e1, e2, e3, e4, e5]
  case load t x => rw [h x (by simp)]
  case nilCheck x => rw [h x (by simp)]
  case binOp op t x y ty => rw [h x (by simp), h y (by simp)]
  case unOp op t x => rw [h x (by simp)]
  case convert s d x => rw [h x (by simp)]
  case makeFunc fn first caps => rw [mapO_eq fun x hx => h x (by simp at hx ⊢; exact .inr hx)]
  case makeSlice t l c => rw [h l (by simp), h c (by simp)]
  case slice t x lo hi mx =>
    rw [h x (by simp), optOp_eq fun y hy => h y (by simp [hy]), optOp_eq (x := hi) fun y hy => h y (by simp [hy]), optOp_eq (x := mx) fun y hy => h y (by simp [hy])]
  case fieldAddr s x f => rw [h x (by simp)]
  case field s x f => rw [h x (by simp)]
  case indexAddr t x i => rw [h x (by simp), h i (by simp)]
  case index t x i => rw [h x (by simp), h i (by simp)]
  case extract x i => rw [h x (by simp)]
  case lookup t x i cok => rw [h x (by simp), h i (by simp)]
  case call c =>
    simp only [Call.operands] at h
    cases hc : c.callee with
    | value f =>
      simp only [hc] at h ⊢
      rw [h f (by simp), mapO_eq fun x hx => h x (by simp at hx ⊢; exact .inr hx)]
    | invoke r m => rfl
    | builtin b =>
      cases b <;> try rfl
      · simp only [hc] at h ⊢
        split
        · rename_i x hx
          rw [h x (by
            have : x ∈ c.args.toList := by rw [hx]; simp
            simpa using this)]
        · rfl
      · simp only [hc] at h ⊢
        rw [mapO_eq fun x hx => h x (by simpa using hx)]
      · simp only [hc] at h ⊢
        rw [mapO_eq fun x hx => h x (by simpa using hx)]

theorem vwr_eq {T : Tab} {N : Fx} {H : Hp} {ρ ρ' : Operand → Option AV} {o : Oper} (h : ∀ x ∈ o.op.operands, ρ x = ρ' x) : vwr P T N H ρ o = vwr P T N H ρ' o := by
  unfold vwr
  cases ho : o.op <;> simp only [ho, Op.operands] at h ⊢
  case store t a x => rw [h a (by simp), h x (by simp)]
  case makeMap t rv => cases rv <;> rfl
  case mapUpdate t m k x => rw [h m (by simp), h k (by simp), h x (by simp)]
  case mapEntry t m k => rw [h m (by simp), h k (by simp)]
  case entryStore t m k x => rw [h m (by simp), h k (by simp), h x (by simp)]
  case convert s d x => rw [h x (by simp)]
  case call c =>
    simp only [Call.operands] at h
    split
    · rename_i s x t tx hc ha ht
      have m1 : s ∈ c.args := by
        have : s ∈ c.args.toList := by rw [ha]; simp
        simpa using this
      have m2 : x ∈ c.args := by
        have : x ∈ c.args.toList := by rw [ha]; simp
        simpa using this
      rw [h s (by simp [hc, m1]), h x (by simp [hc, m2])]
    · rename_i s x t tx hc ha ht
      have m1 : s ∈ c.args := by
        have : s ∈ c.args.toList := by rw [ha]; simp
        simpa using this
      have m2 : x ∈ c.args := by
        have : x ∈ c.args.toList := by rw [ha]; simp
        simpa using this
      rw [h s (by simp [hc, m1]), h x (by simp [hc, m2])]
    · rename_i s x t tx hc ha ht
      have m1 : s ∈ c.args := by
        have : s ∈ c.args.toList := by rw [ha]; simp
        simpa using this
      have m2 : x ∈ c.args := by
        have : x ∈ c.args.toList := by rw [ha]; simp
        simpa using this
      rw [h s (by simp [hc, m1]), h x (by simp [hc, m2])]
    · rename_i s t hc ha ht
      have m1 : s ∈ c.args := by
        have : s ∈ c.args.toList := by rw [ha]; simp
        simpa using this
      rw [h s (by simp [hc, m1])]
    · rename_i g hc
      rw [mapO_eq fun x hx => h x (by simp [hc]; exact .inr (by simpa using hx))]
    · rfl

theorem wantV_eq {env env' : Nat → AV} {ops : Array Oper} {o : Oper} (h : ∀ t, t ∈ o.looksAt ops → env t = env' t) : wantV env ops o = wantV env' ops o := by
  unfold wantV
  cases hg : o.guard with
  | none => rfl
  | some p =>
    obtain ⟨j, want⟩ := p
    dsimp only
    cases hd : (ops[j]?).bind (·.dst) with
    | none => rfl
    | some d =>
      dsimp only
      rw [h d (by simp [Oper.looksAt, hg, hd])]

theorem evo_eq {env env' : Nat → AV} {ops : Array Oper} {o : Oper} (h : ∀ t, t ∈ o.looksAt ops → env t = env' t) (x : Operand) (hx : x ∈ o.op.operands) : evo env x = evo env' x := by
  cases x with
  | tmp t =>
    simp only [evo]
    rw [h t]
    simp only [Oper.looksAt, List.mem_append, List.mem_filterMap]
    exact .inl ⟨.tmp t, by simpa using hx, rfl⟩
  | const v => cases v <;> rfl
  | global g => rfl
  | func f => rfl

end Go.Proofs.Vm
end

section
/- Regions whose order is open: whatever the order, the value machine's answer is the machine's. -/
namespace Go.Proofs.Vm
open Go

variable {P : Program}

theorem frz_frz (e : Ent) : e.frz.frz = e.frz := by cases e <;> rfl

open Classical in
/-- A heap that has grown, and of which more is given up. -/
theorem sub_nxt {X : Cx} (S : SR X) (M : Dom X) (_hd : ∀ id, X.D id → id < X.H.length) {K : Hp} (U : Sub X.H K) : ∃ Y, Nxt X Y ∧ Y.H = K ∧ Y.D = X.D ∧ Y.w = X.w := by
  let ms : List Nat := (List.range X.H.length).filter fun id => decide ((K[id]?) = (X.H[id]?).map Ent.frz)
  let L : Hp := X.H ++ K.drop X.H.length
  have hlen : X.H.length ≤ K.length := by
    rcases Nat.lt_or_ge K.length X.H.length with h | h
    · obtain ⟨e', he, _⟩ := U K.length _ (List.getElem?_eq_getElem h)
      rw [List.getElem?_eq_none (Nat.le_refl _)] at he
      cases he
    · exact h
  have hL : ∀ (id : Nat) e, X.H[id]? = some e → L[id]? = some e := fun id e he => by
    show (X.H ++ _)[id]? = _
    rw [List.getElem?_append_left (List.getElem?_eq_some_iff.1 he).1]
    exact he
  have N1 := longer_nxt S M hL
  have F := frozeOf_is (longer X L) ms
  have N2 := F.nxt N1.sr N1.dom
  refine ⟨frozeOf (longer X L) ms, N1.trans N2, ?_, rfl, rfl⟩
  show frzAll L ms = K
  apply List.ext_getElem?
  intro id
  rw [frzAll_get]
  by_cases hid : id < X.H.length
  · have hx := List.getElem?_eq_getElem hid
    obtain ⟨e', h1, h2⟩ := U id _ hx
    have hLid := hL id _ hx
    by_cases hm : id ∈ ms
    · rw [if_pos hm, hLid]
      have := (List.mem_filter.1 hm).2
      rw [decide_eq_true_eq, hx] at this
      exact this.symm
    · rw [if_neg hm, hLid, h1]
      rcases h2 with rfl | rfl
      · rfl
      · exact absurd (List.mem_filter.2 ⟨List.mem_range.2 hid, by rw [decide_eq_true_eq, h1, hx]; rfl⟩) hm
  · have hm : id ∉ ms := fun h => hid (List.mem_range.1 (List.mem_filter.1 h).1)
    rw [if_neg hm]
    show (X.H ++ K.drop X.H.length)[id]? = _
    rw [List.getElem?_append_right (by omega), List.getElem?_drop]
    congr 1
    omega

/-- It looks at memory, and makes nothing. -/
def plainRd (o : Oper) : Bool :=
  match o.op with
  | .load .. => true
  | .indexAddr .. => true
  | .fieldAddr .. => true
  | _ => false
theorem vrd_plain {T : Tab} {nest : Bool} {H : Hp} {nid : Nat} {ρ : Operand → Option AV} {o : Oper} {r : AV × List Ent × List Nat} (hp : plainRd o = true) (h : vrd P T nest H nid ρ o = some r) : r.2 = ([], []) := by
  unfold plainRd at hp
  unfold vrd at h
  split at hp
  · rename_i ho
    simp only [ho] at h
    split at h
    · unfold vload at h
      split at h
      · split at h
        · split at h
          · split at h
            · exact qa_inv h
            · cases h
          · cases h
        · split at h
          · exact qa_inv h
          · cases h
        · cases h
      · cases h
    · cases h
  · rename_i ho
    simp only [ho] at h
    split at h
    · unfold vindexAddr at h
      revert h
      repeat' split
      all_goals (intro h; first | exact qa_inv h | cases h)
    · cases h
  · rename_i ho
    simp only [ho] at h
    split at h
    · unfold vfieldAddr shift at h
      revert h
      repeat' split
      all_goals (intro h; first | exact qa_inv h | cases h)
    · cases h
  · cases hp

/-- It writes nothing that was there when an operation ahead of it was done. -/
def softW (P : Program) (ops : Array Oper) (o : Oper) (i j : Nat) : Bool :=
  match o.op with
  | .call c => match c.callee with
    | .value (.func g) => isCl P g
    | _ => false
  | .convert .. => true
  | .store _ (.tmp t) _ => (List.range i).any fun a => decide (j < a) && match ops[a]? with
    | some q => (q.dst == some t) && (match q.op with | .alloc _ => true | _ => false)
    | none => false
  | _ => false

theorem vstore_sub {nest : Bool} {H K : Hp} {t : TypeId} {p : Pt} {x : AV} (h : vstore P nest H t (.one (.ptr p)) x = some K) {id : Nat} (hid : id ≠ p.id) {e : Ent} (he : H[id]? = some e) : ∃ e', K[id]? = some e' ∧ Le e e' := by
  unfold vstore at h
  split at h
  case h_2 => cases h
  rename_i p' cs hp hcs
  cases hp
  split at h
  · split at h
    case isFalse => cases h
    split at h
    case h_2 => cases h
    split at h
    case isFalse => cases h
    cases h
    exact ⟨e, by rw [set_get hid]; exact he, .inl rfl⟩
  · split at h
    case isFalse => cases h
    split at h
    · split at h
      case h_2 => cases h
      split at h
      case isFalse => cases h
      cases h
      exact ⟨e, by rw [set_get hid]; exact he, .inl rfl⟩
    · split at h
      case h_2 => cases h
      dsimp only at h
      split at h
      case isFalse => cases h
      cases h
      rename_i h3
      by_cases hm : id ∈ (cs.map (rch 5 H)).flatten
      · exact ⟨e.frz, by rw [set_get hid, frzAll_get, if_pos hm, he]; rfl, .inr rfl⟩
      · exact ⟨e, by rw [set_get hid, frzAll_get, if_neg hm, he], .inl rfl⟩
  · cases h

/-- What is looked up of a region whose order is open. -/
structure OpenC (P : Program) (N : Fx) (ops : Array Oper) (fl : List Nat) (B : Nat → Nat → Prop) : Prop where
  edge : ∀ (i : Nat) o e, ops[i]? = some o → e ∈ o.after → Region.binds .any e = true → e.on < i
  bef : ∀ (i : Nat) o j, ops[i]? = some o → B i j → ∃ e ∈ o.after, Region.binds .any e = true ∧ (e.on = j ∨ B e.on j)
  dst : ∀ (i j : Nat) o q d, ops[i]? = some o → ops[j]? = some q → o.dst = some d → q.dst = some d → i = j
  reads : ∀ (i j : Nat) o q t, ops[i]? = some o → ops[j]? = some q → t ∈ o.looksAt ops → q.dst = some t → (j < i ∧ B i j) ∨ (i < j ∧ B j i)
  wr : ∀ (i j : Nat) o q, ops[i]? = some o → ops[j]? = some q → isWr P N o = true → pureOp P q = false → (j < i → B i j ∨ isWr P N q = false ∧ plainRd q = true ∧ softW P ops o i j = true ∨ j ∈ fl) ∧ (i < j → B j i ∨ j ∈ fl)
  sel : True

/-- What is read beside writes reads the same at each of them. -/
def LateF (P : Program) (T : Tab) (N : Fx) (ops : Array Oper) (fl : List Nat) (s : Nat → St) : Prop := ∀ (j : Nat) o, j ∈ fl → ops[j]? = some o → isWr P N o = false ∧ (wantV (s j).env ops o = some true → ∃ a, vrd P T N.nest (s j).H (s j).H.length (evo (s j).env) o = some (a, [], []) ∧
  ∀ m, m ≤ ops.size → (m = ops.size ∨ ∃ q, ops[m]? = some q ∧ isWr P N q = true) → vrd P T N.nest (s m).H (s j).H.length (evo (s j).env) o = some (a, [], []))

/-- The states of the run in the text's order. -/
inductive Trail (P : Program) (T : Tab) (N : Fx) (ops : Array Oper) : Nat → (Nat → St) → Prop
  | mk (k : Nat) (s : Nat → St) (h : ∀ i, i < k → ∃ o, ops[i]? = some o ∧ stepV P T N ops o (s i) = some (s (i + 1))) : Trail P T N ops k s

theorem trail_of {T : Tab} {N : Fx} {ops : Array Oper} : ∀ (os : List Oper) (k : Nat) (s s' : St), runV P T N ops os s = some s' → (∀ j o, os[j]? = some o → ops[k + j]? = some o) →
    ∃ f : Nat → St, f k = s ∧ f (k + os.length) = s' ∧ ∀ i, k ≤ i → i < k + os.length → ∃ o, ops[i]? = some o ∧ stepV P T N ops o (f i) = some (f (i + 1))
  | [], k, s, s', h, _ => by
    cases h
    exact ⟨fun _ => s, rfl, rfl, fun i h1 h2 => by simp at h2; omega⟩
  | o :: r, k, s, s', h, ho => by
    simp only [runV] at h
    split at h
    case h_2 => cases h
    rename_i s1 h1
    obtain ⟨f, f1, f2, f3⟩ := trail_of r (k + 1) s1 s' h (fun j o hj => by
      have := ho (j + 1) o (by simpa using hj)
      rwa [show k + (j + 1) = k + 1 + j by omega] at this)
    refine ⟨fun i => if i = k then s else f i, by simp, ?_, fun i h1' h2 => ?_⟩
    · have : k + (o :: r).length ≠ k := by simp
      simp only [this, if_false]
      rw [← f2]
      congr 1
      simp
      omega
    · by_cases hi : i = k
      · subst hi
        refine ⟨o, by simpa using ho 0 o rfl, ?_⟩
        have : i + 1 ≠ i := by omega
        simp only [if_true, this, if_false, f1]
        exact h1
      · have h4 : i + 1 ≠ k := by omega
        simp only [hi, h4, if_false]
        exact f3 i (by omega) (by simp at h2; omega)

section
variable {T : Tab} (hT : TOk P T) {N : Fx} {ops : Array Oper} {fl : List Nat} {B : Nat → Nat → Prop} (C : OpenC P N ops fl B) {s : Nat → St}
  (hs : ∀ i, i < ops.size → ∃ o, ops[i]? = some o ∧ stepV P T N ops o (s i) = some (s (i + 1)))
include C hs

omit C in
theorem step_env {i : Nat} {o : Oper} (hi : ops[i]? = some o) {t : Nat} (ht : o.dst ≠ some t) : (s (i + 1)).env t = (s i).env t := by
  have hlt := (Array.getElem?_eq_some_iff.1 hi).1
  obtain ⟨o', ho', h⟩ := hs i hlt
  rw [hi] at ho'
  cases ho'
  have put : ∀ {s0 s1 : St} {a : AV}, putV N s0 o.dst a = some s1 → s1.env t = s0.env t := by
    intro s0 s1 a h
    unfold putV at h
    split at h
    · cases h; rfl
    · rename_i d hd
      split at h
      case isFalse => cases h
      cases h
      simp only [upd]
      rw [if_neg (fun e => ht (by rw [hd, e]))]
  unfold stepV at h
  split at h
  · exact put h
  · split at h
    · split at h
      · have := put h; exact this
      · cases h
    · split at h
      · have := put h; exact this
      · cases h
  · cases h

omit C in
/-- A slot that is written by one operation at most. -/
theorem env_of {t : Nat} {a b : Nat} (hab : a ≤ b) (hb : b ≤ ops.size) (h : ∀ i o, a ≤ i → i < b → ops[i]? = some o → o.dst ≠ some t) : (s b).env t = (s a).env t := by
  induction b with
  | zero => have : a = 0 := by omega
            rw [this]
  | succ b ih =>
    by_cases hab' : a = b + 1
    · rw [hab']
    · obtain ⟨o, ho, _⟩ := hs b (by omega)
      rw [step_env hs ho (h b o (by omega) (by omega) ho)]
      exact ih (by omega) (by omega) fun i o h1 h2 => h i o h1 (by omega)

omit C in
/-- An operation that does not write: the heap grows. -/
theorem step_sub {i : Nat} {o : Oper} (hi : ops[i]? = some o) (hw : isWr P N o = false) : Sub (s i).H (s (i + 1)).H := by
  have hlt := (Array.getElem?_eq_some_iff.1 hi).1
  obtain ⟨o', ho', h⟩ := hs i hlt
  rw [hi] at ho'
  cases ho'
  have put : ∀ {s0 s1 : St} {a : AV}, putV N s0 o.dst a = some s1 → s1.H = s0.H := by
    intro s0 s1 a h
    unfold putV at h
    split at h
    · cases h; rfl
    · split at h
      · cases h; rfl
      · cases h
  unfold stepV at h
  split at h
  · rw [put h]; exact fun id e he => ⟨e, he, .inl rfl⟩
  · rw [hw] at h
    simp only [Bool.false_eq_true, if_false] at h
    split at h
    case h_2 => cases h
    rw [put h]
    exact (sub_append _ _).trans (sub_frz _ _)
  · cases h

omit C in
theorem subs {a b : Nat} (hab : a ≤ b) (hb : b ≤ ops.size) (h : ∀ i o, a ≤ i → i < b → ops[i]? = some o → isWr P N o = false) : Sub (s a).H (s b).H := by
  induction b with
  | zero => have : a = 0 := by omega
            rw [this]
            exact fun id e he => ⟨e, he, .inl rfl⟩
  | succ b ih =>
    by_cases hab' : a = b + 1
    · rw [hab']
      exact fun id e he => ⟨e, he, .inl rfl⟩
    · obtain ⟨o, ho, _⟩ := hs b (by omega)
      exact (ih (by omega) (by omega) fun i o h1 h2 => h i o h1 (by omega)).trans (step_sub hs ho (h b o (by omega) (by omega) ho))

/-- A list of operations that are done: with each all that goes before it. -/
def Down (ops : Array Oper) (L : Nat → Prop) : Prop := ∀ (i : Nat) o e, L i → ops[i]? = some o → e ∈ o.after → Region.binds .any e = true → L e.on

omit hs in
theorem down_bef {L : Nat → Prop} (hL : Down ops L) : ∀ (n i : Nat), i < n → ∀ o, ops[i]? = some o → (∀ e ∈ o.after, Region.binds .any e = true → L e.on) → ∀ j, B i j → L j := by
  intro n
  induction n with
  | zero => intro i hi; omega
  | succ n ih =>
    intro i hi o ho hready j hj
    obtain ⟨e, he, hb, h⟩ := C.bef i o j ho hj
    have hle := hready e he hb
    rcases h with rfl | h
    · exact hle
    · have hlt := C.edge i o e ho he hb
      have hsz := (Array.getElem?_eq_some_iff.1 ho).1
      have hq : ops[e.on]? = some (ops[e.on]'(by omega)) := Array.getElem?_eq_getElem (by omega)
      exact ih e.on (by omega) _ hq (fun e' he' hb' => hL e.on _ e' hle hq he' hb') j h

end

end Go.Proofs.Vm
end

section
/- Regions whose order is open: the theorem. -/
namespace Go.Proofs.Vm
open Go

variable {P : Program}

theorem wr_not_pure {N : Fx} {o : Oper} (h : isWr P N o = true) : pureOp P o = false := by
  unfold isWr at h
  unfold pureOp
  split at h
  · rename_i ho
    rw [ho]
  · rename_i ho
    rw [ho]
  · rename_i ho
    rw [ho]
  · rename_i ho
    rw [ho]
  · rename_i ho
    rw [ho]
  · rename_i ho
    rw [ho]
    simp [h]
  · rename_i c ho
    rw [ho]
    split at h
    · rename_i hc
      simp only [hc]
    · rename_i hc
      simp only [hc]
    · rename_i hc
      simp only [hc]
    · rename_i hc
      simp only [hc]
    · rename_i hc
      simp only [hc]
    · cases h
  · cases h

theorem set_len {H : Hp} {id : Nat} {e : Ent} : H.length ≤ (H.set id e).length := by simp
theorem vmapUpdate_len {H L : Hp} {t : TypeId} {a b c r : AV} (h : vmapUpdate P H t a b c = some (r, L)) : H.length ≤ L.length := by
  unfold vmapUpdate at h
  split at h
  · split at h
    · split at h
      · cases h; simp
      · cases h
    · cases h
  · cases h
theorem vmapEntry_len {H L : Hp} {t : TypeId} {a b r : AV} (h : vmapEntry P H t a b = some (r, L)) : H.length ≤ L.length := by
  unfold vmapEntry at h
  split at h
  · split at h
    · split at h
      · split at h
        · cases h; simp
        · cases h
      · cases h
    · cases h
  · cases h
theorem ventryStore_len {H L : Hp} {a b c r : AV} (h : ventryStore H a b c = some (r, L)) : H.length ≤ L.length := by
  unfold ventryStore at h
  split at h
  · split at h
    · cases h; simp
    · cases h
  · cases h
theorem vdelete_len {H L : Hp} {t : TypeId} {a b r : AV} (h : vdelete P H t a b = some (r, L)) : H.length ≤ L.length := by
  unfold vdelete at h
  split at h
  · split at h
    · split at h
      · cases h; simp
      · cases h; simp
      · cases h
    · cases h
  · cases h
theorem vconvW_len {H L : Hp} {s d : TypeId} {a r : AV} (h : vconvW P H s d a = some (r, L)) : H.length ≤ L.length := by
  unfold vconvW at h
  split at h
  · split at h
    · split at h
      · cases h
      · cases h; simp
    · cases h
  · split at h
    · split at h
      · split at h
        · cases h; simp
        · cases h
      · cases h
    · cases h
theorem vwr_len {T : Tab} {N : Fx} (hT : TOk P T) {H : Hp} {ρ : Operand → Option AV} {o : Oper} {a : AV} {L : Hp} (hv : vwr P T N H ρ o = some (a, L)) : H.length ≤ L.length := by
  unfold vwr at hv
  split at hv
  · split at hv
    case h_2 => cases hv
    obtain ⟨H', hst, he⟩ := Option.map_eq_some_iff.1 hv
    cases he
    exact Nat.le_of_eq (vstore_len hst).symm
  · cases hv; simp
  · split at hv
    case h_2 => cases hv
    exact vmapUpdate_len hv
  · split at hv
    case h_2 => cases hv
    exact vmapEntry_len hv
  · split at hv
    case h_2 => cases hv
    exact ventryStore_len hv
  · split at hv
    case h_2 => cases hv
    exact vconvW_len hv
  · split at hv
    · split at hv
      case h_2 => cases hv
      exact Nat.le_of_eq (vappendN_len hv).symm
    · split at hv
      case h_2 => cases hv
      exact vdelete_len hv
    · split at hv
      case h_2 => cases hv
      exact Nat.le_of_eq (vcopy_len hv).symm
    · split at hv
      case h_2 => cases hv
      exact Nat.le_of_eq (vclear_len hv).symm
    · split at hv
      case isFalse => cases hv
      split at hv
      case h_2 => cases hv
      exact (hT.2 _ _ _ _ _ hv).1.1
    · cases hv
  · cases hv

theorem cellsAt_lt {H : Hp} {p : Pt} {cs : List Cell} (h : cellsAt H p = some cs) : p.id < H.length := by
  unfold cellsAt at h
  split at h
  · rename_i he
    exact (List.getElem?_eq_some_iff.1 he).1
  · rename_i he
    exact (List.getElem?_eq_some_iff.1 he).1
  · cases h

theorem rch_lt {H : Hp} : ∀ (n : Nat) {c : Cell} {x : CV}, fzc n H c = some x → ∀ id, id ∈ rch n H c → id < H.length := by
  intro n
  induction n with
  | zero => intro c x h; cases h
  | succ n ih =>
    have hptr : ∀ {p : Pt} {x : CV}, fzc (n + 1) H (.ptr p) = some x → ∀ id, id ∈ rch (n + 1) H (.ptr p) → id < H.length := by
      intro p x h id hid
      simp only [fzc, rch] at h hid
      split at h
      case h_2 => cases h
      rename_i cs hcs
      obtain ⟨xs, hxs, rfl⟩ := Option.map_eq_some_iff.1 h
      simp only [hcs] at hid
      rcases List.mem_cons.1 hid with rfl | hid
      · exact cellsAt_lt hcs
      · obtain ⟨l, hl, hid⟩ := List.mem_flatten.1 hid
        obtain ⟨c, hc, rfl⟩ := List.mem_map.1 hl
        obtain ⟨j, hj⟩ := List.getElem?_of_mem hc
        obtain ⟨y, _, hy⟩ := (mapO_spec hxs).2 j c hj
        exact ih hy id hid
    intro c x h id hid
    cases c with
    | c y => simp [rch] at hid
    | sl i o m tot =>
      simp only [fzc, rch] at h hid
      split at h
      · rename_i l f he
        have hlt := (List.getElem?_eq_some_iff.1 he).1
        rw [he] at hid
        rcases List.mem_cons.1 hid with rfl | hid
        · exact hlt
        · cases hid
      · rename_i l f he
        have hlt := (List.getElem?_eq_some_iff.1 he).1
        rw [he] at hid
        dsimp only at hid
        split at h
        case isFalse => cases h
        obtain ⟨xs, hxs, rfl⟩ := Option.map_eq_some_iff.1 h
        rcases List.mem_cons.1 hid with rfl | hid
        · exact hlt
        · obtain ⟨l1, hl1, hid⟩ := List.mem_flatten.1 hid
          obtain ⟨e, he, rfl⟩ := List.mem_map.1 hl1
          obtain ⟨l2, hl2, hid⟩ := List.mem_flatten.1 hid
          obtain ⟨c, hc, rfl⟩ := List.mem_map.1 hl2
          obtain ⟨j, hj⟩ := List.getElem?_of_mem he
          obtain ⟨y, _, hy⟩ := (mapO_spec hxs).2 j e hj
          obtain ⟨k, hk⟩ := List.getElem?_of_mem hc
          obtain ⟨z, _, hz⟩ := (mapO_spec hy).2 k c hk
          exact ih hz id hid
      · cases h
    | ptr p => exact hptr h id hid
    | fn f caps =>
      simp only [fzc, rch] at h hid
      obtain ⟨xs, hxs, rfl⟩ := Option.map_eq_some_iff.1 h
      obtain ⟨l, hl, hid⟩ := List.mem_flatten.1 hid
      obtain ⟨c, hc, rfl⟩ := List.mem_map.1 hl
      obtain ⟨j, hj⟩ := List.getElem?_of_mem hc
      obtain ⟨y, _, hy⟩ := (mapO_spec hxs).2 j c hj
      cases c with
      | inl z => cases hid
      | inr p => exact ih hy id hid
    | mp i => simp [rch] at hid

theorem rchl_lt {H : Hp} {l : List Cell} {xs : List CV} (h : mapO (fzc 5 H) l = some xs) {id : Nat} (hid : id ∈ (l.map (rch 5 H)).flatten) : id < H.length := by
  obtain ⟨m, hm, hid⟩ := List.mem_flatten.1 hid
  obtain ⟨c, hc, rfl⟩ := List.mem_map.1 hm
  obtain ⟨j, hj⟩ := List.getElem?_of_mem hc
  obtain ⟨y, _, hy⟩ := (mapO_spec h).2 j c hj
  exact rch_lt 5 hy id hid

theorem rcha_lt {H : Hp} {a : AV} {k : CA} (h : fza H a = some k) {id : Nat} (hid : id ∈ rcha H a) : id < H.length := by
  cases a with
  | one c =>
    obtain ⟨x, hx, rfl⟩ := Option.map_eq_some_iff.1 h
    exact rch_lt 5 hx id hid
  | agg l =>
    obtain ⟨x, hx, rfl⟩ := Option.map_eq_some_iff.1 h
    exact rchl_lt hx hid
  | tup l =>
    obtain ⟨x, hx, rfl⟩ := Option.map_eq_some_iff.1 h
    obtain ⟨m, hm, hid⟩ := List.mem_flatten.1 hid
    obtain ⟨p, hp, rfl⟩ := List.mem_map.1 hm
    obtain ⟨j, hj⟩ := List.getElem?_of_mem hp
    obtain ⟨y, _, hy⟩ := (mapO_spec hx).2 j p hj
    obtain ⟨z, hz, rfl⟩ := Option.map_eq_some_iff.1 hy
    exact rchl_lt hz hid

theorem parts_lt {H : Hp} : ∀ {ps : List (Nat × List Cell)} {qs : List (Nat × List CV)}, fzParts H ps = some qs → ∀ id, id ∈ rchParts H ps → id < H.length := by
  intro ps
  induction ps with
  | nil => intro qs _ id hid; simp [rchParts] at hid
  | cons p r ih =>
    intro qs h id hid
    obtain ⟨i, cs⟩ := p
    rw [fzParts_cons] at h
    rw [rchParts_cons] at hid
    split at h
    case h_2 => cases h
    rename_i x l hx hl
    rcases List.mem_append.1 hid with hid | hid
    · exact rchl_lt hx hid
    · exact ih hl id hid

/-- What is given up was there. -/
theorem given_mem {T : Tab} {nest : Bool} {H : Hp} {nid : Nat} {ρ : Operand → Option AV} {o : Oper} {a : AV} {news : List Ent} {ms : List Nat} (h : vrd P T nest H nid ρ o = some (a, news, ms)) {id : Nat} (hid : id ∈ ms) : id < H.length := by
  have nil : ∀ {r : RR}, r = some (a, news, ms) → (∀ q, r = some q → q.2.2 = []) → False := by
    intro r hr hq
    have := hq _ hr
    dsimp only at this
    rw [this] at hid
    cases hid
  unfold vrd at h
  split at h
  case h_7 =>
    unfold vbuildN at h
    split at h
    · unfold vbuildO at h
      split at h
      case h_2 => cases h
      split at h
      case h_2 => cases h
      split at h
      case isFalse => cases h
      cases h
      cases hid
    unfold vbuildT at h
    split at h
    · unfold vbuildC at h
      split at h
      case h_2 => cases h
      split at h
      case h_2 => cases h
      split at h
      case isFalse => cases h
      cases h
      cases hid
    unfold vbuildSlice at h
    split at h
    · split at h
      case h_2 => cases h
      split at h
      case h_2 => cases h
      cases h
      cases hid
    unfold vbuildSlice1 at h
    split at h
    case h_2 => cases h
    split at h
    case h_2 => cases h
    rename_i i z qs hi hz hqs
    split at h
    case isFalse => cases h
    cases h
    exact parts_lt hqs id hid
  case h_21 =>
    split at h
    · exact (nil h (by
        intro q hq
        split at hq
        case h_2 => cases hq
        split at hq
        case h_2 => cases hq
        unfold vlen at hq
        split at hq
        case h_2 => cases hq
        split at hq
        · split at hq
          · split at hq
            · exact congrArg Prod.snd (ofPv_inv (x := some _) hq)
            · cases hq
          · cases hq
        · split at hq
          · exact congrArg Prod.snd (ofPv_inv (x := some _) hq)
          · cases hq
        · split at hq
          · split at hq
            · exact congrArg Prod.snd (ofPv_inv (x := some _) hq)
            · cases hq
          · cases hq
        · split at hq
          · exact congrArg Prod.snd (ofPv_inv hq)
          · cases hq)).elim
    · exact (nil h (by
        intro q hq
        split at hq
        case h_2 => cases hq
        split at hq
        case h_2 => cases hq
        exact congrArg Prod.snd (ofPv_inv hq))).elim
    · exact (nil h (by
        intro q hq
        split at hq
        case h_2 => cases hq
        split at hq
        case h_2 => cases hq
        exact congrArg Prod.snd (ofPv_inv hq))).elim
    · split at h
      case h_2 => cases h
      rename_i fv args hf ha
      unfold vcall at h
      split at h
      case h_2 => cases h
      rename_i g cs ks hcal hks
      split at h
      case h_2 => cases h
      rename_i r hr
      cases h
      split at hid
      · cases hid
      · rcases List.mem_append.1 hid with hid | hid
        · unfold calleeOf at hcal
          split at hcal
          · split at hcal
            case h_2 => cases hcal
            rename_i hfz
            exact rch_lt 5 hfz id hid
          · simp [rcha, rch] at hid
          · cases hcal
        · obtain ⟨l, hl, hid⟩ := List.mem_flatten.1 hid
          obtain ⟨a, haa, rfl⟩ := List.mem_map.1 hl
          obtain ⟨j, hj⟩ := List.getElem?_of_mem haa
          obtain ⟨y, _, hy⟩ := (mapO_spec hks).2 j a hj
          exact rcha_lt hy hid
    · cases h
  case h_22 => exact (nil h (by
    intro q hq
    split at hq
    case h_2 => cases hq
    unfold vlookup at hq
    split at hq
    case h_2 => cases hq
    split at hq
    case isFalse => cases hq
    split at hq
    · split at hq
      · exact congrArg Prod.snd (qa_inv hq)
      · cases hq
    · exact congrArg Prod.snd (qa_inv hq)
    · cases hq)).elim
  all_goals (exact (nil h (by
    intro q hq
    revert hq
    try simp only [vmove, vpick, valloc, vbox, vbuild, vload, vnil, vbin, vbin0, vun, vconvert, vmakeFunc, vmakeN, vmakeRows, vmakeSlice, vslice, vfieldAddr, shift, vfield, vindexAddr, vextract, qa, ofPv, one?]
    repeat' split
    all_goals (intro hq; first | (cases hq; rfl) | cases hq))).elim)

section
variable {T : Tab} (hT : TOk P T) {N : Fx} {ops : Array Oper} {fl : List Nat} {B : Nat → Nat → Prop} (C : OpenC P N ops fl B) {s : Nat → St}
  (hs : ∀ i, i < ops.size → ∃ o, ops[i]? = some o ∧ stepV P T N ops o (s i) = some (s (i + 1)))

def Done (ops : Array Oper) (L : Nat → Prop) (t : Nat) : Prop := ∃ i o, L i ∧ ops[i]? = some o ∧ o.dst = some t

open Classical in
noncomputable def envL (ops : Array Oper) (s : Nat → St) (L : Nat → Prop) (t : Nat) : AV := if Done ops L t then (s ops.size).env t else (s 0).env t

structure Inv (P : Program) (N : Fx) (ops : Array Oper) (s : Nat → St) (L : Nat → Prop) (m : Nat) (X : Cx) (act : Act) : Prop where
  le : m ≤ ops.size
  pre : ∀ (i : Nat) o, i < m → ops[i]? = some o → isWr P N o = true → L i
  at_ : m < ops.size → (∃ o, ops[m]? = some o ∧ isWr P N o = true) ∧ ¬ L m
  down : Down ops L
  lt : ∀ i, L i → i < ops.size
  H : X.H = (s m).H
  D : ∀ id, X.D id ↔ id < (s 0).H.length ∨ ∃ i, L i ∧ (s i).H.length ≤ id ∧ id < (s (i + 1)).H.length
  size : act.tmps.size = N.N
  defers : act.defers = []
  env : ∀ t, RA X (envL ops s L t) (act.tmps.getD t undef)

include C hs

omit C in
theorem step_cases {i : Nat} {o : Oper} (hi : ops[i]? = some o) :
    (wantV (s i).env ops o = some false ∧ putV N (s i) o.dst und = some (s (i + 1))) ∨
    (wantV (s i).env ops o = some true ∧ isWr P N o = true ∧ ∃ a L, vwr P T N (s i).H (evo (s i).env) o = some (a, L) ∧ putV N { s i with H := L } o.dst a = some (s (i + 1))) ∨
    (wantV (s i).env ops o = some true ∧ isWr P N o = false ∧ ∃ a news ms, vrd P T N.nest (s i).H (s i).H.length (evo (s i).env) o = some (a, news, ms) ∧ putV N { s i with H := frzAll ((s i).H ++ news) ms } o.dst a = some (s (i + 1))) := by
  obtain ⟨o', ho', h⟩ := hs i (Array.getElem?_eq_some_iff.1 hi).1
  rw [hi] at ho'
  cases ho'
  unfold stepV at h
  split at h
  · rename_i hw
    exact .inl ⟨hw, h⟩
  · rename_i hw
    split at h
    · rename_i hwr
      split at h
      · rename_i a L hv
        exact .inr (.inl ⟨hw, hwr, a, L, hv, h⟩)
      · cases h
    · rename_i hwr
      split at h
      · rename_i a news ms hv
        exact .inr (.inr ⟨hw, by simpa using hwr, a, news, ms, hv, h⟩)
      · cases h
  · cases h

omit C hs in
theorem putV_facts {s0 s1 : St} {d : Option Tmp} {a : AV} (h : putV N s0 d a = some s1) : s1.H = s0.H ∧ ∀ t, d = some t → t < N.N ∧ s1.env t = a := by
  unfold putV at h
  split at h
  · cases h
    exact ⟨rfl, fun t h => by cases h⟩
  · split at h
    case isFalse => cases h
    rename_i d hd
    cases h
    refine ⟨rfl, fun t h => ?_⟩
    cases h
    exact ⟨hd, by simp [upd]⟩

omit C in
theorem len_step (hT : TOk P T) {i : Nat} {o : Oper} (hi : ops[i]? = some o) : (s i).H.length ≤ (s (i + 1)).H.length ∧ (pureOp P o = true → (s (i + 1)).H.length = (s i).H.length) := by
  rcases step_cases hs hi with ⟨_, h⟩ | ⟨_, hw, a, L, hv, h⟩ | ⟨_, hw, a, news, ms, hv, h⟩
  · rw [(putV_facts h).1]
    exact ⟨Nat.le_refl _, fun _ => rfl⟩
  · rw [(putV_facts h).1]
    exact ⟨vwr_len hT hv, fun hp => by rw [wr_not_pure hw] at hp; cases hp⟩
  · rw [(putV_facts h).1]
    simp only [frzAll_length, List.length_append]
    refine ⟨by omega, fun hp => ?_⟩
    have := (vrd_pure hp hv).1
    simp only [Prod.mk.injEq] at this
    rw [this.1]
    rfl

omit C hs in
theorem ids_of {n : Nat} {id : Nat} (h : id < (s n).H.length) : id < (s 0).H.length ∨ ∃ i, i < n ∧ (s i).H.length ≤ id ∧ id < (s (i + 1)).H.length := by
  induction n with
  | zero => exact .inl h
  | succ n ih =>
    by_cases hlt : id < (s n).H.length
    · rcases ih hlt with h | ⟨i, h1, h2⟩
      · exact .inl h
      · exact .inr ⟨i, by omega, h2⟩
    · exact .inr ⟨n, by omega, by omega, h⟩

omit C in
theorem len_mono (hT : TOk P T) {a b : Nat} (hab : a ≤ b) (hb : b ≤ ops.size) : (s a).H.length ≤ (s b).H.length := by
  induction b with
  | zero => have : a = 0 := by omega
            rw [this]; exact Nat.le_refl _
  | succ b ih =>
    by_cases h : a = b + 1
    · rw [h]; exact Nat.le_refl _
    · exact Nat.le_trans (ih (by omega) (by omega)) (len_step hs hT (Array.getElem?_eq_getElem (show b < ops.size by omega))).1

omit C in
theorem plain_len {i : Nat} {o : Oper} (hi : ops[i]? = some o) (hw : isWr P N o = false) (hp : plainRd o = true) : (s (i + 1)).H.length = (s i).H.length := by
  rcases step_cases hs hi with ⟨_, h⟩ | ⟨_, hw', a, L, hv, h⟩ | ⟨_, hw', a, news, ms, hv, h⟩
  · rw [(putV_facts h).1]
  · rw [hw] at hw'; cases hw'
  · rw [(putV_facts h).1]
    have := vrd_plain hp hv
    simp only [Prod.mk.injEq] at this
    obtain ⟨rfl, rfl⟩ := this
    simp [frzAll]

/-- What is made in the region, as it is told later on. -/
theorem alloc_at {a k : Nat} {q : Oper} {t : Tmp} {ty : TypeId} (ha : ops[a]? = some q) (hd : q.dst = some t) (hop : q.op = .alloc ty) (hk : a < k) (hks : k ≤ ops.size) :
    (s k).env t = und ∨ (s k).env t = .one (.ptr ⟨(s a).H.length, 0, 0, 1⟩) := by
  have e1 := env_of (t := t) hs (a := a + 1) (b := k) hk hks (fun j o' k1 k2 hj hd' => by
    have := C.dst j a o' q t hj ha hd' hd
    omega)
  rw [e1]
  rcases step_cases hs ha with ⟨_, h⟩ | ⟨_, hw', x, L, hv, h⟩ | ⟨_, hw', x, news, ms, hv, h⟩
  · exact .inl ((putV_facts h).2 t hd).2
  · unfold isWr at hw'
    rw [hop] at hw'
    cases hw'
  · right
    rw [((putV_facts h).2 t hd).2]
    unfold vrd at hv
    simp only [hop] at hv
    unfold valloc at hv
    split at hv
    · split at hv
      · cases hv; rfl
      · cases hv
    · cases hv

/-- From an operation on, where whatever writes writes nothing that was there. -/
theorem softs (hT : TOk P T) {i b : Nat} (hib : i ≤ b) (hb : b ≤ ops.size) (h : ∀ (k : Nat) q, i ≤ k → k < b → ops[k]? = some q → isWr P N q = false ∨ i < k ∧ softW P ops q k i = true) : Sub (s i).H (s b).H := by
  induction b with
  | zero => have : i = 0 := by omega
            rw [this]
            exact fun id e he => ⟨e, he, .inl rfl⟩
  | succ b ih =>
    by_cases hib' : i = b + 1
    · rw [hib']
      exact fun id e he => ⟨e, he, .inl rfl⟩
    · have U := ih (by omega) (by omega) fun k q h1 h2 => h k q h1 (by omega)
      obtain ⟨o, ho, _⟩ := hs b (by omega)
      rcases h b o (by omega) (Nat.lt_succ_self _) ho with hw | ⟨hlt, hsw⟩
      · exact U.trans (step_sub hs ho hw)
      · rcases step_cases hs ho with ⟨_, h⟩ | ⟨_, hw', x, L, hv, h⟩ | ⟨_, hw', x, news, ms, hv, h⟩
        · rw [(putV_facts h).1]; exact U
        · rw [(putV_facts h).1]
          unfold softW at hsw
          unfold vwr at hv
          split at hsw
          · rename_i c hop
            split at hsw
            case h_2 => cases hsw
            rename_i g hcal
            simp only [hop, hcal] at hv
            split at hv
            case isFalse => cases hv
            split at hv
            case h_2 => cases hv
            obtain ⟨K, rfl⟩ := (hT.2 _ _ _ _ _ hv).1.2 hsw
            exact U.trans (sub_append _ _)
          · rename_i hop
            simp only [hop] at hv
            split at hv
            case h_2 => cases hv
            unfold vconvW at hv
            split at hv
            · split at hv
              · split at hv
                · cases hv
                · cases hv; exact U.trans (sub_append _ _)
              · cases hv
            · split at hv
              · split at hv
                · split at hv
                  · cases hv; exact U
                  · cases hv
                · cases hv
              · cases hv
          · rename_i ty t x0 hop
            simp only [hop] at hv
            split at hv
            case h_2 => cases hv
            rename_i av xv hav hxv
            obtain ⟨K, hst, he⟩ := Option.map_eq_some_iff.1 hv
            cases he
            obtain ⟨a, ha, hq⟩ := List.any_eq_true.1 hsw
            rw [Bool.and_eq_true] at hq
            have hia : i < a := of_decide_eq_true hq.1
            have hab : a < b := List.mem_range.1 ha
            have hq2 := hq.2
            split at hq2
            case h_2 => cases hq2
            rename_i q hqa
            rw [Bool.and_eq_true] at hq2
            have hqd : q.dst = some t := by simpa using hq2.1
            have hqo : ∃ ty, q.op = .alloc ty := by
              have := hq2.2
              split at this
              · rename_i ty' h'; exact ⟨ty', h'⟩
              · cases this
            obtain ⟨ty', hqo⟩ := hqo
            have hav' : av = (s b).env t := by simpa [evo] using hav.symm
            rcases alloc_at C hs hqa hqd hqo hab (by omega) with hu | hu
            · rw [hav', hu] at hst
              simp [vstore, und] at hst
            · rw [hav', hu] at hst
              intro id e he
              obtain ⟨e', g1, g2⟩ := U id e he
              have hidl := (List.getElem?_eq_some_iff.1 he).1
              have hm := len_mono hs hT (a := i) (b := a) (by omega) (by omega)
              obtain ⟨e2, g3, g4⟩ := vstore_sub hst (id := id) (by show id ≠ (s a).H.length; omega) g1
              exact ⟨e2, g3, g2.trans g4⟩
          · cases hsw
        · rw [(putV_facts h).1]
          exact U.trans ((sub_append _ _).trans (sub_frz _ _))

/-- What an operation reads is what the run in the text's order reads. -/
theorem reads_env {L : Nat → Prop} (hL : Down ops L) {i : Nat} {o : Oper} (hi : ops[i]? = some o) (hn : ¬ L i) (hr : ∀ e ∈ o.after, Region.binds .any e = true → L e.on) {t : Nat} (ht : t ∈ o.looksAt ops) :
    (s i).env t = envL ops s L t := by
  have hsz := (Array.getElem?_eq_some_iff.1 hi).1
  have hB := down_bef C hL (i + 1) i (Nat.lt_succ_self _) o hi hr
  unfold envL
  by_cases hw : ∃ (j : Nat) (q : Oper), ops[j]? = some q ∧ q.dst = some t
  · obtain ⟨j, q, hj, hq⟩ := hw
    have hjs := (Array.getElem?_eq_some_iff.1 hj).1
    rcases C.reads i j o q t hi hj ht hq with ⟨h1, h2⟩ | ⟨h1, h2⟩
    · rw [if_pos ⟨j, q, hB j h2, hj, hq⟩]
      have e1 := env_of (t := t) hs (a := j + 1) (b := i) (by omega) (by omega) (fun k o' k1 k2 hk hd => by
        have := C.dst k j o' q t hk hj hd hq
        omega)
      have e2 := env_of (t := t) hs (a := j + 1) (b := ops.size) (by omega) (by omega) (fun k o' k1 k2 hk hd => by
        have := C.dst k j o' q t hk hj hd hq
        omega)
      rw [e1, e2]
    · have hnj : ¬ Done ops L t := by
        rintro ⟨k, o', hk, hk', hd⟩
        have hkj := C.dst k j o' q t hk' hj hd hq
        subst hkj
        exact hn (down_bef C hL (k + 1) k (Nat.lt_succ_self _) q hj (fun e he hb => hL k q e hk hj he hb) i h2)
      rw [if_neg hnj]
      exact env_of (t := t) hs (a := 0) (b := i) (by omega) (by omega) (fun k o' k1 k2 hk hd => by
        have := C.dst k j o' q t hk hj hd hq
        omega)
  · have hnj : ¬ Done ops L t := fun ⟨k, o', hk, hk', hd⟩ => hw ⟨k, o', hk', hd⟩
    rw [if_neg hnj]
    exact env_of (t := t) hs (a := 0) (b := i) (by omega) (by omega) (fun k o' k1 k2 hk hd => hw ⟨k, o', hk, hd⟩)

/-- The slots behind one operation more. -/
theorem envL_step {L : Nat → Prop} {i : Nat} {o : Oper} (hi : ops[i]? = some o) {t : Nat} :
    envL ops s (fun j => L j ∨ j = i) t = if o.dst = some t then (s (i + 1)).env t else envL ops s L t := by
  have hsz := (Array.getElem?_eq_some_iff.1 hi).1
  unfold envL
  by_cases hd : o.dst = some t
  · rw [if_pos hd, if_pos ⟨i, o, .inr rfl, hi, hd⟩]
    exact env_of (t := t) hs (a := i + 1) (b := ops.size) (by omega) (by omega) (fun k o' k1 k2 hk hd' => by
      have := C.dst k i o' o t hk hi hd' hd
      omega)
  · rw [if_neg hd]
    have : Done ops (fun j => L j ∨ j = i) t ↔ Done ops L t := by
      constructor
      · rintro ⟨k, o', hk | rfl, hk', hd'⟩
        · exact ⟨k, o', hk, hk', hd'⟩
        · rw [hi] at hk'
          cases hk'
          exact absurd hd' hd
      · rintro ⟨k, o', hk, hk', hd'⟩
        exact ⟨k, o', .inl hk, hk', hd'⟩
    by_cases hx : Done ops L t
    · rw [if_pos hx, if_pos (this.2 hx)]
    · rw [if_neg hx, if_neg (fun h => hx (this.1 h))]

omit C hs in
theorem next_wr (N : Fx) (ops : Array Oper) (k : Nat) (hk : k ≤ ops.size) : ∃ m, k ≤ m ∧ m ≤ ops.size ∧ (m < ops.size → ∃ q, ops[m]? = some q ∧ isWr P N q = true) ∧ ∀ (j : Nat) q, k ≤ j → j < m → ops[j]? = some q → isWr P N q = false := by
  obtain ⟨d, hd⟩ : ∃ d, ops.size - k = d := ⟨_, rfl⟩
  induction d generalizing k with
  | zero => exact ⟨k, Nat.le_refl _, hk, fun h => by omega, fun j q h1 h2 => by omega⟩
  | succ d ih =>
    have hlt : k < ops.size := by omega
    have hq : ops[k]? = some ops[k] := Array.getElem?_eq_getElem hlt
    cases hw : isWr P N ops[k] with
    | true => exact ⟨k, Nat.le_refl _, hk, fun _ => ⟨_, hq, hw⟩, fun j q h1 h2 => by omega⟩
    | false =>
      obtain ⟨m, h1, h2, h3, h4⟩ := ih (k + 1) (by omega) (by omega)
      refine ⟨m, by omega, h2, h3, fun j q k1 k2 hj => ?_⟩
      by_cases hjk : j = k
      · rw [hjk, hq] at hj
        cases hj
        exact hw
      · exact h4 j q (by omega) k2 hj

/-- One operation more is done. -/
theorem inv_step (hT : TOk P T) (hLf : LateF P T N ops fl s) {X0 X : Cx} (S : SR X) (M : Dom X) {L : Nat → Prop} {m : Nat} {act : Act} (I : Inv P N ops s L m X act) {i : Nat} {o : Oper} (hi : ops[i]? = some o) (hn : ¬ L i)
    (hr : ∀ e ∈ o.after, Region.binds .any e = true → L e.on) (hX : Nxt X0 X) {K : Act → World → Prop} {Q : Exit → Act → World → Prop}
    (hK : ∀ Y act' m', Nxt X0 Y → Inv P N ops s (fun j => L j ∨ j = i) m' Y act' → K act' Y.w) : wpOp P ops Q i K act X.w := by
  have hsz := (Array.getElem?_eq_some_iff.1 hi).1
  have hB := down_bef C I.down (i + 1) i (Nat.lt_succ_self _) o hi hr
  have hBL : ∀ j q, L j → ops[j]? = some q → ∀ k, B j k → L k := fun j q hj hq => down_bef C I.down (j + 1) j (Nat.lt_succ_self _) q hq fun e he hb => I.down j q e hj hq he hb
  have henv : ∀ t, t ∈ o.looksAt ops → (s i).env t = envL ops s L t := fun t ht => reads_env C hs I.down hi hn hr ht
  -- what is read beside writes makes nothing
  have hfl : ∀ (j : Nat) q, j ∈ fl → ops[j]? = some q → (s (j + 1)).H.length = (s j).H.length ∧ isWr P N q = false := fun j q hj hq => by
    obtain ⟨l1, l2⟩ := hLf j q hj hq
    refine ⟨?_, l1⟩
    rcases step_cases hs hq with ⟨_, h⟩ | ⟨_, hwr, _⟩ | ⟨hw, _, a, news, ms, hv, h⟩
    · rw [(putV_facts h).1]
    · rw [l1] at hwr; cases hwr
    · obtain ⟨a', hv', _⟩ := l2 hw
      rw [hv] at hv'
      cases hv'
      rw [(putV_facts h).1, frzAll_length, List.length_append]
      rfl
  have hdown : Down ops (fun j => L j ∨ j = i) := by
    rintro j q e (hj | rfl) hq he hb
    · exact .inl (I.down j q e hj hq he hb)
    · rw [hi] at hq
      cases hq
      exact .inl (hr e he hb)
  have hlt' : ∀ j, (L j ∨ j = i) → j < ops.size := fun j h => h.elim (I.lt j) (fun e => e ▸ hsz)
  -- the end of it
  have fin : ∀ (Y : Cx) (m' : Nat) (v : Value) (a : AV), Nxt X Y → m' ≤ ops.size → (∀ (k : Nat) q, k < m' → ops[k]? = some q → isWr P N q = true → L k ∨ k = i) → (m' < ops.size → (∃ q, ops[m']? = some q ∧ isWr P N q = true) ∧ ¬ (L m' ∨ m' = i)) →
      Y.H = (s m').H → (∀ id, Y.D id ↔ X.D id ∨ ((s i).H.length ≤ id ∧ id < (s (i + 1)).H.length)) → RA Y a v → (∀ d, o.dst = some d → d < N.N ∧ (s (i + 1)).env d = a) →
      Inv P N ops s (fun j => L j ∨ j = i) m' Y (act.put o.dst v) := by
    intro Y m' v a hN h1 h2 h3 h4 h5 h6 h7
    refine ⟨h1, h2, h3, hdown, hlt', h4, fun id => ?_, by rw [put_size]; exact I.size, by rw [put_defers]; exact I.defers, fun t => ?_⟩
    · rw [h5, I.D]
      constructor
      · rintro ((h | ⟨j, hj, h⟩) | h)
        · exact .inl h
        · exact .inr ⟨j, .inl hj, h⟩
        · exact .inr ⟨i, .inr rfl, h⟩
      · rintro (h | ⟨j, hj | rfl, h⟩)
        · exact .inl (.inl h)
        · exact .inl (.inr ⟨j, hj, h⟩)
        · exact .inr h
    · rw [envL_step C hs hi, getD_put]
      by_cases hd : o.dst = some t
      · obtain ⟨k1, k2⟩ := h7 t hd
        rw [if_pos hd, if_pos ⟨hd, by rw [I.size]; exact k1⟩, k2]
        exact h6
      · rw [if_neg hd, if_neg (fun h => hd h.1)]
        exact hN.ra _ _ (I.env t)
  -- an operation that does not write leaves the phase as it is
  have hphase : isWr P N o = false → (∀ (k : Nat) q, k < m → ops[k]? = some q → isWr P N q = true → L k ∨ k = i) ∧ (m < ops.size → (∃ q, ops[m]? = some q ∧ isWr P N q = true) ∧ ¬ (L m ∨ m = i)) := by
    intro hw
    refine ⟨fun k q h1 h2 h3 => .inl (I.pre k q h1 h2 h3), fun h => ⟨(I.at_ h).1, fun hc => ?_⟩⟩
    rcases hc with hc | hc
    · exact (I.at_ h).2 hc
    · obtain ⟨q, hq, hqw⟩ := (I.at_ h).1
      rw [hc, hi] at hq
      cases hq
      rw [hw] at hqw
      cases hqw
  -- one that hangs on memory stands ahead of the next one that writes, and none that writes is between
  have hahead : i ∉ fl → isWr P N o = false → pureOp P o = false → i < m ∧ ∀ (k : Nat) q, i ≤ k → k < m → ops[k]? = some q → isWr P N q = false ∨ i < k ∧ plainRd o = true ∧ softW P ops q k i = true := by
    intro hnf hw hp
    have h1 : i < m := by
      rcases Nat.lt_or_ge i m with h | h
      · exact h
      · exfalso
        have hm : m < ops.size := by omega
        obtain ⟨⟨q, hq, hqw⟩, hnm⟩ := I.at_ hm
        have hne : m ≠ i := fun e => by
          rw [e, hi] at hq
          cases hq
          rw [hw] at hqw
          cases hqw
        exact hnm (hB m (((C.wr m i q o hq hi hqw hp).2 (by omega)).resolve_right hnf))
    refine ⟨h1, fun k q h2 h3 hq => ?_⟩
    cases hqw : isWr P N q with
    | false => exact .inl rfl
    | true =>
      by_cases hki : k = i
      · rw [hki, hi] at hq
        cases hq
        rw [hw] at hqw
        cases hqw
      · rcases (C.wr k i q o hq hi hqw hp).1 (by omega) with hb | ⟨_, hb⟩ | hb
        · exact (hn (hBL k q (I.pre k q h3 hq hqw) hq i hb)).elim
        · exact .inr ⟨by omega, hb⟩
        · exact absurd hb hnf
  unfold wpOp
  rw [hi]
  dsimp only
  rcases step_cases hs hi with ⟨hw, h⟩ | ⟨hw, hwr, a, K', hv, h⟩ | ⟨hw, hwr, a, news, ms, hv, h⟩
  · -- it is passed over
    rw [wantV_eq henv] at hw
    rw [want_sound I.env hw, if_neg (by simp)]
    obtain ⟨p1, p2⟩ := putV_facts h
    have hD : ∀ id, X.D id ↔ X.D id ∨ ((s i).H.length ≤ id ∧ id < (s (i + 1)).H.length) := fun id => ⟨.inl, fun h => h.elim (fun x => x) fun h => by rw [p1] at h; omega⟩
    cases hwr : isWr P N o with
    | false => exact hK X _ m hX (fin X m undef und (.refl S M) I.le (hphase hwr).1 (hphase hwr).2 I.H hD (und_ra X) p2)
    | true =>
      -- a writer that is passed over
      have him : i = m := by
        have h1 : m ≤ i := by
          rcases Nat.lt_or_ge i m with h | h
          · exact absurd (I.pre i o h hi hwr) hn
          · exact h
        rcases Nat.lt_or_ge m i with h2 | h2
        · exfalso
          have hm : m < ops.size := by omega
          obtain ⟨⟨q, hq, hqw⟩, hnm⟩ := I.at_ hm
          exact hnm (hB m (((C.wr i m o q hi hq hwr (wr_not_pure hqw)).1 h2).resolve_right fun h => h.elim (fun h => by rw [hqw] at h; cases h.1) fun h => by have := (hfl m q h hq).2; rw [hqw] at this; cases this))
        · omega
      subst him
      obtain ⟨m', g1, g2, g3, g4⟩ := next_wr N ops (i + 1) (by omega)
      have hU : Sub X.H (s m').H := by
        rw [I.H]
        have e1 : Sub (s i).H (s (i + 1)).H := by rw [p1]; exact fun id e he => ⟨e, he, .inl rfl⟩
        exact e1.trans (subs hs g1 g2 fun k q k1 k2 hk => g4 k q k1 k2 hk)
      have hdl : ∀ id, X.D id → id < X.H.length := fun id hd => by
        rw [I.H]
        rcases (I.D id).1 hd with h | ⟨j, hj, h1, h2⟩
        · exact Nat.lt_of_lt_of_le h (len_mono hs hT (Nat.zero_le _) (by omega))
        · have hjs := I.lt j hj
          by_cases hji : j < i
          · exact Nat.lt_of_lt_of_le h2 (len_mono hs hT (by omega) (by omega))
          · exfalso
            have hjq : ops[j]? = some ops[j] := Array.getElem?_eq_getElem hjs
            have hne : j ≠ i := fun e => hn (e ▸ hj)
            cases hpj : pureOp P ops[j] with
            | true =>
              have := (len_step hs hT hjq).2 hpj
              omega
            | false =>
              rcases (C.wr i j o _ hi hjq hwr hpj).2 (by omega) with hb | hb
              · exact hn (hBL j _ hj hjq i hb)
              · have := (hfl j _ hb hjq).1
                omega
      obtain ⟨Y, hN, hYH, hYD, hYw⟩ := sub_nxt S M hdl hU
      have := fin Y m' undef und hN g2 (fun k q k1 k2 k3 => by
        rcases Nat.lt_or_ge k (i + 1) with hk | hk
        · rcases Nat.lt_or_ge k i with hk' | hk'
          · exact .inl (I.pre k q hk' k2 k3)
          · exact .inr (by omega)
        · rw [g4 k q hk k1 k2] at k3
          cases k3) (fun hm => ⟨g3 hm, fun hc => by
          obtain ⟨q, hq, hqw⟩ := g3 hm
          rcases hc with hc | hc
          · exact hn (hBL m' q hc hq i (((C.wr m' i q o hq hi hqw (wr_not_pure hwr)).1 (by omega)).resolve_right fun h => h.elim (fun h => by rw [hwr] at h; cases h.1) fun h => by have := (hfl i o h hi).2; rw [hwr] at this; cases this))
          · omega⟩) hYH (fun id => by rw [hYD]; exact hD id) (und_ra Y) p2
      rw [← hYw]
      exact hK Y _ m' (hX.trans hN) this
  · -- it writes
    rw [wantV_eq henv] at hw
    rw [want_sound I.env hw, if_pos rfl]
    left
    have him : i = m := by
      have h1 : m ≤ i := by
        rcases Nat.lt_or_ge i m with h | h
        · exact absurd (I.pre i o h hi hwr) hn
        · exact h
      rcases Nat.lt_or_ge m i with h2 | h2
      · exfalso
        have hm : m < ops.size := by omega
        obtain ⟨⟨q, hq, hqw⟩, hnm⟩ := I.at_ hm
        exact hnm (hB m (((C.wr i m o q hi hq hwr (wr_not_pure hqw)).1 h2).resolve_right fun h => h.elim (fun h => by rw [hqw] at h; cases h.1) fun h => by have := (hfl m q h hq).2; rw [hqw] at this; cases this))
      · omega
    subst him
    obtain ⟨p1, p2⟩ := putV_facts h
    rw [vwr_eq (evo_eq henv), ← I.H] at hv
    have hfull : ∀ id, X.D id ↔ id < X.H.length := fun id => by
      rw [I.H]
      constructor
      · intro hd
        rcases (I.D id).1 hd with h | ⟨j, hj, h1, h2⟩
        · exact Nat.lt_of_lt_of_le h (len_mono hs hT (Nat.zero_le _) (by omega))
        · have hjs := I.lt j hj
          by_cases hji : j < i
          · exact Nat.lt_of_lt_of_le h2 (len_mono hs hT (by omega) (by omega))
          · exfalso
            have hjq : ops[j]? = some ops[j] := Array.getElem?_eq_getElem hjs
            have hne : j ≠ i := fun e => hn (e ▸ hj)
            cases hpj : pureOp P ops[j] with
            | true =>
              have := (len_step hs hT hjq).2 hpj
              omega
            | false =>
              rcases (C.wr i j o _ hi hjq hwr hpj).2 (by omega) with hb | hb
              · exact hn (hBL j _ hj hjq i hb)
              · have := (hfl j _ hb hjq).1
                omega
      · intro hlt
        rcases ids_of hlt with h | ⟨k, k1, k2, k3⟩
        · exact (I.D id).2 (.inl h)
        · have hkq : ops[k]? = some (ops[k]'(by omega)) := Array.getElem?_eq_getElem (by omega)
          refine (I.D id).2 (.inr ⟨k, ?_, k2, k3⟩)
          cases hpk : pureOp P (ops[k]'(by omega)) with
          | true =>
            have := (len_step hs hT hkq).2 hpk
            omega
          | false =>
            rcases (C.wr i k o _ hi hkq hwr hpk).1 k1 with hb | ⟨hb1, hb2, _⟩ | hb
            · exact hB k hb
            · have := plain_len hs hkq hb1 hb2
              omega
            · have := (hfl k _ hb hkq).1
              omega
    obtain ⟨hlen, hdo⟩ := vwr_does hT S M hfull (evo_sound I.env) hv
    refine hdo K Q fun v Y hN hYH hYD hr => ?_
    obtain ⟨m', g1, g2, g3, g4⟩ := next_wr N ops (i + 1) (by omega)
    have hU : Sub Y.H (s m').H := by
      have e1 : Y.H = (s (i + 1)).H := by rw [hYH, p1]
      rw [e1]
      exact subs hs g1 g2 fun k q k1 k2 hk => g4 k q k1 k2 hk
    have hdl : ∀ id, Y.D id → id < Y.H.length := fun id hd => by rw [hYH]; exact (hYD id).1 hd
    obtain ⟨Z, hN2, hZH, hZD, hZw⟩ := sub_nxt hN.sr hN.dom hdl hU
    have hD : ∀ id, Z.D id ↔ X.D id ∨ ((s i).H.length ≤ id ∧ id < (s (i + 1)).H.length) := fun id => by
      rw [hZD, hYD, hfull, p1]
      have e1 : X.H.length = (s i).H.length := by rw [I.H]
      show id < K'.length ↔ _
      constructor
      · intro h
        by_cases hx : id < X.H.length
        · exact .inl hx
        · exact .inr ⟨by omega, h⟩
      · rintro (h | h)
        · omega
        · exact h.2
    have := fin Z m' v a (hN.trans hN2) g2 (fun k q k1 k2 k3 => by
      rcases Nat.lt_or_ge k (i + 1) with hk | hk
      · rcases Nat.lt_or_ge k i with hk' | hk'
        · exact .inl (I.pre k q hk' k2 k3)
        · exact .inr (by omega)
      · rw [g4 k q hk k1 k2] at k3
        cases k3) (fun hm => ⟨g3 hm, fun hc => by
        obtain ⟨q, hq, hqw⟩ := g3 hm
        rcases hc with hc | hc
        · exact hn (hBL m' q hc hq i (((C.wr m' i q o hq hi hqw (wr_not_pure hwr)).1 (by omega)).resolve_right fun h => h.elim (fun h => by rw [hwr] at h; cases h.1) fun h => by have := (hfl i o h hi).2; rw [hwr] at this; cases this))
        · omega⟩) hZH hD (hN2.ra _ _ hr) p2
    rw [← hZw]
    exact hK Z _ m' (hX.trans (hN.trans hN2)) this
  · -- it reads, or makes
    rw [wantV_eq henv] at hw
    rw [want_sound I.env hw, if_pos rfl]
    left
    obtain ⟨p1, p2⟩ := putV_facts h
    rw [vrd_eq (evo_eq henv)] at hv
    obtain ⟨ph1, ph2⟩ := hphase hwr
    have hlen1 : (s (i + 1)).H.length = (s i).H.length + news.length := by
      rw [p1, frzAll_length, List.length_append]
    have hnD : ∀ id, (s i).H.length ≤ id → id < (s i).H.length + news.length → ¬ X.D id := fun id k1 k2 hd => by
      rcases (I.D id).1 hd with h | ⟨j, hj, h1, h2⟩
      · have := len_mono hs hT (Nat.zero_le i) (by omega)
        omega
      · have hjs := I.lt j hj
        have hne : j ≠ i := fun e => hn (e ▸ hj)
        rcases Nat.lt_or_ge j i with hji | hji
        · have := len_mono hs hT (a := j + 1) (b := i) (by omega) (by omega)
          omega
        · have := len_mono hs hT (a := i + 1) (b := j) (by omega) (by omega)
          omega
    have hdo : OpDoes P X (s i).H.length (a, news, ms) o act ∧ News X (s i).H.length news ∧ Given X ms := by
      by_cases hif : i ∈ fl
      · obtain ⟨_, l2⟩ := hLf i o hif hi
        have hw' : wantV (s i).env ops o = some true := by rw [wantV_eq henv]; exact hw
        obtain ⟨a', g1, g2⟩ := l2 hw'
        rw [vrd_eq (evo_eq henv)] at g1
        rw [hv] at g1
        cases g1
        have g3 := g2 m I.le (by
          rcases Nat.lt_or_ge m ops.size with h | h
          · exact .inr (I.at_ h).1
          · exact .inl (by have := I.le; omega))
        rw [vrd_eq (evo_eq henv), ← I.H] at g3
        exact ⟨vrd_does hT.1 S M (evo_sound I.env) g3, (fun k e hk => by simp at hk), fun id hid => by cases hid⟩
      cases hp : pureOp P o with
      | true =>
        obtain ⟨q1, q2⟩ := vrd_pure hp hv
        simp only [Prod.mk.injEq] at q1
        obtain ⟨rfl, rfl⟩ := q1
        exact ⟨vrd_does hT.1 S M (evo_sound I.env) (q2 _ _), (fun k e hk => by simp at hk), fun id hid => by cases hid⟩
      | false =>
        obtain ⟨h1, h2⟩ := hahead hif hwr hp
        have U0 : Sub (s i).H X.H := by
          rw [I.H]
          exact softs C hs hT (Nat.le_of_lt h1) I.le fun k q k1 k2 hk => (h2 k q k1 k2 hk).imp_right fun h => ⟨h.1, h.2.2⟩
        have U1 : Sub (s (i + 1)).H X.H := by
          cases hpl : plainRd o with
          | true =>
            have e1 := vrd_plain hpl hv
            simp only [Prod.mk.injEq] at e1
            obtain ⟨rfl, rfl⟩ := e1
            rw [p1]
            have : frzAll ((s i).H ++ []) [] = (s i).H := by simp [frzAll]
            rw [this]
            exact U0
          | false =>
            rw [I.H]
            exact subs hs (by omega) I.le fun k q k1 k2 hk => (h2 k q (by omega) k2 hk).resolve_right fun h => by rw [hpl] at h; cases h.2.1
        refine ⟨vrd_does hT.1 S M (evo_sound I.env) (U0.vrd hv), fun k e hk => ⟨?_, ?_⟩, fun id hid hd => ?_⟩
        · have := (List.getElem?_eq_some_iff.1 hk).1
          exact hnD _ (by omega) (by omega)
        · have hk' : ((s i).H ++ news)[(s i).H.length + k]? = some e := by
            rw [List.getElem?_append_right (by omega)]
            simpa using hk
          have U2 : Sub ((s i).H ++ news) X.H := by
            have : Sub ((s i).H ++ news) (s (i + 1)).H := by rw [p1]; exact sub_frz _ ms
            exact this.trans U1
          exact U2 _ _ hk'
        · obtain ⟨e, he⟩ := M id hd
          refine ⟨e, he, ?_⟩
          -- it was given up, and is so still
          have hX' : id < (s (i + 1)).H.length ∨ ¬ id < (s (i + 1)).H.length := Nat.lt_or_ge _ _ |>.imp (fun h => h) (fun h => by omega)
          rcases hX' with hlt | hge
          · have hg := List.getElem?_eq_getElem hlt
            obtain ⟨e', g1, g2⟩ := U1 _ _ hg
            rw [he] at g1
            cases g1
            have hfz : ∃ e0 : Ent, (s (i + 1)).H[id] = e0.frz := by
              have : (s (i + 1)).H[id]? = ((s i).H ++ news)[id]?.map Ent.frz := by
                rw [p1, frzAll_get, if_pos hid]
              rw [hg] at this
              cases h0 : ((s i).H ++ news)[id]? with
              | none => rw [h0] at this; cases this
              | some e0 =>
                rw [h0] at this
                simp only [Option.map_some, Option.some.injEq] at this
                exact ⟨e0, this⟩
            obtain ⟨e0, h0⟩ := hfz
            rcases g2 with g2 | g2
            · rw [g2, h0]; cases e0 <;> rfl
            · rw [g2]; cases (s (i + 1)).H[id] <;> rfl
          · -- an entry that was not there when it was given up: it was nothing
            exfalso
            have := given_mem hv hid
            omega
    obtain ⟨d1, d2, d3⟩ := hdo
    refine d1 d2 d3 K Q fun v Y hY hr => ?_
    have hN := hY.nxt S
    exact hK Y _ m (hX.trans hN) (fin Y m v a hN I.le ph1 ph2 (hY.ext.H.trans I.H) (fun id => by rw [hY.D, hlen1]) hr p2)

end

end Go.Proofs.Vm
end

section
/- Regions whose order is open: what is looked up of them, and functions. -/
namespace Go.Proofs.Vm
open Go

variable {P : Program}

def unl (L : Array Bool) : Nat → Nat
  | 0 => 0
  | k + 1 => unl L k + if L.getD k false = true then 0 else 1

theorem unl_zero {L : Array Bool} : ∀ {n : Nat}, unl L n = 0 → ∀ i, i < n → L.getD i false = true
  | 0, _, i, h => by omega
  | n + 1, h, i, hi => by
    simp only [unl] at h
    by_cases hl : L.getD n false = true
    · by_cases hin : i = n
      · rw [hin]; exact hl
      · exact unl_zero (n := n) (by omega) i (by omega)
    · rw [if_neg hl] at h
      omega

theorem unl_set {L : Array Bool} {i : Nat} (hs : i < L.size) (hl : ¬ L.getD i false = true) : ∀ {n : Nat}, (i < n → unl (L.setIfInBounds i true) n + 1 = unl L n) ∧ (n ≤ i → unl (L.setIfInBounds i true) n = unl L n)
  | 0 => ⟨fun h => by omega, fun _ => rfl⟩
  | n + 1 => by
    obtain ⟨h1, h2⟩ := unl_set hs hl (n := n)
    have hget : ∀ k, (L.setIfInBounds i true).getD k false = if k = i then true else L.getD k false := by
      intro k
      by_cases hk : k = i
      · subst hk
        simp [hs]
      · rw [if_neg hk]
        simp only [Array.getD_eq_getD_getElem?]
        rw [Array.getElem?_setIfInBounds_ne (fun e => hk e.symm)]
    refine ⟨fun h => ?_, fun h => ?_⟩
    · simp only [unl, hget]
      by_cases hn : n = i
      · subst hn
        rw [if_pos rfl, if_pos rfl, if_neg hl, h2 (Nat.le_refl _)]
      · rw [if_neg hn]
        have := h1 (by omega)
        omega
    · simp only [unl, hget]
      have hn : ¬ n = i := by omega
      rw [if_neg hn, h2 (by omega)]

theorem unl_le {L : Array Bool} : ∀ n, unl L n ≤ n
  | 0 => Nat.le_refl _
  | n + 1 => by
    have := unl_le (L := L) n
    simp only [unl]
    split <;> omega

theorem drew_nxt {X : Cx} (S : SR X) (M : Dom X) (d : Nat) (hdr : X.w.drawn ≤ d) : Nxt X { X with w := { X.w with drawn := d } } := by
  have E : Ext X { X with w := { X.w with drawn := d } } := ⟨rfl, rfl, fun _ h => h, rfl, fun _ _ => rfl, fun _ h => h, Nat.le_refl _, fun _ _ => rfl, ⟨⟨rfl, rfl⟩, rfl, hdr⟩⟩
  have SY := S.ext E (fun _ h => h) (fun _ h => .inl h) S.imm
  exact ⟨SY, M, rfl, rfl, fun _ h => h, fun _ h => h, fun _ h => .inl h, fun _ _ h => E.ra S h⟩

theorem okRs_mem {T : Tab} {nest : Bool} {H : Hp} : ∀ {l : List LateR}, okRs P T nest H l → ∀ x ∈ l, vrd P T nest H x.2.2.1 (evo x.2.1) x.1 = some (x.2.2.2, [], [])
  | [], _, x, h => by simp at h
  | y :: l, h, x, hx => by
    rcases List.mem_cons.1 hx with rfl | hx
    · exact h.1
    · exact okRs_mem h.2 x hx
theorem okHs_mem {T : Tab} {nest : Bool} {o : Oper} {e : Nat → AV} {nid : Nat} {a : AV} : ∀ {l : List Hp}, okHs P T nest o e nid a l → ∀ h ∈ l, vrd P T nest h nid (evo e) o = some (a, [], [])
  | [], _, x, h => by simp at h
  | y :: l, h, x, hx => by
    rcases List.mem_cons.1 hx with rfl | hx
    · exact h.1
    · exact okHs_mem h.2 x hx
theorem late_rd {N : Fx} {o : Oper} (h : lateOp o = true) : isWr P N o = false := by
  unfold lateOp at h
  unfold isWr
  split at h <;> first | (cases h; done) | simp_all
/-- What a run with reads beside writes has shown. -/
theorem runW_trail {T : Tab} {N : Fx} {ops : Array Oper} {fl : List Nat} : ∀ (os : List Oper) (i : Nat) (hs : List Hp) (rs : List LateR) (s s' : St), runW P T N ops fl i os hs rs s = some s' → (∀ j o, os[j]? = some o → ops[i + j]? = some o) →
    ∃ f : Nat → St, f i = s ∧ f (i + os.length) = s' ∧ (∀ k, i ≤ k → k < i + os.length → ∃ o, ops[k]? = some o ∧ stepV P T N ops o (f k) = some (f (k + 1))) ∧
      (∀ j o, j ∈ fl → i ≤ j → j < i + os.length → ops[j]? = some o → isWr P N o = false ∧ (wantV (f j).env ops o = some true → ∃ a, vrd P T N.nest (f j).H (f j).H.length (evo (f j).env) o = some (a, [], []) ∧ (∀ h ∈ hs, vrd P T N.nest h (f j).H.length (evo (f j).env) o = some (a, [], [])) ∧
        ∀ m, i ≤ m → m ≤ i + os.length → (m = i + os.length ∨ ∃ q, ops[m]? = some q ∧ isWr P N q = true) → vrd P T N.nest (f m).H (f j).H.length (evo (f j).env) o = some (a, [], []))) ∧
      (∀ x ∈ rs, ∀ m, i ≤ m → m ≤ i + os.length → (m = i + os.length ∨ ∃ q, ops[m]? = some q ∧ isWr P N q = true) → vrd P T N.nest (f m).H x.2.2.1 (evo x.2.1) x.1 = some (x.2.2.2, [], []))
  | [], i, hs, rs, s, s', h, _ => by
    unfold runW at h
    split at h
    case isFalse => cases h
    rename_i hr
    cases h
    refine ⟨fun _ => s, rfl, rfl, fun k h1 h2 => by simp at h2; omega, fun j o _ h1 h2 => by simp at h2; omega, fun x hx m h1 h2 _ => okRs_mem hr x hx⟩
  | o :: os, i, hs, rs, s, s', h, ho => by
    have hoi : ops[i]? = some o := by have := ho 0 o rfl; simpa using this
    have ho' : ∀ j q, os[j]? = some q → ops[i + 1 + j]? = some q := fun j q hj => by
      have := ho (j + 1) q (by simpa using hj)
      rwa [show i + (j + 1) = i + 1 + j by omega] at this
    have hlen : i + (o :: os).length = i + 1 + os.length := by rw [List.length_cons]; omega
    rw [hlen]
    -- the trail of the rest, with this state ahead
    have glue : ∀ (g : Nat → St) (s1 : St), g (i + 1) = s1 → stepV P T N ops o s = some s1 → (∀ k, i + 1 ≤ k → k < i + 1 + os.length → ∃ o, ops[k]? = some o ∧ stepV P T N ops o (g k) = some (g (k + 1))) →
        ∀ k, i ≤ k → k < i + 1 + os.length → ∃ o', ops[k]? = some o' ∧ stepV P T N ops o' ((fun k => if k = i then s else g k) k) = some ((fun k => if k = i then s else g k) (k + 1)) := fun g s1 g1 hst hg k h1 h2 => by
      by_cases e : k = i
      · subst e
        refine ⟨o, hoi, ?_⟩
        simp only [if_true]
        rw [if_neg (by omega), g1]
        exact hst
      · obtain ⟨q, q1, q2⟩ := hg k (by omega) h2
        refine ⟨q, q1, ?_⟩
        simp only [e, if_false]
        rw [if_neg (by omega)]
        exact q2
    unfold runW at h
    by_cases hif : i ∈ fl
    · rw [if_pos hif] at h
      by_cases hlo : lateOp o = true
      rotate_left
      · rw [if_neg hlo] at h; cases h
      rw [if_pos hlo] at h
      have hwr : isWr P N o = false := late_rd hlo
      have noi : ¬ ∃ q, ops[i]? = some q ∧ isWr P N q = true := fun ⟨q, q1, q2⟩ => by rw [hoi] at q1; cases q1; rw [hwr] at q2; cases q2
      split at h
      · -- passed over
        rename_i hw
        split at h
        case h_2 => cases h
        rename_i s1 hp
        obtain ⟨g, g0, gn, gs, gl, gr⟩ := runW_trail os (i + 1) hs rs s1 s' h ho'
        refine ⟨fun k => if k = i then s else g k, by simp, by simp only; rw [if_neg (by omega)]; exact gn, glue g s1 g0 (by unfold stepV; rw [hw]; exact hp) gs, fun j q hj h1 h2 hq => ?_, fun x hx m h1 h2 h3 => ?_⟩
        · by_cases e : j = i
          · subst e
            rw [hoi] at hq
            cases hq
            refine ⟨hwr, fun hw2 => ?_⟩
            simp only [if_true] at hw2
            rw [hw] at hw2; cases hw2
          · obtain ⟨l1, l2⟩ := gl j q hj (by omega) h2 hq
            refine ⟨l1, fun hw2 => ?_⟩
            simp only [e, if_false] at hw2 ⊢
            obtain ⟨a, a1, a2, a3⟩ := l2 hw2
            refine ⟨a, a1, a2, fun m m1 m2 m3 => ?_⟩
            have hmi : m ≠ i := fun e => by rcases m3 with m3 | m3; · omega
                                            exact noi (e ▸ m3)
            rw [if_neg hmi]
            exact a3 m (by omega) m2 m3
        · have hmi : m ≠ i := fun e => by rcases h3 with h3 | h3; · omega
                                          exact noi (e ▸ h3)
          simp only [hmi, if_false]
          exact gr x hx m (by omega) h2 h3
      · rename_i hw
        split at h
        case h_2 => cases h
        rename_i a hv
        split at h
        case isFalse => cases h
        rename_i hh
        split at h
        case h_2 => cases h
        rename_i s1 hp
        obtain ⟨g, g0, gn, gs, gl, gr⟩ := runW_trail os (i + 1) hs _ s1 s' h ho'
        have hst : stepV P T N ops o s = some s1 := by
          unfold stepV
          rw [hw]
          dsimp only
          rw [if_neg (by rw [hwr]; decide), hv]
          dsimp only
          have : frzAll (s.H ++ []) [] = s.H := by simp [frzAll]
          rw [this]
          exact hp
        refine ⟨fun k => if k = i then s else g k, by simp, by simp only; rw [if_neg (by omega)]; exact gn, glue g s1 g0 hst gs, fun j q hj h1 h2 hq => ?_, fun x hx m h1 h2 h3 => ?_⟩
        · by_cases e : j = i
          · subst e
            rw [hoi] at hq
            cases hq
            refine ⟨hwr, fun _ => ⟨a, by simpa using hv, fun h hh2 => by simpa using okHs_mem hh h hh2, fun m m1 m2 m3 => ?_⟩⟩
            have hmi : m ≠ j := fun e => by rcases m3 with m3 | m3; · omega
                                            exact noi (e ▸ m3)
            simp only [hmi, if_false, if_true]
            exact gr _ List.mem_cons_self m (by omega) m2 m3
          · obtain ⟨l1, l2⟩ := gl j q hj (by omega) h2 hq
            refine ⟨l1, fun hw2 => ?_⟩
            simp only [e, if_false] at hw2 ⊢
            obtain ⟨a, a1, a2, a3⟩ := l2 hw2
            refine ⟨a, a1, a2, fun m m1 m2 m3 => ?_⟩
            have hmi : m ≠ i := fun e => by rcases m3 with m3 | m3; · omega
                                            exact noi (e ▸ m3)
            rw [if_neg hmi]
            exact a3 m (by omega) m2 m3
        · have hmi : m ≠ i := fun e => by rcases h3 with h3 | h3; · omega
                                          exact noi (e ▸ h3)
          simp only [hmi, if_false]
          exact gr x (List.mem_cons_of_mem _ hx) m (by omega) h2 h3
      · cases h
    · rw [if_neg hif] at h
      by_cases hwr : isWr P N o = true
      · rw [if_pos hwr] at h
        split at h
        case isFalse => cases h
        rename_i hok
        split at h
        case h_2 => cases h
        rename_i s1 hst
        obtain ⟨g, g0, gn, gs, gl, gr⟩ := runW_trail os (i + 1) (s.H :: hs) rs s1 s' h ho'
        refine ⟨fun k => if k = i then s else g k, by simp, by simp only; rw [if_neg (by omega)]; exact gn, glue g s1 g0 hst gs, fun j q hj h1 h2 hq => ?_, fun x hx m h1 h2 h3 => ?_⟩
        · have e : j ≠ i := fun e => hif (e ▸ hj)
          obtain ⟨l1, l2⟩ := gl j q hj (by omega) h2 hq
          refine ⟨l1, fun hw2 => ?_⟩
          simp only [e, if_false] at hw2 ⊢
          obtain ⟨a, a1, a2, a3⟩ := l2 hw2
          refine ⟨a, a1, fun h hh => a2 h (List.mem_cons_of_mem _ hh), fun m m1 m2 m3 => ?_⟩
          by_cases hmi : m = i
          · rw [if_pos hmi]; exact a2 _ List.mem_cons_self
          · rw [if_neg hmi]
            exact a3 m (by omega) m2 m3
        · by_cases hmi : m = i
          · simp only [hmi, if_true]
            exact okRs_mem hok x hx
          · simp only [hmi, if_false]
            exact gr x hx m (by omega) h2 h3
      · rw [if_neg hwr] at h
        have hwr' : isWr P N o = false := by simpa using hwr
        have noi : ¬ ∃ q, ops[i]? = some q ∧ isWr P N q = true := fun ⟨q, q1, q2⟩ => by rw [hoi] at q1; cases q1; rw [hwr'] at q2; cases q2
        split at h
        case h_2 => cases h
        rename_i s1 hst
        obtain ⟨g, g0, gn, gs, gl, gr⟩ := runW_trail os (i + 1) hs rs s1 s' h ho'
        refine ⟨fun k => if k = i then s else g k, by simp, by simp only; rw [if_neg (by omega)]; exact gn, glue g s1 g0 hst gs, fun j q hj h1 h2 hq => ?_, fun x hx m h1 h2 h3 => ?_⟩
        · have e : j ≠ i := fun e => hif (e ▸ hj)
          obtain ⟨l1, l2⟩ := gl j q hj (by omega) h2 hq
          refine ⟨l1, fun hw2 => ?_⟩
          simp only [e, if_false] at hw2 ⊢
          obtain ⟨a, a1, a2, a3⟩ := l2 hw2
          refine ⟨a, a1, a2, fun m m1 m2 m3 => ?_⟩
          have hmi : m ≠ i := fun e => by rcases m3 with m3 | m3; · omega
                                          exact noi (e ▸ m3)
          rw [if_neg hmi]
          exact a3 m (by omega) m2 m3
        · have hmi : m ≠ i := fun e => by rcases h3 with h3 | h3; · omega
                                          exact noi (e ▸ h3)
          simp only [hmi, if_false]
          exact gr x hx m (by omega) h2 h3

theorem open_okT (hm : P.follows .mixedOrders = true) {N : Fx} {ops : Array Oper} {fl : List Nat} {B : Nat → Nat → Prop} (C : OpenC P N ops fl B) {T : Tab} {X0 : Cx} {id : Nat} {s0 s' : St} {act0 : Act} {Q : Exit → Act → World → Prop} (hT : TOk P T) (S0 : SR X0) (M0 : Dom X0) (R0 : Rel X0 N s0 act0)
    {f : Nat → St} (f0 : f 0 = s0) (fn' : f ops.size = s') (hs : ∀ i, i < ops.size → ∃ o, ops[i]? = some o ∧ stepV P T N ops o (f i) = some (f (i + 1))) (hLf : LateF P T N ops fl f)
    (hQ : ∀ Y act', Nxt X0 Y → Rel Y N s' act' → Q .normal act' Y.w) : (Code.region id ops true).wp P Q act0 X0.w := by
  -- all is done
  have done : ∀ (L : Array Bool) (m : Nat) (X : Cx) (act : Act), (∀ i, i < ops.size → L.getD i false = true) → Nxt X0 X → Inv P N ops f (fun i => L.getD i false = true) m X act → Q .normal act X.w := by
    intro L m X act hall hX I
    have hmn : m = ops.size := by
      rcases Nat.lt_or_ge m ops.size with h | h
      · exact absurd (hall m h) (I.at_ h).2
      · have := I.le; omega
    refine hQ X act hX ⟨by rw [I.H, hmn, fn'], fun id => ?_, I.size, fun k => ?_, I.defers⟩
    · rw [I.D, ← fn']
      constructor
      · rintro (h | ⟨i, hi, h1, h2⟩)
        · exact Nat.lt_of_lt_of_le h (len_mono hs hT (Nat.zero_le _) (Nat.le_refl _))
        · exact Nat.lt_of_lt_of_le h2 (len_mono hs hT (by have := I.lt i hi; omega) (Nat.le_refl _))
      · intro h
        rcases ids_of h with h | ⟨i, h1, h2⟩
        · exact .inl h
        · exact .inr ⟨i, hall i h1, h2⟩
    · have := I.env k
      have he : envL ops f (fun i => L.getD i false = true) k = s'.env k := by
        unfold envL
        split
        · rw [fn']
        · rename_i hnd
          rw [← fn']
          exact (env_of (t := k) hs (Nat.zero_le _) (Nat.le_refl _) (fun i o _ hi ho hd => hnd ⟨i, o, hall i hi, ho, hd⟩)).symm
      rw [he] at this
      exact this
  -- where none is ready all is done
  have none_ready : ∀ (L : Array Bool), L.size = ops.size → Region.ready .any ops L = [] → ∀ n i, i < n → i < ops.size → L.getD i false = true := by
    intro L hL hr n
    induction n with
    | zero => intro i h; omega
    | succ n ih =>
      intro i hi his
      cases hl : L.getD i false with
      | true => rfl
      | false =>
        exfalso
        have hq : ops[i]? = some ops[i] := Array.getElem?_eq_getElem his
        have hd : L.getD i true = false := by
          simp only [Array.getD_eq_getD_getElem?] at hl ⊢
          rw [Array.getElem?_eq_getElem (by omega)] at hl ⊢
          exact hl
        have : i ∈ Region.ready .any ops L := mem_ready.2 ⟨hd, _, hq, fun e he hb => by
          have := C.edge i _ e hq he hb
          exact ih e.on (by omega) (by omega)⟩
        rw [hr] at this
        cases this
  -- every order
  have any : ∀ (fuel : Nat) (L : Array Bool) (m : Nat) (X : Cx) (act : Act), L.size = ops.size → unl L ops.size ≤ fuel → Nxt X0 X → Inv P N ops f (fun i => L.getD i false = true) m X act → wpAny P .any ops Q fuel L act X.w := by
    intro fuel
    induction fuel with
    | zero =>
      intro L m X act hL hu hX I
      have hall := unl_zero (Nat.le_zero.1 hu)
      refine ⟨?_, done L m X act hall hX I⟩
      cases hr : Region.ready .any ops L with
      | nil => rfl
      | cons i r =>
        have : i ∈ Region.ready .any ops L := by rw [hr]; simp
        obtain ⟨h1, o, ho, _⟩ := mem_ready.1 this
        have his := (Array.getElem?_eq_some_iff.1 ho).1
        have := hall i his
        simp only [Array.getD_eq_getD_getElem?] at h1 this
        rw [Array.getElem?_eq_getElem (by omega)] at h1 this
        simp only [Option.getD_some] at h1 this
        rw [h1] at this
        cases this
    | succ fuel ih =>
      intro L m X act hL hu hX I
      refine ⟨fun hr => done L m X act (fun i hi => none_ready L hL hr (i + 1) i (Nat.lt_succ_self _) hi) hX I, fun i hi => ?_⟩
      obtain ⟨h1, o, ho, hedges⟩ := mem_ready.1 hi
      have his := (Array.getElem?_eq_some_iff.1 ho).1
      have hni : ¬ L.getD i false = true := by
        simp only [Array.getD_eq_getD_getElem?] at h1 ⊢
        rw [Array.getElem?_eq_getElem (by omega)] at h1 ⊢
        simp only [Option.getD_some] at h1 ⊢
        rw [h1]
        simp
      refine inv_step C hs hT hLf hX.sr hX.dom I ho hni (fun e he hb => hedges e he hb) hX fun Y act' m' hY IY => ?_
      have hsz : i < L.size := by omega
      refine ih _ m' Y act' (by simp [hL]) (by have := (unl_set hsz hni (n := ops.size)).1 his; omega) hY ?_
      have hset : (fun j => (L.setIfInBounds i true).getD j false = true) = fun j => L.getD j false = true ∨ j = i := by
        funext j
        apply propext
        by_cases hj : j = i
        · subst hj
          simp [hsz]
        · simp only [hj, or_false]
          simp only [Array.getD_eq_getD_getElem?]
          rw [Array.getElem?_setIfInBounds_ne (fun e => hj e.symm)]
      rw [hset]
      exact IY
  refine wp_region_any hm ?_
  have N1 := drew_nxt S0 M0 (X0.w.drawn + 1) (Nat.le_succ _)
  obtain ⟨m, g1, g2, g3, g4⟩ := next_wr N ops 0 (Nat.zero_le _)
  have hU : Sub X0.H (f m).H := by
    rw [R0.H, ← f0]
    exact subs hs g1 g2 fun k q k1 k2 hk => g4 k q k1 k2 hk
  obtain ⟨Y, hN, hYH, hYD, hYw⟩ := sub_nxt N1.sr N1.dom (fun id hd => by
    have := (R0.D id).1 hd
    show id < X0.H.length
    rw [R0.H]
    exact this) hU
  have hw : ({ X0.w with drawn := X0.w.drawn + 1 } : World) = Y.w := hYw.symm
  rw [hw]
  have hnl : ∀ i, ¬ (Array.replicate ops.size false).getD i false = true := fun i => by
    simp only [Array.getD_eq_getD_getElem?, Array.getElem?_replicate]
    split <;> simp
  refine any ops.size _ m Y act0 (by simp) (unl_le _) (N1.trans hN) ⟨g2, fun k q k1 k2 k3 => (by rw [g4 k q (Nat.zero_le _) k1 k2] at k3; cases k3), fun h => ⟨g3 h, hnl m⟩, fun i o e hi => absurd hi (hnl i), fun i hi => absurd hi (hnl i), hYH, fun id => ?_, R0.size, R0.defers, fun t => ?_⟩
  · rw [hYD, f0]
    constructor
    · exact fun h => .inl ((R0.D id).1 h)
    · rintro (h | ⟨i, hi, _⟩)
      · exact (R0.D id).2 h
      · exact absurd hi (hnl i)
  · have : envL ops f (fun i => (Array.replicate ops.size false).getD i false = true) t = s0.env t := by
      unfold envL
      rw [if_neg (fun ⟨i, o, hi, _⟩ => hnl i hi), f0]
    rw [this]
    exact hN.ra _ _ (N1.ra _ _ (R0.env t))

theorem open_ok (hm : P.follows .mixedOrders = true) {N : Fx} {id : Nat} {ops : Array Oper} {B : Nat → Nat → Prop} (C : OpenC P N ops (N.fl id) B) : OpenOk P N id ops := by
  intro T X0 s0 s' act0 Q hT S0 M0 R0 hrun hQ
  unfold runR at hrun
  by_cases hfl : N.fl id = []
  · rw [if_pos hfl] at hrun
    obtain ⟨f, f0, fn, hf⟩ := trail_of ops.toList 0 s0 s' hrun (fun j o hj => by simpa using hj)
    exact open_okT hm C hT S0 M0 R0 f0 (by rw [← fn]; simp) (fun i hi => hf i (Nat.zero_le _) (by simpa using hi)) (fun j o hj => by rw [hfl] at hj; cases hj) hQ
  · rw [if_neg hfl] at hrun
    obtain ⟨f, f0, fn, hf, hl, _⟩ := runW_trail ops.toList 0 [] [] s0 s' hrun (fun j o hj => by simpa using hj)
    refine open_okT hm C hT.late S0 M0 R0 f0 (by rw [← fn]; simp) (fun i hi => hf i (Nat.zero_le _) (by simpa using hi)) (fun j o hj ho => ?_) hQ
    obtain ⟨l1, l2⟩ := hl j o hj (Nat.zero_le _) (by have := (Array.getElem?_eq_some_iff.1 ho).1; simpa using this) ho
    refine ⟨l1, fun hw => ?_⟩
    obtain ⟨a, a1, _, a3⟩ := l2 hw
    exact ⟨a, a1, fun m m1 m2 => a3 m (Nat.zero_le _) (by simpa using m1) (m2.imp (fun h => by simpa using h) fun h => h)⟩

/-- What is looked up, by reckoning. -/
def openB (P : Program) (N : Fx) (fl : List Nat) (ops : Array Oper) : Bool :=
  let b := Region.before ops
  let n := ops.size
  (List.range n).all fun i => match ops[i]? with
    | none => true
    | some o =>
      o.after.all (fun e => !Region.binds .any e || e.on < i) &&
      (List.range n).all (fun j => !(b.getD i 0).testBit j || o.after.any fun e => Region.binds .any e && (e.on == j || (b.getD e.on 0).testBit j)) &&
      (List.range n).all fun j => match ops[j]? with
        | none => true
        | some q =>
          (match q.dst with
            | none => true
            | some t => (i == j || o.dst != some t) && (!(o.looksAt ops).contains t || (j < i && (b.getD i 0).testBit j) || (i < j && (b.getD j 0).testBit i))) &&
          (!isWr P N o || pureOp P q || (!(decide (j < i)) || ((b.getD i 0).testBit j || !isWr P N q && (plainRd q && softW P ops o i j) || fl.contains j)) && (!(decide (i < j)) || ((b.getD j 0).testBit i || fl.contains j)))

theorem open_of {N : Fx} {fl : List Nat} {ops : Array Oper} (h : openB P N fl ops = true) : OpenC P N ops fl (fun i j => j < ops.size ∧ ((Region.before ops).getD i 0).testBit j = true) := by
  unfold openB at h
  have get : ∀ (i : Nat) o, ops[i]? = some o → i < ops.size := fun i o ho => (Array.getElem?_eq_some_iff.1 ho).1
  have main := fun (i : Nat) (o : Oper) (ho : ops[i]? = some o) => List.all_eq_true.1 h i (List.mem_range.2 (get i o ho))
  have m1 : ∀ (i : Nat) o, ops[i]? = some o → _ := fun i o ho => by
    have := main i o ho
    rw [ho] at this
    dsimp only at this
    rw [Bool.and_eq_true, Bool.and_eq_true] at this
    exact this
  have m2 : ∀ (i j : Nat) o q, ops[i]? = some o → ops[j]? = some q → _ := fun i j o q ho hq => by
    have := List.all_eq_true.1 (m1 i o ho).2 j (List.mem_range.2 (get j q hq))
    rw [hq] at this
    dsimp only at this
    rw [Bool.and_eq_true] at this
    exact this
  refine ⟨fun i o e ho he hb => ?_, fun i o j ho hB => ?_, fun i j o q d ho hq hd hd' => ?_, fun i j o q t ho hq ht hd => ?_, fun i j o q ho hq hw hp => ?_, trivial⟩
  · have := Array.all_eq_true_iff_forall_mem.1 (m1 i o ho).1.1 e he
    rw [hb] at this
    simpa using this
  · have := List.all_eq_true.1 (m1 i o ho).1.2 j (List.mem_range.2 hB.1)
    rw [hB.2] at this
    simp only [Bool.not_true, Bool.false_or] at this
    rw [← Array.any_toList] at this
    obtain ⟨e, he, h2⟩ := List.any_eq_true.1 this
    have he : e ∈ o.after := by simpa using he
    rw [Bool.and_eq_true, Bool.or_eq_true] at h2
    refine ⟨e, he, h2.1, h2.2.imp (fun h => beq_iff_eq.1 h) fun h => ⟨hB.1, h⟩⟩
  · have := (m2 i j o q ho hq).1
    rw [hd', hd] at this
    simp only [Bool.and_eq_true] at this
    have := this.1
    simpa using this
  · have := (m2 i j o q ho hq).1
    rw [hd] at this
    simp only [Bool.and_eq_true, Bool.or_eq_true] at this
    rcases this.2 with (h | h) | h
    · have hc : (o.looksAt ops).contains t = true := by simpa using ht
      rw [hc] at h
      cases h
    · exact .inl ⟨by simpa using h.1, get j q hq, h.2⟩
    · exact .inr ⟨by simpa using h.1, get i o ho, h.2⟩
  · have := (m2 i j o q ho hq).2
    rw [hw, hp] at this
    simp only [Bool.not_true, Bool.false_or, Bool.and_eq_true, Bool.or_eq_true] at this
    refine ⟨fun hlt => ?_, fun hlt => ?_⟩
    · rcases this.1 with h | (h | h) | h
      · simp [hlt] at h
      · exact .inl ⟨get j q hq, h⟩
      · exact .inr (.inl ⟨by simpa using h.1, h.2⟩)
      · exact .inr (.inr (by simpa using h))
    · rcases this.2 with h | h | h
      · simp [hlt] at h
      · exact .inl ⟨get i o ho, h⟩
      · exact .inr (by simpa using h)

def codeB (P : Program) (N : Fx) : Code → Bool
  | .region id ops true => openB P N (N.fl id) ops
  | .region id _ false => (N.fl id).isEmpty
  | .seq a b => codeB P N a && codeB P N b
  | .cond _ x y => codeB P N x && codeB P N y
  | .block _ c => codeB P N c
  | .loop c => codeB P N c
  | _ => true

theorem code_ok (hm : P.follows .mixedOrders = true) {N : Fx} : ∀ (c : Code), codeB P N c = true → CodeOk P N c := by
  intro c
  induction c with
  | region id ops draw =>
    intro h
    cases draw with
    | true => exact open_ok hm (open_of h)
    | false => exact List.isEmpty_iff.1 h
  | seq a b iha ihb =>
    intro h
    simp only [codeB, Bool.and_eq_true] at h
    exact ⟨iha h.1, ihb h.2⟩
  | cond c x y ihx ihy =>
    intro h
    simp only [codeB, Bool.and_eq_true] at h
    exact ⟨ihx h.1, ihy h.2⟩
  | block id c ih => exact ih
  | loop c ih => exact ih
  | _ => intro _; trivial

end Go.Proofs.Vm
end

section
/- The value machine's runs, told by what holds at their end. -/
namespace Go.Proofs.Vm
open Go

variable {P : Program} {T : Tab} {N : Fx}

/-- What holds where a code ends. -/
def wpV (P : Program) (T : Tab) (N : Fx) (c : Code) (K : Ex → St → Prop) (s : St) : Prop := ∃ ex s', (∃ m, ∀ n, m ≤ n → vcode P T N n c s = some (ex, s')) ∧ K ex s'

def thenK (A : St → Prop) (K : Ex → St → Prop) : Ex → St → Prop
  | .normal, s => A s
  | .exit id, s => K (.exit id) s
  | .ret, s => K .ret s

def blockK (id : Nat) (K : Ex → St → Prop) : Ex → St → Prop
  | .exit k, s => if k = id then K .normal s else K (.exit k) s
  | .normal, s => K .normal s
  | .ret, s => K .ret s

/-- What holds where some operations end. -/
def wpR (P : Program) (T : Tab) (N : Fx) (ops : Array Oper) (os : List Oper) (K : St → Prop) (s : St) : Prop := ∃ s', runV P T N ops os s = some s' ∧ K s'

def wpS (P : Program) (T : Tab) (N : Fx) (ops : Array Oper) (o : Oper) (K : St → Prop) (s : St) : Prop := ∃ s', stepV P T N ops o s = some s' ∧ K s'

theorem wpV_skip {K : Ex → St → Prop} {s : St} (h : K .normal s) : wpV P T N .skip K s := ⟨_, _, ⟨0, fun _ _ => rfl⟩, h⟩
theorem wpV_exit {K : Ex → St → Prop} {s : St} {id : Nat} (h : K (.exit id) s) : wpV P T N (.exit id) K s := ⟨_, _, ⟨0, fun _ _ => rfl⟩, h⟩
theorem wpV_ret {K : Ex → St → Prop} {s : St} (h : K .ret s) : wpV P T N .ret K s := ⟨_, _, ⟨0, fun _ _ => rfl⟩, h⟩

theorem wpV_region {K : Ex → St → Prop} {s : St} {id : Nat} {ops : Array Oper} {d : Bool} (hf : N.fl id = []) (h : wpR P T N ops ops.toList (K .normal) s) : wpV P T N (.region id ops d) K s := by
  obtain ⟨s', h1, h2⟩ := h
  exact ⟨.normal, s', ⟨0, fun n _ => by simp only [vcode, runR, if_pos hf, h1]⟩, h2⟩

theorem wpR_nil {ops : Array Oper} {K : St → Prop} {s : St} (h : K s) : wpR P T N ops [] K s := ⟨s, rfl, h⟩
theorem wpR_cons {ops : Array Oper} {o : Oper} {r : List Oper} {K : St → Prop} {s : St} (h : wpS P T N ops o (wpR P T N ops r K) s) : wpR P T N ops (o :: r) K s := by
  obtain ⟨s1, h1, s2, h2, h3⟩ := h
  exact ⟨s2, by simp only [runV, h1, h2], h3⟩

theorem wpV_seq {K : Ex → St → Prop} {s : St} {a b : Code} (h : wpV P T N a (thenK (wpV P T N b K) K) s) : wpV P T N (.seq a b) K s := by
  obtain ⟨ex, s1, ⟨m, h1⟩, h2⟩ := h
  cases ex with
  | normal =>
    obtain ⟨ex, s2, ⟨m2, h3⟩, h4⟩ := h2
    exact ⟨ex, s2, ⟨max m m2, fun n hn => by simp only [vcode, h1 n (by omega), h3 n (by omega)]⟩, h4⟩
  | exit id => exact ⟨_, s1, ⟨m, fun n hn => by simp only [vcode, h1 n hn]⟩, h2⟩
  | ret => exact ⟨_, s1, ⟨m, fun n hn => by simp only [vcode, h1 n hn]⟩, h2⟩

theorem wpV_cond {K : Ex → St → Prop} {s : St} {c : Operand} {x y : Code} {t : Bool} (hc : evo s.env c = some (.one (.c (.v (.bool t))))) (h : if t = true then wpV P T N x K s else wpV P T N y K s) : wpV P T N (.cond c x y) K s := by
  cases t with
  | true =>
    obtain ⟨ex, s1, ⟨m, h1⟩, h2⟩ := h
    exact ⟨ex, s1, ⟨m, fun n hn => by simp only [vcode, hc, if_true, h1 n hn]⟩, h2⟩
  | false =>
    obtain ⟨ex, s1, ⟨m, h1⟩, h2⟩ := h
    exact ⟨ex, s1, ⟨m, fun n hn => by simp only [vcode, hc, Bool.false_eq_true, if_false, h1 n hn]⟩, h2⟩

theorem wpV_block {K : Ex → St → Prop} {s : St} {id : Nat} {c : Code} (h : wpV P T N c (blockK id K) s) : wpV P T N (.block id c) K s := by
  obtain ⟨ex, s1, ⟨m, h1⟩, h2⟩ := h
  cases ex with
  | normal => exact ⟨_, s1, ⟨m, fun n hn => by simp only [vcode, h1 n hn]⟩, h2⟩
  | ret => exact ⟨_, s1, ⟨m, fun n hn => by simp only [vcode, h1 n hn]⟩, h2⟩
  | exit k =>
    simp only [blockK] at h2
    by_cases hk : k = id
    · rw [if_pos hk] at h2
      exact ⟨_, s1, ⟨m, fun n hn => by simp only [vcode, h1 n hn, if_pos hk]⟩, h2⟩
    · rw [if_neg hk] at h2
      exact ⟨_, s1, ⟨m, fun n hn => by simp only [vcode, h1 n hn, if_neg hk]⟩, h2⟩

/-- A loop, with a count of its own. -/
def wpL (P : Program) (T : Tab) (N : Fx) (c : Code) (K : Ex → St → Prop) (s : St) : Prop := ∃ ex s', (∃ m k0, ∀ n k, m ≤ n → k0 ≤ k → iter k (vcode P T N n c) s = some (ex, s')) ∧ K ex s'

theorem wpV_loop {K : Ex → St → Prop} {s : St} {c : Code} (h : wpL P T N c K s) : wpV P T N (.loop c) K s := by
  obtain ⟨ex, s1, ⟨m, k0, h1⟩, h2⟩ := h
  exact ⟨ex, s1, ⟨max m k0, fun n hn => by simp only [vcode, h1 n n (by omega) (by omega)]⟩, h2⟩

theorem wpL_step {K : Ex → St → Prop} {s : St} {c : Code} (h : wpV P T N c (thenK (wpL P T N c K) K) s) : wpL P T N c K s := by
  obtain ⟨ex, s1, ⟨m, h1⟩, h2⟩ := h
  have succ : ∀ k, 1 ≤ k → ∃ q, k = q + 1 := fun k hk => ⟨k - 1, by omega⟩
  cases ex with
  | normal =>
    obtain ⟨ex, s2, ⟨m2, k0, h3⟩, h4⟩ := h2
    refine ⟨ex, s2, ⟨max m m2, k0 + 1, fun n k hn hk => ?_⟩, h4⟩
    obtain ⟨q, rfl⟩ := succ k (by omega)
    simp only [iter, h1 n (by omega), h3 n q (by omega) (by omega)]
  | exit id =>
    refine ⟨_, s1, ⟨m, 1, fun n k hn hk => ?_⟩, h2⟩
    obtain ⟨q, rfl⟩ := succ k hk
    simp only [iter, h1 n hn]
  | ret =>
    refine ⟨_, s1, ⟨m, 1, fun n k hn hk => ?_⟩, h2⟩
    obtain ⟨q, rfl⟩ := succ k hk
    simp only [iter, h1 n hn]

/-- A loop by a measure: 'I k s' holds ahead of a round with k rounds to go at most. -/
theorem wpL_ind {K : Ex → St → Prop} {c : Code} (I : Nat → St → Prop) (h : ∀ k s, I k s → wpV P T N c (thenK (fun s' => ∃ j, j < k ∧ I j s') K) s) : ∀ k s, I k s → wpL P T N c K s := by
  intro k
  induction k using Nat.strongRecOn with
  | _ k ih =>
    intro s hI
    refine wpL_step ?_
    obtain ⟨ex, s1, h1, h2⟩ := h k s hI
    refine ⟨ex, s1, h1, ?_⟩
    cases ex with
    | normal =>
      obtain ⟨j, hj, hI'⟩ := h2
      exact ih j hj s1 hI'
    | exit id => exact h2
    | ret => exact h2

theorem wpV_mono {c : Code} {K K' : Ex → St → Prop} {s : St} (h : wpV P T N c K s) (g : ∀ ex s, K ex s → K' ex s) : wpV P T N c K' s := by
  obtain ⟨ex, s1, h1, h2⟩ := h
  exact ⟨ex, s1, h1, g _ _ h2⟩

theorem wpL_mono {c : Code} {K K' : Ex → St → Prop} {s : St} (h : wpL P T N c K s) (g : ∀ ex s, K ex s → K' ex s) : wpL P T N c K' s := by
  obtain ⟨ex, s1, h1, h2⟩ := h
  exact ⟨ex, s1, h1, g _ _ h2⟩

/-- One operation. -/
theorem wpS_rd {ops : Array Oper} {o : Oper} {K : St → Prop} {e : Nat → AV} {H : Hp} {a : AV} {news : List Ent} {ms : List Nat} (hg : o.guard = none) (hw : isWr P N o = false)
    (hv : vrd P T N.nest H H.length (evo e) o = some (a, news, ms)) (h : ∃ s', putV N ⟨e, frzAll (H ++ news) ms⟩ o.dst a = some s' ∧ K s') : wpS P T N ops o K ⟨e, H⟩ := by
  obtain ⟨s', h1, h2⟩ := h
  exact ⟨s', by simp only [stepV, wantV, hg, hw, Bool.false_eq_true, if_false, hv, h1], h2⟩

/-- What a function's end must be. -/
def endK (P : Program) (rs : List ResultVar) (r : CA) : Ex → St → Prop
  | .exit _, _ => False
  | _, s => ∃ l a, mapO (vres P s) rs = some l ∧ join l = some a ∧ fza s.H a = some r

theorem vfun_of {fn : Func} {c : Code} (hb : fn.body = some c) {args : List CA} {r : CA} (hl : args.length ≤ fn.ntmps ∧ N.N = fn.ntmps) (h : wpV P T N c (endK P fn.results.toList r) ⟨env0 args, []⟩) : ∃ n, vfun P T N n fn args = some r := by
  obtain ⟨ex, s, ⟨m, h1⟩, h2⟩ := h
  refine ⟨m, ?_⟩
  have h1' := h1 m (Nat.le_refl _)
  cases ex with
  | exit id => exact h2.elim
  | normal =>
    obtain ⟨l, a, h3, h4, h5⟩ := h2
    simp only [vfun, hb, hl, and_self, if_true, h1', h3, h4, h5]
  | ret =>
    obtain ⟨l, a, h3, h4, h5⟩ := h2
    simp only [vfun, hb, hl, and_self, if_true, h1', h3, h4, h5]

/-- A function's contract out of a run of the value machine. -/
theorem ctr_of {f : FuncId} {fn : Func} {c : Code} (hm : P.follows .mixedOrders = true) (hf : P.funcs[f]? = some fn) (hb : fn.body = some c) (hc : codeB P N c = true) (hT : TOk P T) {args : List CA} {r : CA} (hl : args.length ≤ fn.ntmps ∧ N.N = fn.ntmps)
    {rs : List ResultVar} (hr : fn.results.toList = rs) (h : wpV P T N c (endK P rs r) ⟨env0 args, []⟩) : Ctr P f args r := by
  subst hr
  obtain ⟨n, hn⟩ := vfun_of hb hl h
  exact ctr_of_fun hT hf hb (code_ok hm c hc) hn

/-- What is known of a function at a family of arguments. -/
structure Sp (P : Program) where
  f : FuncId
  ι : Type
  enc : ι → List CA
  out : ι → CA
  ok : FnOk P f ∧ ∀ i, Ctr P f (enc i) (out i)

open Classical in
noncomputable def Sp.run (s : Sp P) (args : List CA) : Option CA := if h : ∃ i, s.enc i = args then some (s.out (Classical.choose h)) else none

noncomputable def ext (T : Tab) (s : Sp P) : Tab := { T with pu := fun f args => if f = s.f then s.run args else T.pu f args }

def T0 : Tab := ⟨fun _ _ => none, fun _ _ _ => none, false⟩

theorem TOk.zero : TOk P T0 := ⟨fun f args r h => (by cases h), fun f args H r H' h => (by cases h)⟩

theorem TOk.ext (h : TOk P T) (s : Sp P) : TOk P (ext T s) := ⟨fun f args r hr => by
  simp only [Vm.ext] at hr
  split at hr
  · rename_i hf
    subst hf
    unfold Sp.run at hr
    split at hr
    · rename_i hx
      cases hr
      have := s.ok.2 (Classical.choose hx)
      rw [Classical.choose_spec hx] at this
      exact ⟨s.ok.1, this⟩
    · cases hr
  · exact h.1 f args r hr, h.2⟩

theorem ext_self (s : Sp P) (i : s.ι) (inj : ∀ j, s.enc j = s.enc i → s.out j = s.out i) : (ext T s).pu s.f (s.enc i) = some (s.out i) := by
  simp only [ext, if_true]
  unfold Sp.run
  have hx : ∃ j, s.enc j = s.enc i := ⟨i, rfl⟩
  rw [dif_pos hx, inj _ (Classical.choose_spec hx)]

theorem ext_ne (s : Sp P) {f : FuncId} (h : f ≠ s.f) (args : List CA) : (ext T s).pu f args = T.pu f args := by
  simp only [ext]
  rw [if_neg h]

/-- What a function's end must be that shares its caller's memory. -/
def endS (P : Program) (rs : List ResultVar) (r : AV) (H' : Hp) : Ex → St → Prop
  | .exit _, _ => False
  | _, s => ∃ l, mapO (vres P s) rs = some l ∧ join l = some r ∧ s.H = H'

def envS (args : List AV) : Nat → AV := fun k => (args[k]?).getD und

theorem sctr_of {f : FuncId} {fn : Func} {c : Code} (hm : P.follows .mixedOrders = true) (hf : P.funcs[f]? = some fn) (hb : fn.body = some c) (hc : codeB P N c = true) (hT : TOk P T) {args : List AV} {H H' : Hp} {r : AV}
    (hl : args.length ≤ fn.ntmps ∧ N.N = fn.ntmps) (h : wpV P T N c (endS P fn.results.toList r H') ⟨envS args, H⟩) : SCtr P f args H r H' := by
  intro X S M hX hD vals hv
  obtain ⟨ex, s, ⟨m, h1⟩, h2⟩ := h
  have hcode := h1 m (Nat.le_refl _)
  obtain ⟨hlen, hNN⟩ := hl
  have hvl : vals.length = args.length := hv.1.symm
  have R : Rel X N ⟨envS args, H⟩ { tmps := vals.toArray ++ Array.replicate (fn.ntmps - vals.toArray.size) undef, defers := [] } := by
    refine ⟨hX, hD, by simp [hvl, hNN]; omega, fun k => ?_, rfl⟩
    show RA X (envS args k) _
    unfold envS
    by_cases hk : k < args.length
    · rw [List.getElem?_eq_getElem hk]
      have hk' : k < vals.length := by omega
      have e : (vals.toArray ++ Array.replicate (fn.ntmps - vals.toArray.size) undef).getD k undef = vals[k] := by
        rw [Array.getD_eq_getD_getElem?, Array.getElem?_append_left (by simpa using hk')]
        simp [hk']
      rw [e]
      exact hv.2 k _ _ (List.getElem?_eq_getElem hk) (List.getElem?_eq_getElem hk')
    · rw [List.getElem?_eq_none (by omega)]
      have e : (vals.toArray ++ Array.replicate (fn.ntmps - vals.toArray.size) undef).getD k undef = undef := by
        rw [Array.getD_eq_getD_getElem?, Array.getElem?_append_right (by simp; omega)]
        by_cases h2 : k - vals.toArray.size < fn.ntmps - vals.toArray.size
        · rw [Array.getElem?_replicate, if_pos h2]; rfl
        · rw [Array.getElem?_replicate, if_neg h2]; rfl
      rw [e]
      exact und_ra X
  refine calls_of_wp hf hb (code_sound hT c (code_ok hm c hc) S M R hcode fun Y act' hN hR => ?_)
  have fin : (∃ l, mapO (vres P s) fn.results.toList = some l ∧ join l = some r ∧ s.H = H') → act'.defers = [] ∧ ∃ v, (results fn act'.tmps).run P Y.w = .ok v Y.w ∧
      ∃ v' Z, Ending.returned v = .returned v' ∧ Z.w = Y.w ∧ Nxt X Z ∧ Z.H = H' ∧ (∀ id, Z.D id ↔ id < H'.length) ∧ RA Z r v' := by
    rintro ⟨l, h3, h4, rfl⟩
    obtain ⟨vs, hrun, hra⟩ := res_run (P := P) hN.sr hN.dom hR h3
    refine ⟨hR.defers, if h : vs.toArray.size = 1 then vs.toArray[0] else .tuple vs.toArray, ?_, _, Y, rfl, rfl, hN, hR.H, hR.D, join_sound h4 hra⟩
    rw [results_eq, Array.mapM_eq_mapM_toList]
    simp only [Sem.run_bind, Sem.run_map]
    rw [hrun]
    rfl
  cases ex with
  | normal => exact fin h2
  | exit id => exact h2.elim
  | ret => exact fin h2

theorem endS_det {rs : List ResultVar} {c : Code} {s : St} {r r' : AV} {H H' : Hp} (h : wpV P T N c (endS P rs r H) s) (g : wpV P T N c (endS P rs r' H') s) : r = r' ∧ H = H' := by
  obtain ⟨ex, s1, ⟨m, h1⟩, h2⟩ := h
  obtain ⟨ex', s2, ⟨m', g1⟩, g2⟩ := g
  have e1 := h1 (max m m') (by omega)
  rw [g1 (max m m') (by omega)] at e1
  cases e1
  cases ex with
  | exit id => exact h2.elim
  | normal =>
    obtain ⟨l, a1, a2, rfl⟩ := h2
    obtain ⟨l', b1, b2, rfl⟩ := g2
    rw [a1] at b1
    cases b1
    rw [a2] at b2
    cases b2
    exact ⟨rfl, rfl⟩
  | ret =>
    obtain ⟨l, a1, a2, rfl⟩ := h2
    obtain ⟨l', b1, b2, rfl⟩ := g2
    rw [a1] at b1
    cases b1
    rw [a2] at b2
    cases b2
    exact ⟨rfl, rfl⟩

/-- A function that shares its caller's memory, by its own run; or by what is known of it else. -/
structure Sh (P : Program) where
  f : FuncId
  run : List AV → Hp → AV → Hp → Prop
  ok : ∀ args H r H', run args H r H' → Gr P f H H' ∧ FnOk P f ∧ SCtr P f args H r H'
  det : ∀ args H r H' q K, run args H r H' → run args H q K → r = q ∧ H' = K

open Classical in
noncomputable def extS (T : Tab) (s : Sh P) : Tab := { T with S := fun f args H => if f = s.f then (if h : ∃ p : AV × Hp, s.run args H p.1 p.2 then some (Classical.choose h) else none) else T.S f args H }

theorem TOk.extS (h : TOk P T) (s : Sh P) : TOk P (extS T s) := ⟨h.1, fun f args H r H' hr => by
  simp only [Vm.extS] at hr
  split at hr
  · rename_i hf
    subst hf
    split at hr
    · rename_i hx
      have := Classical.choose_spec hx
      simp only [Option.some.injEq] at hr
      rw [hr] at this
      exact s.ok _ _ _ _ this
    · cases hr
  · exact h.2 f args H r H' hr⟩

theorem extS_self (s : Sh P) {args : List AV} {H : Hp} {r : AV} {H' : Hp} (h : s.run args H r H') : (extS T s).S s.f args H = some (r, H') := by
  simp only [extS, if_true]
  have hx : ∃ p : AV × Hp, s.run args H p.1 p.2 := ⟨(r, H'), h⟩
  rw [dif_pos hx]
  obtain ⟨h1, h2⟩ := s.det _ _ _ _ _ _ h (Classical.choose_spec hx)
  rw [h1, h2]

theorem extS_ne (s : Sh P) {f : FuncId} (h : f ≠ s.f) (args : List AV) (H : Hp) : (extS T s).S f args H = T.S f args H := by
  simp only [extS]
  rw [if_neg h]

theorem extS_pu (s : Sh P) (f : FuncId) (args : List CA) : (extS T s).pu f args = T.pu f args := rfl
theorem ext_S (s : Sp P) (f : FuncId) (args : List AV) (H : Hp) : (ext T s).S f args H = T.S f args H := rfl

/-- One by its own run. -/
def Sh.of {f : FuncId} {fn : Func} {c : Code} (hm : P.follows .mixedOrders = true) (hf : P.funcs[f]? = some fn) (hb : fn.body = some c) (hok : FnOk P f) (hc : codeB P N c = true) (hT : TOk P T) (hN : N.N = fn.ntmps) (rs : List ResultVar) (hr : fn.results.toList = rs) : Sh P where
  f := f
  run args H r H' := args.length ≤ fn.ntmps ∧ Gr P f H H' ∧ wpV P T N c (endS P rs r H') ⟨envS args, H⟩
  ok args H r H' h := ⟨h.2.1, hok, by subst hr; exact sctr_of hm hf hb hc hT ⟨h.1, hN⟩ h.2.2⟩
  det args H r H' q K h g := endS_det h.2.2 g.2.2

end Go.Proofs.Vm
end

section
/- The value machine's runs as rewriting rules. -/
namespace Go.Proofs.Vm
open Go

variable {P : Program} {T : Tab} {N : Fx}

theorem iter_mono {f g : St → Option (Ex × St)} (h : ∀ s r, f s = some r → g s = some r) : ∀ {k k' : Nat} {s : St} {r : Ex × St}, iter k f s = some r → k ≤ k' → iter k' g s = some r
  | 0, _, _, _, hr, _ => by cases hr
  | k + 1, k', s, r, hr, hk => by
    obtain ⟨q, rfl⟩ : ∃ q, k' = q + 1 := ⟨k' - 1, by omega⟩
    simp only [iter] at hr ⊢
    split at hr
    · rename_i s1 h1
      rw [h _ _ h1]
      exact iter_mono h hr (by omega)
    · rename_i h1
      rw [h _ _ hr]
      split
      · rename_i heq
        cases heq
        exact absurd hr (h1 _)
      · rfl

theorem vcode_mono {n n' : Nat} (hn : n ≤ n') : ∀ (c : Code) (s : St) (r : Ex × St), vcode P T N n c s = some r → vcode P T N n' c s = some r := by
  intro c
  induction c with
  | skip => intro s r h; exact h
  | region id ops d => intro s r h; exact h
  | exit id => intro s r h; exact h
  | ret => intro s r h; exact h
  | seq a b iha ihb =>
    intro s r h
    simp only [vcode] at h ⊢
    split at h
    · rename_i s1 h1
      rw [iha _ _ h1]
      exact ihb _ _ h
    · rename_i h1
      rw [iha _ _ h]
      split
      · rename_i heq
        cases heq
        exact absurd h (h1 _)
      · rfl
  | cond c x y ihx ihy =>
    intro s r h
    simp only [vcode] at h ⊢
    split at h
    case h_2 => cases h
    rename_i t ht
    split at h
    · rename_i hb
      rw [if_pos hb]
      exact ihx _ _ h
    · rename_i hb
      rw [if_neg hb]
      exact ihy _ _ h
  | block id c ih =>
    intro s r h
    simp only [vcode] at h ⊢
    split at h
    · rename_i k s1 h1
      rw [ih _ _ h1]
      exact h
    · rename_i h1
      rw [ih _ _ h]
      split
      · rename_i heq
        cases heq
        exact absurd h (h1 _ _)
      · rfl
  | loop c ih =>
    intro s r h
    simp only [vcode] at h ⊢
    exact iter_mono ih h hn
  | rangeFunc f params assign body _ _ => intro s r h; cases h
  | scope body _ => intro s r h; cases h
  | label l => intro s r h; cases h
  | goto l => intro s r h; cases h
  | refuse why => intro s r h; cases h

theorem wpV_iff {c : Code} {K : Ex → St → Prop} {s : St} : wpV P T N c K s ↔ ∃ n ex s', vcode P T N n c s = some (ex, s') ∧ K ex s' :=
  ⟨fun ⟨ex, s', ⟨m, h⟩, hk⟩ => ⟨m, ex, s', h m (Nat.le_refl _), hk⟩, fun ⟨n, ex, s', h, hk⟩ => ⟨ex, s', ⟨n, fun _ hn => vcode_mono hn _ _ _ h⟩, hk⟩⟩

section
variable {K : Ex → St → Prop} {s : St}

theorem e_skip : wpV P T N .skip K s ↔ K .normal s := ⟨fun ⟨_, _, ⟨m, h⟩, hk⟩ => by cases h m (Nat.le_refl _); exact hk, wpV_skip⟩
theorem e_exit {id : Nat} : wpV P T N (.exit id) K s ↔ K (.exit id) s := ⟨fun ⟨_, _, ⟨m, h⟩, hk⟩ => by cases h m (Nat.le_refl _); exact hk, wpV_exit⟩
theorem e_ret : wpV P T N .ret K s ↔ K .ret s := ⟨fun ⟨_, _, ⟨m, h⟩, hk⟩ => by cases h m (Nat.le_refl _); exact hk, wpV_ret⟩

theorem e_region {id : Nat} {ops : Array Oper} {d : Bool} (hf : N.fl id = []) : wpV P T N (.region id ops d) K s ↔ wpR P T N ops ops.toList (K .normal) s := by
  refine ⟨fun ⟨ex, s', ⟨m, h⟩, hk⟩ => ?_, wpV_region hf⟩
  have := h m (Nat.le_refl _)
  simp only [vcode, runR, if_pos hf] at this
  split at this
  · rename_i s1 h1
    cases this
    exact ⟨_, h1, hk⟩
  · cases this

theorem e_seq {a b : Code} : wpV P T N (.seq a b) K s ↔ wpV P T N a (thenK (wpV P T N b K) K) s := by
  refine ⟨fun ⟨ex, s', ⟨m, h⟩, hk⟩ => ?_, wpV_seq⟩
  have := h m (Nat.le_refl _)
  simp only [vcode] at this
  rw [wpV_iff]
  split at this
  · rename_i s1 h1
    exact ⟨m, .normal, s1, h1, wpV_iff.2 ⟨m, ex, s', this, hk⟩⟩
  · rename_i h1
    refine ⟨m, ex, s', this, ?_⟩
    cases ex with
    | normal => exact absurd this (h1 _)
    | exit id => exact hk
    | ret => exact hk

theorem e_block {id : Nat} {c : Code} : wpV P T N (.block id c) K s ↔ wpV P T N c (blockK id K) s := by
  refine ⟨fun ⟨ex, s', ⟨m, h⟩, hk⟩ => ?_, wpV_block⟩
  have := h m (Nat.le_refl _)
  simp only [vcode] at this
  rw [wpV_iff]
  split at this
  · rename_i k s1 h1
    refine ⟨m, _, s1, h1, ?_⟩
    simp only [blockK]
    split at this
    · rename_i hk'
      cases this
      rw [if_pos hk']
      exact hk
    · rename_i hk'
      cases this
      rw [if_neg hk']
      exact hk
  · rename_i h1
    refine ⟨m, ex, s', this, ?_⟩
    cases ex with
    | normal => exact hk
    | exit k => exact absurd this (h1 _ _)
    | ret => exact hk

theorem e_loop {c : Code} : wpV P T N (.loop c) K s ↔ wpL P T N c K s := by
  refine ⟨fun ⟨ex, s', ⟨m, h⟩, hk⟩ => ?_, wpV_loop⟩
  have := h m (Nat.le_refl _)
  simp only [vcode] at this
  exact ⟨ex, s', ⟨m, m, fun n k hn hk => iter_mono (vcode_mono hn c) this hk⟩, hk⟩

def boolK (a : Option AV) (x y : Prop) : Prop :=
  match a with
  | some (.one (.c (.v (.bool t)))) => if t = true then x else y
  | _ => False

theorem e_cond {c : Operand} {x y : Code} : wpV P T N (.cond c x y) K s ↔ boolK (evo s.env c) (wpV P T N x K s) (wpV P T N y K s) := by
  constructor
  · rintro ⟨ex, s', ⟨m, h⟩, hk⟩
    have := h m (Nat.le_refl _)
    simp only [vcode] at this
    unfold boolK
    split at this
    case h_2 => cases this
    rename_i t ht
    try rw [ht]
    try dsimp only
    split at this
    · rename_i hb
      rw [if_pos hb]
      exact wpV_iff.2 ⟨m, ex, s', this, hk⟩
    · rename_i hb
      rw [if_neg hb]
      exact wpV_iff.2 ⟨m, ex, s', this, hk⟩
  · intro h
    unfold boolK at h
    split at h
    case h_2 => exact h.elim
    rename_i t ht
    exact wpV_cond ht h

end

theorem b_bool {t : Bool} {x y : Prop} : boolK (some (.one (.c (.v (.bool t))))) x y ↔ if t = true then x else y := Iff.rfl

theorem e_nil {ops : Array Oper} {K : St → Prop} {s : St} : wpR P T N ops [] K s ↔ K s := ⟨fun ⟨_, h, hk⟩ => by cases h; exact hk, wpR_nil⟩
theorem e_cons {ops : Array Oper} {o : Oper} {r : List Oper} {K : St → Prop} {s : St} : wpR P T N ops (o :: r) K s ↔ wpS P T N ops o (wpR P T N ops r K) s := by
  refine ⟨fun ⟨s', h, hk⟩ => ?_, wpR_cons⟩
  simp only [runV] at h
  split at h
  case h_2 => cases h
  rename_i s1 h1
  exact ⟨s1, h1, s', h, hk⟩

/-- A value is put into a slot. -/
def putK (N : Fx) (d : Option Tmp) (e : Nat → AV) (H : Hp) (a : AV) (K : St → Prop) : Prop :=
  match d with
  | none => K ⟨e, H⟩
  | some d => d < N.N ∧ K ⟨upd e d a, H⟩

/-- What becomes of an operation's answer. -/
def rdK (N : Fx) (d : Option Tmp) (e : Nat → AV) (H : Hp) (r : RR) (K : St → Prop) : Prop :=
  match r with
  | some (a, news, ms) => putK N d e (frzAll (H ++ news) ms) a K
  | none => False

def wrK (N : Fx) (d : Option Tmp) (e : Nat → AV) (r : Option (AV × Hp)) (K : St → Prop) : Prop :=
  match r with
  | some (a, H) => putK N d e H a K
  | none => False

theorem putV_iff {e : Nat → AV} {H : Hp} {d : Option Tmp} {a : AV} {K : St → Prop} : (∃ s', putV N ⟨e, H⟩ d a = some s' ∧ K s') ↔ putK N d e H a K := by
  cases d with
  | none => simp [putV, putK]
  | some d =>
    simp only [putV, putK]
    constructor
    · rintro ⟨s', h, hk⟩
      split at h
      case isFalse => cases h
      rename_i hd
      cases h
      exact ⟨hd, hk⟩
    · rintro ⟨hd, hk⟩
      exact ⟨_, if_pos hd, hk⟩

/-- An operation that only reads or makes, without a guard. -/
theorem e_rd {ops : Array Oper} {K : St → Prop} {e : Nat → AV} {H : Hp} {d : Option Tmp} {op : Op} {ty : TypeId} {pos : String} {aft : Array Edge} (hw : isWr P N ⟨d, op, ty, pos, aft, none⟩ = false) :
    wpS P T N ops ⟨d, op, ty, pos, aft, none⟩ K ⟨e, H⟩ ↔ rdK N d e H (vrd P T N.nest H H.length (evo e) ⟨d, op, ty, pos, aft, none⟩) K := by
  unfold wpS stepV
  simp only [wantV, hw, Bool.false_eq_true, if_false]
  cases hv : vrd P T N.nest H H.length (evo e) ⟨d, op, ty, pos, aft, none⟩ with
  | none => simp [rdK]
  | some r =>
    obtain ⟨a, news, ms⟩ := r
    simp only [rdK]
    rw [putV_iff]

theorem e_wr {ops : Array Oper} {K : St → Prop} {e : Nat → AV} {H : Hp} {d : Option Tmp} {op : Op} {ty : TypeId} {pos : String} {aft : Array Edge} (hw : isWr P N ⟨d, op, ty, pos, aft, none⟩ = true) :
    wpS P T N ops ⟨d, op, ty, pos, aft, none⟩ K ⟨e, H⟩ ↔ wrK N d e (vwr P T N H (evo e) ⟨d, op, ty, pos, aft, none⟩) K := by
  unfold wpS stepV
  simp only [wantV, hw, if_true]
  cases hv : vwr P T N H (evo e) ⟨d, op, ty, pos, aft, none⟩ with
  | none => simp [wrK]
  | some r =>
    obtain ⟨a, L⟩ := r
    simp only [wrK]
    rw [putV_iff]

def guardK (v : Option AV) (want : Bool) (yes no : Prop) : Prop :=
  match v with
  | some (.one (.c (.v (.bool b)))) => if b = want then yes else no
  | some (.tup []) => no
  | _ => False

/-- An operation with a guard. -/
theorem e_grd {ops : Array Oper} {K : St → Prop} {e : Nat → AV} {H : Hp} {d : Option Tmp} {op : Op} {ty : TypeId} {pos : String} {aft : Array Edge} {j : Nat} {want : Bool} :
    wpS P T N ops ⟨d, op, ty, pos, aft, some (j, want)⟩ K ⟨e, H⟩ ↔ guardK (((ops[j]?).bind (·.dst)).map e) want
      (wpS P T N ops ⟨d, op, ty, pos, aft, none⟩ K ⟨e, H⟩)
      (putK N d e H und K) := by
  have hvr : ∀ g, vrd P T N.nest H H.length (evo e) ⟨d, op, ty, pos, aft, g⟩ = vrd P T N.nest H H.length (evo e) ⟨d, op, ty, pos, aft, none⟩ := fun g => rfl
  have hvw : ∀ g, vwr P T N H (evo e) ⟨d, op, ty, pos, aft, g⟩ = vwr P T N H (evo e) ⟨d, op, ty, pos, aft, none⟩ := fun g => rfl
  have hw : ∀ g, isWr P N ⟨d, op, ty, pos, aft, g⟩ = isWr P N ⟨d, op, ty, pos, aft, none⟩ := fun g => rfl
  have hno : (∃ s', putV N ⟨e, H⟩ d und = some s' ∧ K s') ↔ putK N d e H und K := putV_iff
  unfold wpS stepV
  simp only [wantV]
  cases hd : (ops[j]?).bind (·.dst) with
  | none => simp [guardK]
  | some k =>
    simp only [Option.map_some]
    generalize e k = v
    cases v with
    | one c =>
      cases c with
      | c x =>
        cases x with
        | v x =>
          cases x with
          | bool b =>
            simp only [guardK]
            by_cases hbw : b = want
            · subst hbw
              simp only [beq_self_eq_true, if_true]
              rw [hvr, hvw, hw]
            · have : (b == want) = false := by simp [hbw]
              rw [this, if_neg hbw]
              exact hno
          | _ => simp [guardK]
        | _ => simp [guardK]
      | _ => simp [guardK]
    | agg l => simp [guardK]
    | tup l =>
      cases l with
      | nil => exact hno
      | cons _ _ => simp [guardK]

theorem upd_get {e : Nat → AV} {k j : Nat} {a : AV} : upd e k a j = if j = k then a else e j := rfl

end Go.Proofs.Vm
end

section
/- The value machine's operations ags rewriting rules. -/
namespace Go.Proofs.Vm
open Go

variable {P : Program} {T : Tab} {N : Fx} {H : Hp}

@[simp] theorem pv_pure {α : Type} (a : α) : pv P (Pure.pure a : Sem α) = some a := rfl
@[simp] theorem pv_pure' {α : Type} (a : α) : pv P (Sem.pure a : Sem α) = some a := rfl
@[simp] theorem pv_program : pv P program = some P := rfl

theorem pv_sbind {α β : Type} (x : Sem α) (f : α → Sem β) : pv P (x.bind f) = (pv P x).bind fun a => pv P (f a) := by
  induction x with
  | pure a => rfl
  | program k ih => exact ih P
  | _ => rfl

@[simp] theorem pv_bind {α β : Type} (x : Sem α) (f : α → Sem β) : pv P (x >>= f) = (pv P x).bind fun a => pv P (f a) := pv_sbind x f
@[simp] theorem pv_map {α β : Type} (x : Sem α) (f : α → β) : pv P (f <$> x) = (pv P x).map f := by
  have := pv_sbind (P := P) x (fun a => Sem.pure (f a))
  cases hx : pv P x <;> simp [hx] at this ⊢ <;> exact this

abbrev vI (k : IntKind) (n : Int) : AV := .one (.c (.v (.int k n)))
abbrev vB (b : Bool) : AV := .one (.c (.v (.bool b)))
abbrev vS (s : ByteArray) : AV := .one (.c (.v (.string s)))
abbrev cI (k : IntKind) (n : Int) : CA := .one (.v (.int k n))
abbrev cB (b : Bool) : CA := .one (.v (.bool b))
abbrev cS (s : ByteArray) : CA := .one (.v (.string s))

section
variable {t : TypeId} {x y : Operand} {k : IntKind} {a b : Int}

theorem bin_add : vbin P H .add t x y (vI k a) (vI k b) = qa (vI k (k.wrap (a + b))) := by
  simp [vbin, vbin0, neSl, isNils, isPtr, isNilp, AV.sc, Cell.sc, eqGuard, binOp, Op.intArith, ofPv, one?, Value.oneCell']
theorem bin_sub : vbin P H .sub t x y (vI k a) (vI k b) = qa (vI k (k.wrap (a - b))) := by
  simp [vbin, vbin0, neSl, isNils, isPtr, isNilp, AV.sc, Cell.sc, eqGuard, binOp, Op.intArith, ofPv, one?, Value.oneCell']
theorem bin_mul : vbin P H .mul t x y (vI k a) (vI k b) = qa (vI k (k.wrap (a * b))) := by
  simp [vbin, vbin0, neSl, isNils, isPtr, isNilp, AV.sc, Cell.sc, eqGuard, binOp, Op.intArith, ofPv, one?, Value.oneCell']
theorem bin_quo (h : b ≠ 0) : vbin P H .quo t x y (vI k a) (vI k b) = qa (vI k (k.wrap (a.tdiv b))) := by
  simp [vbin, vbin0, neSl, isNils, isPtr, isNilp, AV.sc, Cell.sc, eqGuard, binOp, Op.intDiv, ofPv, one?, Value.oneCell', h]
theorem bin_rem (h : b ≠ 0) : vbin P H .rem t x y (vI k a) (vI k b) = qa (vI k (a.tmod b)) := by
  simp [vbin, vbin0, neSl, isNils, isPtr, isNilp, AV.sc, Cell.sc, eqGuard, binOp, Op.intDiv, ofPv, one?, Value.oneCell', h]
theorem bin_and : vbin P H .and t x y (vI k a) (vI k b) = qa (vI k (k.wrap (BitVec.ofInt k.bits a &&& BitVec.ofInt k.bits b).toNat)) := by
  simp [vbin, vbin0, neSl, isNils, isPtr, isNilp, AV.sc, Cell.sc, eqGuard, binOp, Op.intBits, ofPv, one?, Value.oneCell']
theorem bin_or : vbin P H .or t x y (vI k a) (vI k b) = qa (vI k (k.wrap (BitVec.ofInt k.bits a ||| BitVec.ofInt k.bits b).toNat)) := by
  simp [vbin, vbin0, neSl, isNils, isPtr, isNilp, AV.sc, Cell.sc, eqGuard, binOp, Op.intBits, ofPv, one?, Value.oneCell']
theorem bin_xor : vbin P H .xor t x y (vI k a) (vI k b) = qa (vI k (k.wrap (BitVec.ofInt k.bits a ^^^ BitVec.ofInt k.bits b).toNat)) := by
  simp [vbin, vbin0, neSl, isNils, isPtr, isNilp, AV.sc, Cell.sc, eqGuard, binOp, Op.intBits, ofPv, one?, Value.oneCell']
theorem bin_shl {k' : IntKind} (h : 0 ≤ b) : vbin P H .shl t x y (vI k a) (vI k' b) = qa (vI k (k.wrap (a * 2 ^ (min b.toNat k.bits)))) := by
  have : ¬ b < 0 := by omega
  simp [vbin, vbin0, neSl, isNils, isPtr, isNilp, AV.sc, Cell.sc, eqGuard, binOp, Op.shift, ofPv, one?, Value.oneCell', this]
theorem bin_shr {k' : IntKind} (h : 0 ≤ b) : vbin P H .shr t x y (vI k a) (vI k' b) = qa (vI k (a.fdiv (2 ^ (min b.toNat k.bits)))) := by
  have : ¬ b < 0 := by omega
  simp [vbin, vbin0, neSl, isNils, isPtr, isNilp, AV.sc, Cell.sc, eqGuard, binOp, Op.shift, ofPv, one?, Value.oneCell', this]
theorem bin_eql : vbin P H .eql t x y (vI k a) (vI k b) = qa (vB (a == b)) := by
  simp [vbin, vbin0, neSl, isNils, isPtr, isNilp, AV.sc, Cell.sc, eqGuard, binOp, Op.intCmp, ofPv, one?, Value.oneCell']
theorem bin_neq : vbin P H .neq t x y (vI k a) (vI k b) = qa (vB (a != b)) := by
  simp [vbin, vbin0, neSl, isNils, isPtr, isNilp, AV.sc, Cell.sc, eqGuard, binOp, Op.intCmp, ofPv, one?, Value.oneCell']
theorem bin_lss : vbin P H .lss t x y (vI k a) (vI k b) = qa (vB (decide (a < b))) := by
  simp [vbin, vbin0, neSl, isNils, isPtr, isNilp, AV.sc, Cell.sc, eqGuard, binOp, Op.intCmp, ofPv, one?, Value.oneCell']
theorem bin_leq : vbin P H .leq t x y (vI k a) (vI k b) = qa (vB (decide (a ≤ b))) := by
  simp [vbin, vbin0, neSl, isNils, isPtr, isNilp, AV.sc, Cell.sc, eqGuard, binOp, Op.intCmp, ofPv, one?, Value.oneCell']
theorem bin_gtr : vbin P H .gtr t x y (vI k a) (vI k b) = qa (vB (decide (a > b))) := by
  simp [vbin, vbin0, neSl, isNils, isPtr, isNilp, AV.sc, Cell.sc, eqGuard, binOp, Op.intCmp, ofPv, one?, Value.oneCell']
theorem bin_geq : vbin P H .geq t x y (vI k a) (vI k b) = qa (vB (decide (a ≥ b))) := by
  simp [vbin, vbin0, neSl, isNils, isPtr, isNilp, AV.sc, Cell.sc, eqGuard, binOp, Op.intCmp, ofPv, one?, Value.oneCell']

theorem sbin_eql {u v : ByteArray} : vbin P H .eql t x y (vS u) (vS v) = qa (vB (u.toList == v.toList)) := by
  simp [vbin, vbin0, neSl, isNils, isPtr, isNilp, AV.sc, Cell.sc, eqGuard, binOp, Op.stringOp, ofPv, one?, Value.oneCell']
theorem sbin_neq {u v : ByteArray} : vbin P H .neq t x y (vS u) (vS v) = qa (vB (!(u.toList == v.toList))) := by
  simp [vbin, vbin0, neSl, isNils, isPtr, isNilp, AV.sc, Cell.sc, eqGuard, binOp, Op.stringOp, ofPv, one?, Value.oneCell']
theorem sbin_lss {u v : ByteArray} : vbin P H .lss t x y (vS u) (vS v) = qa (vB (Op.bytesLess u.toList v.toList)) := by
  simp [vbin, vbin0, neSl, isNils, isPtr, isNilp, AV.sc, Cell.sc, eqGuard, binOp, Op.stringOp, ofPv, one?, Value.oneCell']

theorem un_not {b : Bool} : vun P .not (vB b) = qa (vB (!b)) := by simp [vun, AV.sc, Cell.sc, Op.unary, ofPv, one?, Value.oneCell']
theorem un_neg : vun P .neg (vI k a) = qa (vI k (k.wrap (0 - a))) := by simp [vun, AV.sc, Cell.sc, Op.unary, Op.intArith, ofPv, one?, Value.oneCell']
end

def on1 (a : Option AV) (f : AV → RR) : RR := match a with | some a => f a | none => none
def on2 (a b : Option AV) (f : AV → AV → RR) : RR := match a, b with | some a, some b => f a b | _, _ => none
def onL (l : Option (List AV)) (f : List AV → RR) : RR := match l with | some l => f l | none => none
def onW (l : Option (List AV)) (f : List AV → Option (AV × Hp)) : Option (AV × Hp) := match l with | some l => f l | none => none
def onC (a : Option AV) (l : Option (List AV)) (f : AV → List AV → RR) : RR := match a, l with | some a, some l => f a l | _, _ => none
def onS (a : Option AV) (x y z : Option (Option AV)) (f : AV → Option AV → Option AV → Option AV → RR) : RR := match a, x, y, z with | some a, some x, some y, some z => f a x y z | _, _, _, _ => none
def vindex (P : Program) (t : TypeId) (a b : AV) : RR := match a.sc, b.sc with | some u, some v => ofPv (pv P (Instr.index t u v)) | _, _ => none
def vmax (P : Program) (ts : Array TypeId) (ty : TypeId) (l : List AV) : RR := match scsAV l with | some vs => ofPv (pv P (Builtin.max_ ts ty vs.toArray)) | none => none
def vmin (P : Program) (ts : Array TypeId) (ty : TypeId) (l : List AV) : RR := match scsAV l with | some vs => ofPv (pv P (Builtin.min_ ts ty vs.toArray)) | none => none

def on1W (a : Option AV) (f : AV → Option (AV × Hp)) : Option (AV × Hp) := match a with | some a => f a | none => none
def on2W (a b : Option AV) (f : AV → AV → Option (AV × Hp)) : Option (AV × Hp) := match a, b with | some a, some b => f a b | _, _ => none
def on3W (a b c : Option AV) (f : AV → AV → AV → Option (AV × Hp)) : Option (AV × Hp) := match a, b, c with | some a, some b, some c => f a b c | _, _, _ => none
@[simp] theorem on1W_some (a : AV) (f : AV → Option (AV × Hp)) : on1W (some a) f = f a := rfl
@[simp] theorem on2W_some (a b : AV) (f : AV → AV → Option (AV × Hp)) : on2W (some a) (some b) f = f a b := rfl
@[simp] theorem on3W_some (a b c : AV) (f : AV → AV → AV → Option (AV × Hp)) : on3W (some a) (some b) (some c) f = f a b c := rfl

@[simp] theorem on1_some (a : AV) (f : AV → RR) : on1 (some a) f = f a := rfl
@[simp] theorem on2_some (a b : AV) (f : AV → AV → RR) : on2 (some a) (some b) f = f a b := rfl
@[simp] theorem onL_some (a : List AV) (f : List AV → RR) : onL (some a) f = f a := rfl
@[simp] theorem onW_some (a : List AV) (f : List AV → Option (AV × Hp)) : onW (some a) f = f a := rfl
@[simp] theorem onC_some (a : AV) (l : List AV) (f : AV → List AV → RR) : onC (some a) (some l) f = f a l := rfl
@[simp] theorem onS_some (a : AV) (x y z : Option AV) (f : AV → Option AV → Option AV → Option AV → RR) : onS (some a) (some x) (some y) (some z) f = f a x y z := rfl
@[simp] theorem optOp_none (ρ : Operand → Option AV) : optOp ρ none = some none := rfl
@[simp] theorem optOp_some (ρ : Operand → Option AV) (x : Operand) : optOp ρ (some x) = (ρ x).map some := rfl

section
variable {ops : Array Oper} {K : St → Prop} {e : Nat → AV} {d : Option Tmp} {ty : TypeId} {pos : String} {aft : Array Edge}
theorem s_move {x : Operand} : wpS P T N ops ⟨d, .move x, ty, pos, aft, none⟩ K ⟨e, H⟩ ↔ rdK N d e H (vmove (evo e) H.length x) K := e_rd rfl
theorem s_assign {x : Operand} : wpS P T N ops ⟨d, .assign x, ty, pos, aft, none⟩ K ⟨e, H⟩ ↔ rdK N d e H (vmove (evo e) H.length x) K := e_rd rfl
theorem s_pick {a b c : Operand} : wpS P T N ops ⟨d, .pick a b c, ty, pos, aft, none⟩ K ⟨e, H⟩ ↔ rdK N d e H (vpick (evo e) a b c) K := e_rd rfl
theorem s_alloc {t : TypeId} : wpS P T N ops ⟨d, .alloc t, ty, pos, aft, none⟩ K ⟨e, H⟩ ↔ rdK N d e H (valloc P H.length t) K := e_rd rfl
theorem s_box {t : TypeId} {x : Operand} : wpS P T N ops ⟨d, .box t x, ty, pos, aft, none⟩ K ⟨e, H⟩ ↔ rdK N d e H (on1 (evo e x) (vbox H.length)) K := e_rd rfl
theorem s_build {t : TypeId} {ps : Array (Nat × Operand)} : wpS P T N ops ⟨d, .build t ps, ty, pos, aft, none⟩ K ⟨e, H⟩ ↔ rdK N d e H (vbuild P H.length (evo e) t ps.toList) K := e_rd rfl
theorem s_buildSlice {t : TypeId} {n : Nat} {ps : Array (Nat × Operand)} : wpS P T N ops ⟨d, .buildSlice t n ps, ty, pos, aft, none⟩ K ⟨e, H⟩ ↔ rdK N d e H (vbuildN P N.nest T.cb H H.length (evo e) t n ps.toList) K := e_rd rfl
theorem s_load {t : TypeId} {x : Operand} : wpS P T N ops ⟨d, .load t x, ty, pos, aft, none⟩ K ⟨e, H⟩ ↔ rdK N d e H (on1 (evo e x) (vload P H t)) K := e_rd rfl
theorem s_nilCheck {x : Operand} : wpS P T N ops ⟨d, .nilCheck x, ty, pos, aft, none⟩ K ⟨e, H⟩ ↔ rdK N d e H (on1 (evo e x) (vnil H)) K := e_rd rfl
theorem s_binOp {o : BinOp} {t t' : TypeId} {x y : Operand} : wpS P T N ops ⟨d, .binOp o t x y t', ty, pos, aft, none⟩ K ⟨e, H⟩ ↔ rdK N d e H (on2 (evo e x) (evo e y) (vbin P H o t x y)) K := e_rd rfl
theorem s_unOp {o : UnOp} {t : TypeId} {x : Operand} : wpS P T N ops ⟨d, .unOp o t x, ty, pos, aft, none⟩ K ⟨e, H⟩ ↔ rdK N d e H (on1 (evo e x) (vun P o)) K := e_rd rfl
theorem s_convert {t t' : TypeId} {x : Operand} (h : isU8 P t = false) (h' : isU8 P t' = false) : wpS P T N ops ⟨d, .convert t t' x, ty, pos, aft, none⟩ K ⟨e, H⟩ ↔ rdK N d e H (on1 (evo e x) (vconvert P t t')) K := e_rd (by simp [isWr, h, h'])
theorem s_convW {t t' : TypeId} {x : Operand} (h : (isU8 P t || isU8 P t') = true) : wpS P T N ops ⟨d, .convert t t' x, ty, pos, aft, none⟩ K ⟨e, H⟩ ↔ wrK N d e (on1W (evo e x) (vconvW P H t t')) K := e_wr (by simp only [isWr]; exact h)
theorem s_makeMap {t : TypeId} : wpS P T N ops ⟨d, .makeMap t none, ty, pos, aft, none⟩ K ⟨e, H⟩ ↔ wrK N d e (vmakeMap H) K := e_wr rfl
theorem s_lookup {t : TypeId} {x y : Operand} {c : Bool} : wpS P T N ops ⟨d, .lookup t x y c, ty, pos, aft, none⟩ K ⟨e, H⟩ ↔ rdK N d e H (on2 (evo e x) (evo e y) fun a b => vlookup P H t a b c) K := e_rd rfl
theorem s_mapUpdate {t : TypeId} {x y z : Operand} : wpS P T N ops ⟨d, .mapUpdate t x y z, ty, pos, aft, none⟩ K ⟨e, H⟩ ↔ wrK N d e (on3W (evo e x) (evo e y) (evo e z) (vmapUpdate P H t)) K := e_wr rfl
theorem s_mapEntry {t : TypeId} {x y : Operand} : wpS P T N ops ⟨d, .mapEntry t x y, ty, pos, aft, none⟩ K ⟨e, H⟩ ↔ wrK N d e (on2W (evo e x) (evo e y) (vmapEntry P H t)) K := e_wr rfl
theorem s_entryStore {t : TypeId} {x y z : Operand} : wpS P T N ops ⟨d, .entryStore t x y z, ty, pos, aft, none⟩ K ⟨e, H⟩ ↔ wrK N d e (on3W (evo e x) (evo e y) (evo e z) (ventryStore H)) K := e_wr rfl
theorem s_delete {x y : Operand} {t t' : TypeId} : wpS P T N ops ⟨d, .call ⟨.builtin .delete, #[x, y], #[t, t']⟩, ty, pos, aft, none⟩ K ⟨e, H⟩ ↔ wrK N d e (on2W (evo e x) (evo e y) (vdelete P H t)) K := e_wr rfl
theorem s_copy {x y : Operand} {t t' : TypeId} : wpS P T N ops ⟨d, .call ⟨.builtin .copy, #[x, y], #[t, t']⟩, ty, pos, aft, none⟩ K ⟨e, H⟩ ↔ wrK N d e (on2W (evo e x) (evo e y) (vcopy P H t)) K := e_wr rfl
theorem s_clear {x : Operand} {t : TypeId} : wpS P T N ops ⟨d, .call ⟨.builtin .clear, #[x], #[t]⟩, ty, pos, aft, none⟩ K ⟨e, H⟩ ↔ wrK N d e (on1W (evo e x) (vclear P H t)) K := e_wr rfl
theorem s_makeFunc {fn : Fn} {a b : Array Operand} : wpS P T N ops ⟨d, .makeFunc fn a b, ty, pos, aft, none⟩ K ⟨e, H⟩ ↔ rdK N d e H (onL (mapO (evo e) b.toList) (vmakeFunc fn a.toList)) K := e_rd rfl
theorem s_makeSlice {t : TypeId} {x y : Operand} : wpS P T N ops ⟨d, .makeSlice t x y, ty, pos, aft, none⟩ K ⟨e, H⟩ ↔ rdK N d e H (on2 (evo e x) (evo e y) (vmakeN P N.nest H.length t)) K := e_rd rfl
theorem s_slice {t : TypeId} {x : Operand} {lo hi mx : Option Operand} : wpS P T N ops ⟨d, .slice t x lo hi mx, ty, pos, aft, none⟩ K ⟨e, H⟩ ↔ rdK N d e H (onS (evo e x) (optOp (evo e) lo) (optOp (evo e) hi) (optOp (evo e) mx) (vslice P H H.length t)) K := e_rd rfl
theorem s_fieldAddr {t : TypeId} {x : Operand} {f : Nat} : wpS P T N ops ⟨d, .fieldAddr t x f, ty, pos, aft, none⟩ K ⟨e, H⟩ ↔ rdK N d e H (on1 (evo e x) (vfieldAddr P H t f)) K := e_rd rfl
theorem s_field {t : TypeId} {x : Operand} {f : Nat} : wpS P T N ops ⟨d, .field t x f, ty, pos, aft, none⟩ K ⟨e, H⟩ ↔ rdK N d e H (on1 (evo e x) (vfield P t f)) K := e_rd rfl
theorem s_indexAddr {t : TypeId} {x y : Operand} : wpS P T N ops ⟨d, .indexAddr t x y, ty, pos, aft, none⟩ K ⟨e, H⟩ ↔ rdK N d e H (on2 (evo e x) (evo e y) (vindexAddr P H t)) K := e_rd rfl
theorem s_index {t : TypeId} {x y : Operand} : wpS P T N ops ⟨d, .index t x y, ty, pos, aft, none⟩ K ⟨e, H⟩ ↔ rdK N d e H (on2 (evo e x) (evo e y) (vindex P t)) K := e_rd rfl
theorem s_extract {x : Operand} {i : Nat} : wpS P T N ops ⟨d, .extract x i, ty, pos, aft, none⟩ K ⟨e, H⟩ ↔ rdK N d e H (on1 (evo e x) fun a => vextract a i) K := e_rd rfl
theorem s_call {g : FuncId} {ags : Array Operand} {ts : Array TypeId} (h : N.sh g = false) : wpS P T N ops ⟨d, .call ⟨.value (.func g), ags, ts⟩, ty, pos, aft, none⟩ K ⟨e, H⟩ ↔ rdK N d e H (onC (evo e (.func g)) (mapO (evo e) ags.toList) (vcall T H)) K := e_rd h
theorem s_callv {t : Nat} {ags : Array Operand} {ts : Array TypeId} : wpS P T N ops ⟨d, .call ⟨.value (.tmp t), ags, ts⟩, ty, pos, aft, none⟩ K ⟨e, H⟩ ↔ rdK N d e H (onC (some (e t)) (mapO (evo e) ags.toList) (vcall T H)) K := e_rd rfl
theorem s_calls {g : FuncId} {ags : Array Operand} {ts : Array TypeId} (h : N.sh g = true) : wpS P T N ops ⟨d, .call ⟨.value (.func g), ags, ts⟩, ty, pos, aft, none⟩ K ⟨e, H⟩ ↔ wrK N d e (onW (mapO (evo e) ags.toList) fun l => T.S g l H) K := by
  have hw : isWr P N ⟨d, .call ⟨.value (.func g), ags, ts⟩, ty, pos, aft, none⟩ = true := h
  rw [e_wr hw]
  simp only [vwr, h, if_true]
  cases mapO (evo e) ags.toList <;> rfl
theorem s_len {x : Operand} {ts : Array TypeId} : wpS P T N ops ⟨d, .call ⟨.builtin .len, #[x], ts⟩, ty, pos, aft, none⟩ K ⟨e, H⟩ ↔ rdK N d e H (on1 (evo e x) (vlen P H ts ty)) K := e_rd rfl
theorem s_max {ags : Array Operand} {ts : Array TypeId} : wpS P T N ops ⟨d, .call ⟨.builtin .max, ags, ts⟩, ty, pos, aft, none⟩ K ⟨e, H⟩ ↔ rdK N d e H (onL (mapO (evo e) ags.toList) (vmax P ts ty)) K := e_rd rfl
theorem s_min {ags : Array Operand} {ts : Array TypeId} : wpS P T N ops ⟨d, .call ⟨.builtin .min, ags, ts⟩, ty, pos, aft, none⟩ K ⟨e, H⟩ ↔ rdK N d e H (onL (mapO (evo e) ags.toList) (vmin P ts ty)) K := e_rd rfl
theorem s_store {t : TypeId} {x y : Operand} : wpS P T N ops ⟨d, .store t x y, ty, pos, aft, none⟩ K ⟨e, H⟩ ↔ wrK N d e (vwr P T N H (evo e) ⟨d, .store t x y, ty, pos, aft, none⟩) K := e_wr rfl
theorem s_append {ags : Array Operand} {ts : Array TypeId} : wpS P T N ops ⟨d, .call ⟨.builtin .append, ags, ts⟩, ty, pos, aft, none⟩ K ⟨e, H⟩ ↔ wrK N d e (vwr P T N H (evo e) ⟨d, .call ⟨.builtin .append, ags, ts⟩, ty, pos, aft, none⟩) K := e_wr rfl
end

theorem rd_some {d : Option Tmp} {e : Nat → AV} {a : AV} {news : List Ent} {ms : List Nat} {K : St → Prop} : rdK N d e H (some (a, news, ms)) K ↔ putK N d e (frzAll (H ++ news) ms) a K := Iff.rfl
theorem rd_qa {d : Option Tmp} {e : Nat → AV} {a : AV} {K : St → Prop} : rdK N d e H (qa a) K ↔ putK N d e H a K := by simp [qa, rdK, frzAll]
theorem put_some {d : Tmp} {e : Nat → AV} {a : AV} {K : St → Prop} : putK N (some d) e H a K ↔ d < N.N ∧ K ⟨upd e d a, H⟩ := Iff.rfl
theorem put_none {e : Nat → AV} {a : AV} {K : St → Prop} : putK N none e H a K ↔ K ⟨e, H⟩ := Iff.rfl
theorem wr_some {d : Option Tmp} {e : Nat → AV} {a : AV} {K : St → Prop} : wrK N d e (some (a, H)) K ↔ putK N d e H a K := Iff.rfl
theorem frz_nil : frzAll H [] = H := rfl

theorem ev_tmp {e : Nat → AV} {t : Nat} : evo e (.tmp t) = some (e t) := rfl
theorem ev_int {e : Nat → AV} {k : IntKind} {n : Int} : evo e (.const (.int k n)) = some (vI k n) := rfl
theorem ev_bool {e : Nat → AV} {b : Bool} : evo e (.const (.bool b)) = some (vB b) := rfl
theorem ev_str {e : Nat → AV} {s : ByteArray} : evo e (.const (.string s)) = some (vS s) := rfl
theorem ev_func {e : Nat → AV} {f : FuncId} : evo e (.func f) = some (.one (.fn f [])) := rfl
theorem ev_nil {e : Nat → AV} : evo e (.const (.slice none 0 0)) = some (.one (.c (.v (.slice none 0 0)))) := rfl
theorem ev_nilp {e : Nat → AV} : evo e (.const (.pointer none)) = some (.one (.c (.v (.pointer none)))) := rfl

theorem isNil_tmp {t : Nat} : isNil (.tmp t) = false := rfl
theorem isNil_int {k : IntKind} {n : Int} : isNil (.const (.int k n)) = false := rfl
theorem isNil_bool {b : Bool} : isNil (.const (.bool b)) = false := rfl
theorem isNil_str {s : ByteArray} : isNil (.const (.string s)) = false := rfl
theorem isNil_nil : isNil (.const (.slice none 0 0)) = true := rfl

theorem then_n {A : St → Prop} {K : Ex → St → Prop} {s : St} : thenK A K .normal s = A s := rfl
theorem then_e {A : St → Prop} {K : Ex → St → Prop} {s : St} {i : Nat} : thenK A K (.exit i) s = K (.exit i) s := rfl
theorem then_r {A : St → Prop} {K : Ex → St → Prop} {s : St} : thenK A K .ret s = K .ret s := rfl
theorem block_n {K : Ex → St → Prop} {s : St} {i : Nat} : blockK i K .normal s = K .normal s := rfl
theorem block_e {K : Ex → St → Prop} {s : St} {i j : Nat} : blockK i K (.exit j) s = if j = i then K .normal s else K (.exit j) s := rfl
theorem block_r {K : Ex → St → Prop} {s : St} {i : Nat} : blockK i K .ret s = K .ret s := rfl
theorem end_n {rs : List ResultVar} {r : CA} {s : St} : endK P rs r .normal s ↔ ∃ l a, mapO (vres P s) rs = some l ∧ join l = some a ∧ fza s.H a = some r := Iff.rfl
theorem ends_n {rs : List ResultVar} {r : AV} {H' : Hp} {s : St} : endS P rs r H' .normal s ↔ ∃ l, mapO (vres P s) rs = some l ∧ join l = some r ∧ s.H = H' := Iff.rfl
theorem ends_r {rs : List ResultVar} {r : AV} {H' : Hp} {s : St} : endS P rs r H' .ret s ↔ ∃ l, mapO (vres P s) rs = some l ∧ join l = some r ∧ s.H = H' := Iff.rfl
theorem end_r {rs : List ResultVar} {r : CA} {s : St} : endK P rs r .ret s ↔ ∃ l a, mapO (vres P s) rs = some l ∧ join l = some a ∧ fza s.H a = some r := Iff.rfl

theorem g_bool {b want : Bool} {yes no : Prop} : guardK (some (vB b)) want yes no ↔ if b = want then yes else no := Iff.rfl
theorem g_und {want : Bool} {yes no : Prop} : guardK (some und) want yes no ↔ no := Iff.rfl

end Go.Proofs.Vm
end

section
/- The value machine's operations over a table of types, as rewriting rules. -/
namespace Go.Proofs.Vm
open Go

variable {P : Program} {T : Tab} {N : Fx} {H : Hp}

def offOf (P : Program) (s : TypeId) (f : Nat) : Option Nat :=
  match fieldOf P s f with
  | some fd => match pv P (sizeOf fd.type) with
    | some (_ + 1) => some fd.offset
    | _ => none
  | none => none

def fldOf (P : Program) (s : TypeId) (f : Nat) : Option (Nat × Option Nat) :=
  match fieldOf P s f with
  | some fd => match pv P (isAgg fd.type) with
    | some true => match pv P (sizeOf fd.type) with
      | some n => some (fd.offset, some n)
      | none => none
    | some false => some (fd.offset, none)
    | none => none
  | none => none

def ldOf (P : Program) (t : TypeId) : Option (Option Nat) :=
  match pv P (isAgg t) with
  | some true => match pv P (sizeOf t) with
    | some n => some (some n)
    | none => none
  | some false => some none
  | none => none

def zOf (P : Program) (t : TypeId) : Option (List Value) :=
  match pv P (zeroValue t) with
  | some z => if z.cells.toList.all (·.oneCell') then some z.cells.toList else none
  | none => none

def bldOf (P : Program) (t : TypeId) : Option (List Value × List (Nat × Nat)) :=
  match zOf P t, pv P (underlying t) with
  | some z, some (.struct fields) => match placesOf P fields.toList with
    | some pl => some (z, pl)
    | none => none
  | _, _ => none

/-- Of an element's type: its cells, its bytes, its zero. -/
def elOf (P : Program) (e : TypeId) : Option (Nat × Nat × List CV) :=
  match pv P (typeInfo e), zOf P e with
  | some i, some z => if z.length = i.size then some (i.size, i.bytes, z.map nrm) else none
  | _, _ => none

theorem vfieldAddr_eq {s : TypeId} {f : Nat} {a : AV} : vfieldAddr P H s f a = match offOf P s f with | some n => shift H a n | none => none := by
  unfold vfieldAddr offOf
  cases fieldOf P s f with
  | none => rfl
  | some fd =>
    dsimp only
    cases pv P (sizeOf fd.type) with
    | none => rfl
    | some n => cases n <;> rfl

theorem vload_eq {t : TypeId} {a : AV} : vload P H t a = match behind H a, ldOf P t with
    | some cs, some (some n) => if n ≤ cs.length then qa (.agg (cs.take n)) else none
    | some (c :: _), some none => qa (.one c)
    | _, _ => none := by
  unfold vload ldOf
  cases behind H a with
  | none => rfl
  | some cs =>
    dsimp only
    cases pv P (isAgg t) with
    | none => cases cs <;> rfl
    | some b =>
      cases b with
      | true =>
        dsimp only
        cases pv P (sizeOf t) with
        | none => cases cs <;> rfl
        | some n => rfl
      | false => cases cs <;> rfl

theorem vfield_eq {s : TypeId} {f : Nat} {l : List Cell} : vfield P s f (.agg l) = match fldOf P s f with
    | some (o, some n) => if o + n ≤ l.length then qa (.agg ((l.drop o).take n)) else none
    | some (o, none) => match l[o]? with
      | some c => qa (.one c)
      | none => none
    | none => none := by
  unfold vfield fldOf
  cases fieldOf P s f with
  | none => rfl
  | some fd =>
    dsimp only
    cases pv P (isAgg fd.type) with
    | none => rfl
    | some b =>
      cases b with
      | true =>
        dsimp only
        cases pv P (sizeOf fd.type) <;> rfl
      | false => rfl

theorem valloc_eq {nid : Nat} {t : TypeId} : valloc P nid t = match zOf P t with
    | some z => some (.one (.ptr ⟨nid, 0, 0, 1⟩), .opn [(ownz (nid + 1) z).1] false :: (ownz (nid + 1) z).2, [])
    | none => none := by
  unfold valloc zOf
  cases pv P (zeroValue t) with
  | none => rfl
  | some z =>
    dsimp only
    split <;> rfl

theorem vbuild_eq {nid : Nat} {ρ : Operand → Option AV} {t : TypeId} {ps : List (Nat × Operand)} : vbuild P nid ρ t ps = match bldOf P t, partsOf ρ ps with
    | some (z, pl), some qs => match vfill (pl[·]?) (ownz nid z).1 qs with
      | some cells => some (.agg cells, (ownz nid z).2, [])
      | none => none
    | _, _ => none := by
  unfold vbuild bldOf zOf
  cases pv P (zeroValue t) with
  | none => rfl
  | some z =>
    dsimp only
    cases hu : pv P (underlying t) with
    | none =>
      by_cases hz : z.cells.toList.all (·.oneCell') = true
      · rw [if_pos hz]
      · rw [if_neg hz]
    | some d =>
      cases d <;> first
        | (by_cases hz : z.cells.toList.all (·.oneCell') = true
           · rw [if_pos hz]
           · rw [if_neg hz])
        | skip
      rename_i fields
      by_cases hz : z.cells.toList.all (·.oneCell') = true
      · rw [if_pos hz]
        dsimp only
        cases hp : partsOf ρ ps with
        | none => cases placesOf P fields.toList <;> rfl
        | some qs =>
          dsimp only
          cases placesOf P fields.toList with
          | none => rfl
          | some pl =>
            dsimp only
            rw [if_pos hz]
            rfl
      · rw [if_neg hz]
        dsimp only
        cases hp : partsOf ρ ps with
        | none => rfl
        | some qs =>
          dsimp only
          cases placesOf P fields.toList with
          | none => rfl
          | some pl =>
            dsimp only
            rw [if_neg hz]
            try rfl

theorem elOf_facts {e : TypeId} {sz b : Nat} {z : List CV} (h : elOf P e = some (sz, b, z)) :
    ∃ i v, pv P (typeInfo e) = some i ∧ pv P (zeroValue e) = some v ∧ i.size = sz ∧ i.bytes = b ∧ zcells v = z ∧ v.cells.size = sz ∧ v.cells.toList.all (·.oneCell') = true := by
  unfold elOf zOf at h
  cases hi : pv P (typeInfo e) with
  | none => rw [hi] at h; cases h
  | some i =>
    rw [hi] at h
    cases hz : pv P (zeroValue e) with
    | none => rw [hz] at h; cases h
    | some v =>
      rw [hz] at h
      dsimp only at h
      by_cases h1 : v.cells.toList.all (·.oneCell') = true
      · rw [if_pos h1] at h
        dsimp only at h
        split at h
        · rename_i h2
          cases h
          exact ⟨i, v, rfl, rfl, rfl, rfl, rfl, by simpa using h2, h1⟩
        · cases h
      · rw [if_neg h1] at h
        cases h

theorem vmakeSlice_eq {nest : Bool} {nid : Nat} {t e : TypeId} {k k' : IntKind} {l c : Int} {sz b : Nat} {z : List CV} (he : elemOfSlice P t = some e) (hel : elOf P e = some (sz, b, z)) :
    vmakeSlice P nest nid t (vI k l) (vI k' c) = if 0 ≤ l ∧ l = c ∧ small b c.toNat = true ∧ c ≤ 4611686018427387904 then
      some (.one (.sl nid 0 l.toNat l.toNat), [if nest && isSliceT P e && decide (l.toNat ≠ 0) then .opn (List.replicate l.toNat (z.map .c)) false else .clo (List.replicate l.toNat z) false], []) else none := by
  obtain ⟨i, v, h1, h2, h3, h4, h5, h6, h7⟩ := elOf_facts hel
  unfold vmakeSlice
  simp only [he, h1, h2, h3, h4, h5, h6, h7, and_true]

theorem vbuildSlice_eq {nid : Nat} {ρ : Operand → Option AV} {t e : TypeId} {len : Nat} {ps : List (Nat × Operand)} {sz b : Nat} {z : List CV} (he : elemOfSlice P t = some e) (hel : elOf P e = some (sz, b, z)) (hlen : len ≠ 0) :
    vbuildSlice P H nid ρ t len ps = match partsOf ρ ps with
      | some ps => match fzParts H ps with
        | some qs => if len * sz ≤ 16777216 ∧ len * sz ≠ 0 ∧ qs.all (fun p => p.1 < len && p.2.length == sz) = true then
            some (.one (.sl nid 0 len len), [.clo (setAll (List.replicate len z) qs) false], rchParts H ps) else none
        | none => none
      | none => none := by
  obtain ⟨i, v, h1, h2, h3, h4, h5, h6, h7⟩ := elOf_facts hel
  unfold vbuildSlice
  rw [if_neg (fun h => hlen h.1)]
  unfold vbuildSlice1
  simp only [he]
  cases partsOf ρ ps with
  | none => rfl
  | some ps =>
    simp only [h1, h2]
    cases fzParts H ps with
    | none => rfl
    | some qs =>
      simp only [h3, h5, h6, h7, true_and]

theorem vappend_eq {t tx e ex : TypeId} {id n : Nat} {l xs : List (List CV)} {x : AV} {sz b : Nat} {z : List CV} (he : elemOfSlice P t = some e) (hex : elemOfSlice P tx = some ex) (hel : elOf P e = some (sz, b, z))
    (hH : H[id]? = some (.clo l false)) (hx : elemsOf H x = some xs) (hn : l.length = n) (hl : ∀ e ∈ l, e.length = sz) (hxs : ∀ e ∈ xs, e.length = sz) (hs : b * (n + xs.length) ≤ 140737488355328) (h62 : n + xs.length ≤ 4611686018427387904) :
    vappend P H t tx (.one (.sl id 0 n n)) x = some (.one (.sl id 0 (n + xs.length) (n + xs.length)), H.set id (.clo (l ++ xs) false)) := by
  obtain ⟨i, v, h1, h2, h3, h4, h5, h6, h7⟩ := elOf_facts hel
  unfold vappend
  simp only [he, hex, hx, hH, h1, h2, h3, h4]
  rw [if_pos ⟨trivial, trivial, hn, hl, hxs, h6, by simp [small]; exact hs, h62⟩]

attribute [simp] e_skip e_exit e_ret e_region e_seq e_block e_loop e_cond b_bool e_nil e_cons e_grd rd_some rd_qa put_some put_none wr_some frz_nil ev_tmp ev_int ev_bool ev_str ev_func ev_nil ev_nilp isNil_tmp isNil_int isNil_bool isNil_str isNil_nil
  then_n then_e then_r block_n block_e block_r end_n end_r ends_n ends_r g_bool g_und upd_get vmove vpick bin_add bin_sub bin_mul bin_eql bin_neq bin_lss bin_leq bin_gtr bin_geq sbin_eql sbin_neq sbin_lss un_not un_neg mapO vres join fza fzc nrm CA.av env0 envS
  s_move s_assign s_pick s_alloc s_box s_build s_buildSlice s_load s_nilCheck s_copy s_clear s_binOp s_unOp s_convert s_makeFunc s_makeSlice s_slice s_fieldAddr s_field s_indexAddr s_index s_extract s_call s_calls s_callv s_len s_convW s_makeMap s_lookup s_mapUpdate s_mapEntry s_entryStore s_delete s_max s_min s_store s_append
  vfieldAddr_eq vload_eq vfield_eq valloc_eq vbuild_eq vextract behind cellsAt shift ownz vbox AV.cells

end Go.Proofs.Vm
end

section
/- One table for a whole program: what its functions answer, by their own runs. -/
namespace Go.Proofs.Vm
open Go

/-- No reads beside writes. -/
def noLate : Nat → List Nat := fun _ => []
@[simp] theorem noLate_at {r : Nat} : noLate r = [] := List.eq_nil_of_length_eq_zero (by unfold noLate; rfl)
structure Cfg where
  sh : FuncId → Bool
  nest : FuncId → Bool
  base : Tab
  late : FuncId → Nat → List Nat

variable {P : Program} {C : Cfg}

def fxOf (P : Program) (C : Cfg) (f : FuncId) : Fx := ⟨match P.funcs[f]? with | some fn => fn.ntmps | none => 0, C.sh, C.nest f, C.late f⟩

def runP (P : Program) (C : Cfg) (T : Tab) (f : FuncId) (args : List CA) (r : CA) : Prop :=
  ∃ fn c, P.funcs[f]? = some fn ∧ fn.body = some c ∧ FnOk P f ∧ codeB P (fxOf P C f) c = true ∧ args.length ≤ fn.ntmps ∧ wpV P T (fxOf P C f) c (endK P fn.results.toList r) ⟨env0 args, []⟩

def runS (P : Program) (C : Cfg) (T : Tab) (f : FuncId) (args : List AV) (H : Hp) (r : AV × Hp) : Prop :=
  ∃ fn c, P.funcs[f]? = some fn ∧ fn.body = some c ∧ FnOk P f ∧ codeB P (fxOf P C f) c = true ∧ args.length ≤ fn.ntmps ∧ Gr P f H r.2 ∧ wpV P T (fxOf P C f) c (endS P fn.results.toList r.1 r.2) ⟨envS args, H⟩

theorem endK_det {T : Tab} {N : Fx} {rs : List ResultVar} {c : Code} {s : St} {r r' : CA} (h : wpV P T N c (endK P rs r) s) (g : wpV P T N c (endK P rs r') s) : r = r' := by
  obtain ⟨ex, s1, ⟨m, h1⟩, h2⟩ := h
  obtain ⟨ex', s2, ⟨m', g1⟩, g2⟩ := g
  have e1 := h1 (max m m') (by omega)
  rw [g1 (max m m') (by omega)] at e1
  cases e1
  have fin : (∃ l a, mapO (vres P s1) rs = some l ∧ join l = some a ∧ fza s1.H a = some r) → (∃ l a, mapO (vres P s1) rs = some l ∧ join l = some a ∧ fza s1.H a = some r') → r = r' := by
    rintro ⟨l, a, a1, a2, a3⟩ ⟨l', a', b1, b2, b3⟩
    rw [a1] at b1
    cases b1
    rw [a2] at b2
    cases b2
    rw [a3] at b3
    cases b3
    rfl
  cases ex with
  | exit id => exact h2.elim
  | normal => exact fin h2 g2
  | ret => exact fin h2 g2

theorem runP_det {T : Tab} {f : FuncId} {args : List CA} {r r' : CA} (h : runP P C T f args r) (g : runP P C T f args r') : r = r' := by
  obtain ⟨fn, c, h1, h2, _, _, _, h3⟩ := h
  obtain ⟨fn', c', g1, g2, _, _, _, g3⟩ := g
  rw [h1] at g1
  cases g1
  rw [h2] at g2
  cases g2
  exact endK_det h3 g3

theorem runS_det {T : Tab} {f : FuncId} {args : List AV} {H : Hp} {r r' : AV × Hp} (h : runS P C T f args H r) (g : runS P C T f args H r') : r = r' := by
  obtain ⟨fn, c, h1, h2, _, _, _, _, h3⟩ := h
  obtain ⟨fn', c', g1, g2, _, _, _, _, g3⟩ := g
  rw [h1] at g1
  cases g1
  rw [h2] at g2
  cases g2
  obtain ⟨e1, e2⟩ := endS_det h3 g3
  exact Prod.ext e1 e2

/-- One table knows all that another knows. -/
def TLe (T T' : Tab) : Prop := (∀ f a r, T.pu f a = some r → T'.pu f a = some r) ∧ (∀ f a H r, T.S f a H = some r → T'.S f a H = some r) ∧ T'.cb = T.cb

theorem TLe.refl (T : Tab) : TLe T T := ⟨fun _ _ _ h => h, fun _ _ _ _ h => h, rfl⟩
theorem TLe.trans {A B D : Tab} (h : TLe A B) (g : TLe B D) : TLe A D := ⟨fun f a r x => g.1 f a r (h.1 f a r x), fun f a H r x => g.2.1 f a H r (h.2.1 f a H r x), g.2.2.trans h.2.2⟩
theorem TLe.late {A B : Tab} (h : TLe A B) : TLe (late A) (late B) := ⟨h.1, h.2.1, rfl⟩

section
variable {T T' : Tab}

theorem vcall_mono (L : TLe T T') {H : Hp} {fv : AV} {ags : List AV} {r : AV × List Ent × List Nat} (h : vcall T H fv ags = some r) : vcall T' H fv ags = some r := by
  unfold vcall at h ⊢
  split at h
  · rename_i g cs ks h1 h2
    split at h
    · rename_i x hx
      rw [L.1 _ _ _ hx]
      exact h
    · cases h
  · cases h

theorem vrd_late {T T' : Tab} {nest : Bool} {H : Hp} {nid : Nat} {ρ : Operand → Option AV} {o : Oper} (h : lateOp o = true) : vrd P (late T') nest H nid ρ o = vrd P (late T) nest H nid ρ o := by
  obtain ⟨d, op, ty, pos, aft, g⟩ := o
  cases op <;> first | rfl | cases h
theorem vrd_mono (L : TLe T T') {nest : Bool} {H : Hp} {nid : Nat} {ρ : Operand → Option AV} {o : Oper} {r : AV × List Ent × List Nat} (h : vrd P T nest H nid ρ o = some r) : vrd P T' nest H nid ρ o = some r := by
  obtain ⟨d, op, ty, pos, aft, g⟩ := o
  cases op <;> first | exact h | (simp only [vrd, L.2.2] at h ⊢; exact h; done) | skip
  rename_i c
  obtain ⟨ca, ags, ts⟩ := c
  cases ca with
  | builtin b => cases b <;> exact h
  | value v =>
    simp only [vrd] at h ⊢
    split at h
    · exact vcall_mono L h
    · cases h
  | _ => exact h

theorem vwr_mono (L : TLe T T') {N : Fx} {H : Hp} {ρ : Operand → Option AV} {o : Oper} {r : AV × Hp} (h : vwr P T N H ρ o = some r) : vwr P T' N H ρ o = some r := by
  obtain ⟨d, op, ty, pos, aft, g⟩ := o
  cases op <;> first | exact h | (rename_i rv; cases rv <;> exact h) | skip
  rename_i c
  obtain ⟨ca, ags, ts⟩ := c
  cases ca with
  | builtin b =>
    cases b <;> first | exact h | (simp only [vwr] at h ⊢; revert h; rcases ags.toList with _ | ⟨a1, _ | ⟨a2, _ | ⟨a3, a4⟩⟩⟩ <;> rcases ts.toList with _ | ⟨b1, _ | ⟨b2, _ | ⟨b3, b4⟩⟩⟩ <;> exact id)
  | value v =>
    cases v with
    | func g =>
      simp only [vwr] at h ⊢
      split at h
      · rename_i hs
        rw [if_pos hs]
        split at h
        · rename_i ags' ha
          exact L.2.1 _ _ _ _ h
        · cases h
      · cases h
    | _ => exact h
  | _ => exact h

theorem stepV_mono (L : TLe T T') {N : Fx} {ops : Array Oper} {o : Oper} {s r : St} (h : stepV P T N ops o s = some r) : stepV P T' N ops o s = some r := by
  unfold stepV at h ⊢
  split at h
  · exact h
  · split at h
    · rename_i hw
      rw [if_pos hw]
      split at h
      · rename_i a K hv
        rw [vwr_mono L hv]
        exact h
      · cases h
    · rename_i hw
      rw [if_neg hw]
      split at h
      · rename_i a K ms hv
        rw [vrd_mono L hv]
        exact h
      · cases h
  · cases h

theorem runV_mono (L : TLe T T') {N : Fx} {ops : Array Oper} : ∀ {os : List Oper} {s r : St}, runV P T N ops os s = some r → runV P T' N ops os s = some r
  | [], _, _, h => h
  | o :: os, s, r, h => by
    simp only [runV] at h ⊢
    split at h
    · rename_i s1 h1
      rw [stepV_mono L h1]
      exact runV_mono L h
    · cases h

theorem okRs_late {T T' : Tab} {nest : Bool} {H : Hp} : ∀ {l : List LateR}, (∀ x ∈ l, lateOp x.1 = true) → okRs P (late T) nest H l → okRs P (late T') nest H l
  | [], _, _ => trivial
  | x :: _l, hl, h => ⟨(vrd_late (hl x List.mem_cons_self)).trans h.1, okRs_late (fun y hy => hl y (List.mem_cons_of_mem _ hy)) h.2⟩
theorem okHs_late {T T' : Tab} {nest : Bool} {o : Oper} {e : Nat → AV} {nid : Nat} {a : AV} (ho : lateOp o = true) : ∀ {l : List Hp}, okHs P (late T) nest o e nid a l → okHs P (late T') nest o e nid a l
  | [], _ => trivial
  | _x :: _l, h => ⟨(vrd_late ho).trans h.1, okHs_late ho h.2⟩
theorem runW_mono (L : TLe T T') {N : Fx} {ops : Array Oper} {fl : List Nat} : ∀ {os : List Oper} {i : Nat} {hs : List Hp} {rs : List LateR} {s r : St}, (∀ x ∈ rs, lateOp x.1 = true) → runW P (late T) N ops fl i os hs rs s = some r → runW P (late T') N ops fl i os hs rs s = some r
  | [], i, hs, rs, s, r, hl, h => by
    unfold runW at h ⊢
    split at h
    case isFalse => cases h
    rename_i hr
    rw [if_pos (okRs_late hl hr)]
    exact h
  | o :: os, i, hs, rs, s, r, hl, h => by
    unfold runW at h ⊢
    by_cases hif : i ∈ fl
    · rw [if_pos hif] at h ⊢
      by_cases hlo : lateOp o = true
      rotate_left
      · rw [if_neg hlo] at h; cases h
      rw [if_pos hlo] at h ⊢
      rw [vrd_late (T := T) hlo]
      split at h
      · split at h
        case h_2 => cases h
        exact runW_mono L hl h
      · split at h
        case h_2 => cases h
        rename_i a hv
        split at h
        case isFalse => cases h
        rename_i hh
        rw [if_pos (okHs_late hlo hh)]
        split at h
        case h_2 => cases h
        exact runW_mono L (fun x hx => by
          rcases List.mem_cons.1 hx with rfl | hx
          · exact hlo
          · exact hl x hx) h
      · cases h
    · rw [if_neg hif] at h ⊢
      by_cases hwr : isWr P N o = true
      · rw [if_pos hwr] at h ⊢
        split at h
        case isFalse => cases h
        rename_i hok
        rw [if_pos (okRs_late hl hok)]
        split at h
        case h_2 => cases h
        rename_i s1 hst
        rw [stepV_mono L.late hst]
        exact runW_mono L hl h
      · rw [if_neg hwr] at h ⊢
        split at h
        case h_2 => cases h
        rename_i s1 hst
        rw [stepV_mono L.late hst]
        exact runW_mono L hl h
theorem runR_mono (L : TLe T T') {N : Fx} {id : Nat} {ops : Array Oper} {s r : St} (h : runR P T N id ops s = some r) : runR P T' N id ops s = some r := by
  unfold runR at h ⊢
  split at h
  · rename_i hf; rw [if_pos hf]; exact runV_mono L h
  · rename_i hf; rw [if_neg hf]; exact runW_mono L (fun x hx => by cases hx) h

theorem vcode_le (L : TLe T T') {N : Fx} {n : Nat} : ∀ (c : Code) (s : St) (r : Ex × St), vcode P T N n c s = some r → vcode P T' N n c s = some r := by
  intro c
  induction c with
  | skip => intro s r h; exact h
  | region id ops d =>
    intro s r h
    simp only [vcode] at h ⊢
    split at h
    · rename_i s1 h1
      rw [runR_mono L h1]
      exact h
    · cases h
  | exit id => intro s r h; exact h
  | ret => intro s r h; exact h
  | seq a b iha ihb =>
    intro s r h
    simp only [vcode] at h ⊢
    split at h
    · rename_i s1 h1
      rw [iha _ _ h1]
      exact ihb _ _ h
    · rename_i h1
      rw [iha _ _ h]
      split
      · rename_i heq
        cases heq
        exact absurd h (h1 _)
      · rfl
  | cond c x y ihx ihy =>
    intro s r h
    simp only [vcode] at h ⊢
    split at h
    case h_2 => cases h
    rename_i t ht
    split at h
    · rename_i hb
      rw [if_pos hb]
      exact ihx _ _ h
    · rename_i hb
      rw [if_neg hb]
      exact ihy _ _ h
  | block id c ih =>
    intro s r h
    simp only [vcode] at h ⊢
    split at h
    · rename_i k s1 h1
      rw [ih _ _ h1]
      exact h
    · rename_i h1
      rw [ih _ _ h]
      split
      · rename_i heq
        cases heq
        exact absurd h (h1 _ _)
      · rfl
  | loop c ih =>
    intro s r h
    simp only [vcode] at h ⊢
    exact iter_mono ih h (Nat.le_refl _)
  | rangeFunc f params assign body _ _ => intro s r h; cases h
  | scope body _ => intro s r h; cases h
  | label l => intro s r h; cases h
  | goto l => intro s r h; cases h
  | refuse why => intro s r h; cases h

theorem wpV_le (L : TLe T T') {N : Fx} {c : Code} {K : Ex → St → Prop} {s : St} (h : wpV P T N c K s) : wpV P T' N c K s := by
  rw [wpV_iff] at h ⊢
  obtain ⟨n, ex, s', h1, h2⟩ := h
  exact ⟨n, ex, s', vcode_le L _ _ _ h1, h2⟩

theorem runP_le (L : TLe T T') {f : FuncId} {args : List CA} {r : CA} (h : runP P C T f args r) : runP P C T' f args r := by
  obtain ⟨fn, c, h1, h2, h3, h4, h5, h6⟩ := h
  exact ⟨fn, c, h1, h2, h3, h4, h5, wpV_le L h6⟩

theorem runS_le (L : TLe T T') {f : FuncId} {args : List AV} {H : Hp} {r : AV × Hp} (h : runS P C T f args H r) : runS P C T' f args H r := by
  obtain ⟨fn, c, h1, h2, h3, h4, h5, h6, h7⟩ := h
  exact ⟨fn, c, h1, h2, h3, h4, h5, h6, wpV_le L h7⟩
end

open Classical in
noncomputable def stepT (P : Program) (C : Cfg) (T : Tab) : Tab where
  pu f args := match C.base.pu f args with
    | some r => some r
    | none => if h : ∃ r, runP P C T f args r then some (Classical.choose h) else none
  S f args H := match C.base.S f args H with
    | some r => some r
    | none => if h : ∃ r, runS P C T f args H r then some (Classical.choose h) else none
  cb := C.base.cb

theorem stepT_pu {T : Tab} {f : FuncId} {args : List CA} {r : CA} : (stepT P C T).pu f args = some r ↔ C.base.pu f args = some r ∨ C.base.pu f args = none ∧ runP P C T f args r := by
  unfold stepT
  dsimp only
  cases hb : C.base.pu f args with
  | some x => simp
  | none =>
    simp only [reduceCtorEq, true_and, false_or]
    split
    · rename_i h
      constructor
      · intro g
        cases g
        exact Classical.choose_spec h
      · intro g
        rw [runP_det g (Classical.choose_spec h)]
    · rename_i h
      exact ⟨fun g => (by cases g), fun g => absurd ⟨r, g⟩ h⟩

theorem stepT_S {T : Tab} {f : FuncId} {args : List AV} {H : Hp} {r : AV × Hp} : (stepT P C T).S f args H = some r ↔ C.base.S f args H = some r ∨ C.base.S f args H = none ∧ runS P C T f args H r := by
  unfold stepT
  dsimp only
  cases hb : C.base.S f args H with
  | some x => simp
  | none =>
    simp only [reduceCtorEq, true_and, false_or]
    split
    · rename_i h
      constructor
      · intro g
        cases g
        exact Classical.choose_spec h
      · intro g
        rw [runS_det g (Classical.choose_spec h)]
    · rename_i h
      exact ⟨fun g => (by cases g), fun g => absurd ⟨r, g⟩ h⟩

theorem stepT_mono {T T' : Tab} (L : TLe T T') : TLe (stepT P C T) (stepT P C T') :=
  ⟨fun _f _a _r h => stepT_pu.2 ((stepT_pu.1 h).imp id fun g => ⟨g.1, runP_le L g.2⟩), fun _f _a _H _r h => stepT_S.2 ((stepT_S.1 h).imp id fun g => ⟨g.1, runS_le L g.2⟩), rfl⟩

theorem stepT_ok (hm : P.follows .mixedOrders = true) (hB : TOk P C.base) {T : Tab} (hT : TOk P T) : TOk P (stepT P C T) := by
  refine ⟨fun f args r h => ?_, fun f args H r H' h => ?_⟩
  · rcases stepT_pu.1 h with h | ⟨_, fn, c, h1, h2, h3, h4, h5, h6⟩
    · exact hB.1 f args r h
    · exact ⟨h3, ctr_of hm h1 h2 h4 hT ⟨h5, by simp [fxOf, h1]⟩ rfl h6⟩
  · rcases stepT_S.1 h with h | ⟨_, fn, c, h1, h2, h3, h4, h5, h6, h7⟩
    · exact hB.2 f args H r H' h
    · exact ⟨h6, h3, sctr_of hm h1 h2 h4 hT ⟨h5, by simp [fxOf, h1]⟩ h7⟩

noncomputable def tabN (P : Program) (C : Cfg) : Nat → Tab
  | 0 => C.base
  | d + 1 => stepT P C (tabN P C d)

theorem tabN_succ : ∀ d, TLe (tabN P C d) (tabN P C (d + 1))
  | 0 => ⟨fun _f _a _r h => stepT_pu.2 (Or.inl h), fun _f _a _H _r h => stepT_S.2 (Or.inl h), rfl⟩
  | d + 1 => stepT_mono (tabN_succ d)

theorem tabN_le {d d' : Nat} (h : d ≤ d') : TLe (tabN P C d) (tabN P C d') := by
  induction h with
  | refl => exact .refl _
  | step _ ih => exact ih.trans (tabN_succ _)

theorem tabN_ok (hm : P.follows .mixedOrders = true) (hB : TOk P C.base) : ∀ d, TOk P (tabN P C d)
  | 0 => hB
  | d + 1 => stepT_ok hm hB (tabN_ok hm hB d)

/-- The whole table. -/
noncomputable def TT (P : Program) (C : Cfg) : Tab := by
  classical
  exact { pu := fun f args => if h : ∃ r d, (tabN P C d).pu f args = some r then some (Classical.choose h) else none
          S := fun f args H => if h : ∃ r d, (tabN P C d).S f args H = some r then some (Classical.choose h) else none
          cb := C.base.cb }

theorem TT_pu {f : FuncId} {args : List CA} {r : CA} : (TT P C).pu f args = some r ↔ ∃ d, (tabN P C d).pu f args = some r := by
  unfold TT
  dsimp only
  split
  · rename_i h
    obtain ⟨d, hd⟩ := Classical.choose_spec h
    constructor
    · intro g
      cases g
      exact ⟨d, hd⟩
    · rintro ⟨d', hd'⟩
      have e1 := (tabN_le (Nat.le_max_left d d')).1 _ _ _ hd
      have e2 := (tabN_le (Nat.le_max_right d d')).1 _ _ _ hd'
      rw [e1] at e2
      exact e2
  · rename_i h
    exact ⟨fun g => (by cases g), fun ⟨d, g⟩ => absurd ⟨r, d, g⟩ h⟩

theorem TT_S {f : FuncId} {args : List AV} {H : Hp} {r : AV × Hp} : (TT P C).S f args H = some r ↔ ∃ d, (tabN P C d).S f args H = some r := by
  unfold TT
  dsimp only
  split
  · rename_i h
    obtain ⟨d, hd⟩ := Classical.choose_spec h
    constructor
    · intro g
      cases g
      exact ⟨d, hd⟩
    · rintro ⟨d', hd'⟩
      have e1 := (tabN_le (Nat.le_max_left d d')).2.1 _ _ _ _ hd
      have e2 := (tabN_le (Nat.le_max_right d d')).2.1 _ _ _ _ hd'
      rw [e1] at e2
      exact e2
  · rename_i h
    exact ⟨fun g => (by cases g), fun ⟨d, g⟩ => absurd ⟨r, d, g⟩ h⟩

theorem TT_ok (hm : P.follows .mixedOrders = true) (hB : TOk P C.base) : TOk P (TT P C) :=
  ⟨fun f args r h => by obtain ⟨d, hd⟩ := TT_pu.1 h; exact (tabN_ok hm hB d).1 f args r hd, fun f args H r H' h => by obtain ⟨d, hd⟩ := TT_S.1 h; exact (tabN_ok hm hB d).2 f args H r H' hd⟩

theorem vwr_fin {N : Fx} {H : Hp} {ρ : Operand → Option AV} {o : Oper} {r : AV × Hp} (hv : vwr P (TT P C) N H ρ o = some r) : ∃ d, vwr P (tabN P C d) N H ρ o = some r := by
  obtain ⟨d, op, ty, pos, aft, g⟩ := o
  cases op <;> first | exact ⟨0, hv⟩ | (rename_i rv; cases rv <;> exact ⟨0, hv⟩) | skip
  rename_i c
  obtain ⟨ca, ags, ts⟩ := c
  cases ca with
  | builtin b =>
    cases b <;> first | exact ⟨0, hv⟩ | (simp only [vwr] at hv ⊢; revert hv; rcases ags.toList with _ | ⟨a1, _ | ⟨a2, _ | ⟨a3, a4⟩⟩⟩ <;> rcases ts.toList with _ | ⟨b1, _ | ⟨b2, _ | ⟨b3, b4⟩⟩⟩ <;> exact fun hv => ⟨0, hv⟩)
  | value v =>
    cases v with
    | func g =>
      simp only [vwr] at hv ⊢
      split at hv
      · rename_i hs
        simp only [if_pos hs]
        split at hv
        · rename_i ags' ha
          exact TT_S.1 hv
        · cases hv
      · cases hv
    | _ => exact ⟨0, hv⟩
  | _ => exact ⟨0, hv⟩

theorem vrd_fin {nest : Bool} {H : Hp} {nid : Nat} {ρ : Operand → Option AV} {o : Oper} {r : AV × List Ent × List Nat} (hv : vrd P (TT P C) nest H nid ρ o = some r) : ∃ d, vrd P (tabN P C d) nest H nid ρ o = some r := by
  obtain ⟨d, op, ty, pos, aft, g⟩ := o
  cases op <;> first | exact ⟨0, hv⟩ | skip
  rename_i c
  obtain ⟨ca, ags, ts⟩ := c
  cases ca with
  | builtin b => cases b <;> exact ⟨0, hv⟩
  | value v =>
    simp only [vrd] at hv ⊢
    split at hv
    · rename_i fv args h1 h2
      unfold vcall at hv ⊢
      split at hv
      · rename_i g cs ks h3 h4
        split at hv
        · rename_i x hx
          obtain ⟨d, hd⟩ := TT_pu.1 hx
          exact ⟨d, by rw [hd]; exact hv⟩
        · cases hv
      · cases hv
    · cases hv
  | _ => exact ⟨0, hv⟩

/-- What a run asks of the whole table some part of it knows. -/
theorem stepV_fin {N : Fx} {ops : Array Oper} {o : Oper} {s r : St} (h : stepV P (TT P C) N ops o s = some r) : ∃ d, stepV P (tabN P C d) N ops o s = some r := by
  unfold stepV at h ⊢
  split at h
  · exact ⟨0, h⟩
  · split at h
    · rename_i hw
      simp only [if_pos hw]
      split at h
      · rename_i a K hv
        obtain ⟨d, hd⟩ := vwr_fin hv
        exact ⟨d, by rw [hd]; exact h⟩
      · cases h
    · rename_i hw
      simp only [if_neg hw]
      split at h
      · rename_i a K ms hv
        obtain ⟨d, hd⟩ := vrd_fin hv
        exact ⟨d, by rw [hd]; exact h⟩
      · cases h
  · cases h

theorem runV_fin {N : Fx} {ops : Array Oper} : ∀ {os : List Oper} {s r : St}, runV P (TT P C) N ops os s = some r → ∃ d, runV P (tabN P C d) N ops os s = some r
  | [], _, _, h => ⟨0, h⟩
  | o :: os, s, r, h => by
    simp only [runV] at h ⊢
    split at h
    · rename_i s1 h1
      obtain ⟨d, hd⟩ := stepV_fin h1
      obtain ⟨d', hd'⟩ := runV_fin h
      refine ⟨max d d', ?_⟩
      rw [stepV_mono (tabN_le (Nat.le_max_left d d')) hd]
      exact runV_mono (tabN_le (Nat.le_max_right d d')) hd'
    · cases h

theorem stepV_finL {N : Fx} {ops : Array Oper} {o : Oper} {s r : St} (h : stepV P (late (TT P C)) N ops o s = some r) : ∃ d, stepV P (late (tabN P C d)) N ops o s = some r := by
  unfold stepV at h ⊢
  split at h
  · exact ⟨0, h⟩
  · split at h
    · rename_i hw
      simp only [if_pos hw]
      split at h
      · rename_i a K hv
        obtain ⟨d, hd⟩ := vwr_fin (show vwr P (TT P C) N s.H (evo s.env) o = some (a, K) from hv)
        have hd' : vwr P (late (tabN P C d)) N s.H (evo s.env) o = some (a, K) := hd
        exact ⟨d, by rw [hd']; exact h⟩
      · cases h
    · rename_i hw
      simp only [if_neg hw]
      split at h
      · rename_i a K ms hv
        by_cases hb : lateOp o = true
        · exact ⟨0, by rw [vrd_late (T := TT P C) hb, hv]; exact h⟩
        · have e : ∀ T : Tab, vrd P (late T) N.nest s.H s.H.length (evo s.env) o = vrd P T N.nest s.H s.H.length (evo s.env) o := fun T => by
            obtain ⟨d, op, ty, pos, aft, g⟩ := o
            cases op <;> first | rfl | exact absurd rfl hb
          rw [e] at hv
          obtain ⟨d, hd⟩ := vrd_fin hv
          rw [← e] at hd
          exact ⟨d, by rw [hd]; exact h⟩
      · cases h
  · cases h
theorem runW_fin {N : Fx} {ops : Array Oper} {fl : List Nat} : ∀ {os : List Oper} {i : Nat} {hs : List Hp} {rs : List LateR} {s r : St}, (∀ x ∈ rs, lateOp x.1 = true) → runW P (late (TT P C)) N ops fl i os hs rs s = some r → ∃ d, runW P (late (tabN P C d)) N ops fl i os hs rs s = some r
  | [], i, hs, rs, s, r, hl, h => by
    refine ⟨0, ?_⟩
    unfold runW at h ⊢
    split at h
    case isFalse => cases h
    rename_i hr
    rw [if_pos (okRs_late hl hr)]
    exact h
  | o :: os, i, hs, rs, s, r, hl, h => by
    unfold runW at h
    by_cases hif : i ∈ fl
    · rw [if_pos hif] at h
      by_cases hlo : lateOp o = true
      rotate_left
      · rw [if_neg hlo] at h; cases h
      rw [if_pos hlo] at h
      split at h
      · rename_i hw
        split at h
        case h_2 => cases h
        rename_i s1 hp
        obtain ⟨d, hd⟩ := runW_fin hl h
        refine ⟨d, ?_⟩
        unfold runW
        rw [if_pos hif, if_pos hlo, hw]
        dsimp only
        rw [hp]
        exact hd
      · rename_i hw
        split at h
        case h_2 => cases h
        rename_i a hv
        split at h
        case isFalse => cases h
        rename_i hh
        split at h
        case h_2 => cases h
        rename_i s1 hp
        obtain ⟨d, hd⟩ := runW_fin (fun x hx => by
          rcases List.mem_cons.1 hx with rfl | hx
          · exact hlo
          · exact hl x hx) h
        refine ⟨d, ?_⟩
        unfold runW
        rw [if_pos hif, if_pos hlo, hw]
        dsimp only
        rw [vrd_late (T := TT P C) hlo, hv]
        dsimp only
        rw [if_pos (okHs_late hlo hh), hp]
        exact hd
      · cases h
    · rw [if_neg hif] at h
      by_cases hwr : isWr P N o = true
      · rw [if_pos hwr] at h
        split at h
        case isFalse => cases h
        rename_i hok
        split at h
        case h_2 => cases h
        rename_i s1 hst
        obtain ⟨d, hd⟩ := stepV_finL hst
        obtain ⟨d', hd'⟩ := runW_fin hl h
        refine ⟨max d d', ?_⟩
        unfold runW
        rw [if_neg hif, if_pos hwr, if_pos (okRs_late hl hok), stepV_mono (tabN_le (Nat.le_max_left d d')).late hd]
        exact runW_mono (tabN_le (Nat.le_max_right d d')) hl hd'
      · rw [if_neg hwr] at h
        split at h
        case h_2 => cases h
        rename_i s1 hst
        obtain ⟨d, hd⟩ := stepV_finL hst
        obtain ⟨d', hd'⟩ := runW_fin hl h
        refine ⟨max d d', ?_⟩
        unfold runW
        rw [if_neg hif, if_neg hwr, stepV_mono (tabN_le (Nat.le_max_left d d')).late hd]
        exact runW_mono (tabN_le (Nat.le_max_right d d')) hl hd'
theorem runR_fin {N : Fx} {id : Nat} {ops : Array Oper} {s r : St} (h : runR P (TT P C) N id ops s = some r) : ∃ d, runR P (tabN P C d) N id ops s = some r := by
  unfold runR at h
  split at h
  · rename_i hf
    obtain ⟨d, hd⟩ := runV_fin h
    exact ⟨d, by unfold runR; rw [if_pos hf]; exact hd⟩
  · rename_i hf
    obtain ⟨d, hd⟩ := runW_fin (fun x hx => by cases hx) h
    exact ⟨d, by unfold runR; rw [if_neg hf]; exact hd⟩

theorem iter_fin {N : Fx} {n : Nat} {c : Code} (ih : ∀ s r, vcode P (TT P C) N n c s = some r → ∃ d, vcode P (tabN P C d) N n c s = some r) : ∀ {k : Nat} {s : St} {r : Ex × St}, iter k (vcode P (TT P C) N n c) s = some r → ∃ d, iter k (vcode P (tabN P C d) N n c) s = some r
  | 0, _, _, h => by cases h
  | k + 1, s, r, h => by
    simp only [iter] at h
    split at h
    · rename_i s1 h1
      obtain ⟨d, hd⟩ := ih _ _ h1
      obtain ⟨d', hd'⟩ := iter_fin ih h
      refine ⟨max d d', ?_⟩
      simp only [iter]
      rw [vcode_le (tabN_le (Nat.le_max_left d d')) _ _ _ hd]
      exact iter_mono (vcode_le (tabN_le (Nat.le_max_right d d')) c) hd' (Nat.le_refl _)
    · rename_i h1
      obtain ⟨d, hd⟩ := ih _ _ h
      refine ⟨d, ?_⟩
      simp only [iter]
      rw [hd]
      split
      · rename_i heq
        cases heq
        exact absurd h (h1 _)
      · rfl

theorem vcode_fin {N : Fx} {n : Nat} : ∀ (c : Code) (s : St) (r : Ex × St), vcode P (TT P C) N n c s = some r → ∃ d, vcode P (tabN P C d) N n c s = some r := by
  intro c
  induction c with
  | skip => intro s r h; exact ⟨0, h⟩
  | region id ops d =>
    intro s r h
    simp only [vcode] at h ⊢
    split at h
    · rename_i s1 h1
      obtain ⟨d, hd⟩ := runR_fin h1
      exact ⟨d, by rw [hd]; exact h⟩
    · cases h
  | exit id => intro s r h; exact ⟨0, h⟩
  | ret => intro s r h; exact ⟨0, h⟩
  | seq a b iha ihb =>
    intro s r h
    simp only [vcode] at h
    split at h
    · rename_i s1 h1
      obtain ⟨d, hd⟩ := iha _ _ h1
      obtain ⟨d', hd'⟩ := ihb _ _ h
      refine ⟨max d d', ?_⟩
      simp only [vcode]
      rw [vcode_le (tabN_le (Nat.le_max_left d d')) _ _ _ hd]
      exact vcode_le (tabN_le (Nat.le_max_right d d')) _ _ _ hd'
    · rename_i h1
      obtain ⟨d, hd⟩ := iha _ _ h
      refine ⟨d, ?_⟩
      simp only [vcode]
      rw [hd]
      split
      · rename_i heq
        cases heq
        exact absurd h (h1 _)
      · rfl
  | cond c x y ihx ihy =>
    intro s r h
    simp only [vcode] at h ⊢
    split at h
    case h_2 => cases h
    rename_i t ht
    split at h
    · rename_i hb
      simp only [if_pos hb]
      exact ihx _ _ h
    · rename_i hb
      simp only [if_neg hb]
      exact ihy _ _ h
  | block id c ih =>
    intro s r h
    simp only [vcode] at h
    split at h
    · rename_i k s1 h1
      obtain ⟨d, hd⟩ := ih _ _ h1
      exact ⟨d, by simp only [vcode]; rw [hd]; exact h⟩
    · rename_i h1
      obtain ⟨d, hd⟩ := ih _ _ h
      refine ⟨d, ?_⟩
      simp only [vcode]
      rw [hd]
      split
      · rename_i heq
        cases heq
        exact absurd h (h1 _ _)
      · rfl
  | loop c ih =>
    intro s r h
    simp only [vcode] at h ⊢
    exact iter_fin ih h
  | rangeFunc f params assign body _ _ => intro s r h; cases h
  | scope body _ => intro s r h; cases h
  | label l => intro s r h; cases h
  | goto l => intro s r h; cases h
  | refuse why => intro s r h; cases h

theorem wpV_fin {N : Fx} {c : Code} {K : Ex → St → Prop} {s : St} (h : wpV P (TT P C) N c K s) : ∃ d, wpV P (tabN P C d) N c K s := by
  obtain ⟨n, ex, s', h1, h2⟩ := wpV_iff.1 h
  obtain ⟨d, hd⟩ := vcode_fin _ _ _ h1
  exact ⟨d, wpV_iff.2 ⟨n, ex, s', hd, h2⟩⟩

/-- A function's answer, by its run over the whole table. -/
theorem TT_run {f : FuncId} {fn : Func} {c : Code} (hf : P.funcs[f]? = some fn) (hb : fn.body = some c) (hok : FnOk P f) (hc : codeB P (fxOf P C f) c = true) (hbase : ∀ args, C.base.pu f args = none) {args : List CA} (hl : args.length ≤ fn.ntmps) {r : CA}
    (h : wpV P (TT P C) (fxOf P C f) c (endK P fn.results.toList r) ⟨env0 args, []⟩) : (TT P C).pu f args = some r := by
  obtain ⟨d, hd⟩ := wpV_fin h
  exact TT_pu.2 ⟨d + 1, stepT_pu.2 (.inr ⟨hbase args, fn, c, hf, hb, hok, hc, hl, hd⟩)⟩

theorem TT_runS {f : FuncId} {fn : Func} {c : Code} (hf : P.funcs[f]? = some fn) (hb : fn.body = some c) (hok : FnOk P f) (hc : codeB P (fxOf P C f) c = true) {args : List AV} {H H' : Hp} (hbase : C.base.S f args H = none) (hl : args.length ≤ fn.ntmps) {r : AV} (hH : Gr P f H H')
    (h : wpV P (TT P C) (fxOf P C f) c (endS P fn.results.toList r H') ⟨envS args, H⟩) : (TT P C).S f args H = some (r, H') := by
  obtain ⟨d, hd⟩ := wpV_fin h
  exact TT_S.2 ⟨d + 1, stepT_S.2 (.inr ⟨hbase, fn, c, hf, hb, hok, hc, hl, hH, hd⟩)⟩

theorem TT_base {f : FuncId} {args : List CA} {r : CA} (h : C.base.pu f args = some r) : (TT P C).pu f args = some r := TT_pu.2 ⟨0, h⟩
theorem TT_baseS {f : FuncId} {args : List AV} {H : Hp} {r : AV × Hp} (h : C.base.S f args H = some r) : (TT P C).S f args H = some r := TT_S.2 ⟨0, h⟩

end Go.Proofs.Vm
end

section
/- The value machine: calls, places of slices, lengths, ags rewriting rules. -/
namespace Go.Proofs.Vm
open Go

variable {P : Program} {T : Tab} {N : Fx} {H : Hp}

theorem rd_none {d : Option Tmp} {e : Nat → AV} {K : St → Prop} : rdK N d e H none K ↔ False := Iff.rfl
theorem rd_ite {d : Option Tmp} {e : Nat → AV} {K : St → Prop} {c : Prop} [Decidable c] {r : RR} : rdK N d e H (if c then r else none) K ↔ c ∧ rdK N d e H r K := by
  by_cases h : c
  · simp [h]
  · simp [h, rdK]
theorem wr_none {d : Option Tmp} {e : Nat → AV} {K : St → Prop} : wrK N d e none K ↔ False := Iff.rfl
theorem wr_ite {d : Option Tmp} {e : Nat → AV} {K : St → Prop} {c : Prop} [Decidable c] {r : Option (AV × Hp)} : wrK N d e (if c then r else none) K ↔ c ∧ wrK N d e r K := by
  by_cases h : c
  · simp [h]
  · simp [h, wrK]
theorem wr_some' {d : Option Tmp} {e : Nat → AV} {a : AV} {L : Hp} {K : St → Prop} : wrK N d e (some (a, L)) K ↔ putK N d e L a K := Iff.rfl

theorem one_int {k : IntKind} {n : Int} : one? (.int k n) = qa (vI k n) := by simp [one?, Value.oneCell']

/-- What a call's answer becomes. -/
def callK (N : Fx) (d : Option Tmp) (e : Nat → AV) (H : Hp) (ms : List Nat) (r : Option CA) (K : St → Prop) : Prop :=
  match r with
  | some a => putK N d e (frzAll H (if a.plain then [] else ms)) a.av K
  | none => False

theorem call_fn {d : Option Tmp} {e : Nat → AV} {K : St → Prop} {g : FuncId} {ags : List AV} {ks : List CA} (h : mapO (fza H) ags = some ks) :
    rdK N d e H (vcall T H (.one (.fn g [])) ags) K ↔ callK N d e H (ags.map (rcha H)).flatten (T.pu g ks) K := by
  unfold vcall
  rw [show calleeOf H (.one (.fn g [])) = some (g, []) by simp [calleeOf, fzc, mapO], h]
  dsimp only
  rw [List.map_nil, List.append_nil, show rcha H (.one (.fn g [])) = [] by simp [rcha, rch], List.nil_append]
  cases T.pu g ks with
  | none => rfl
  | some r => simp only [rdK, callK, List.append_nil]

theorem call_cfn {d : Option Tmp} {e : Nat → AV} {K : St → Prop} {g : FuncId} {cs : List CV} {ags : List AV} {ks : List CA} (h : mapO (fza H) ags = some ks) :
    rdK N d e H (vcall T H (.one (.c (.fn g cs))) ags) K ↔ callK N d e H (ags.map (rcha H)).flatten (T.pu g (ks ++ cs.map .one)) K := by
  unfold vcall
  rw [show calleeOf H (.one (.c (.fn g cs))) = some (g, cs) by simp [calleeOf], h]
  dsimp only
  rw [show rcha H (.one (.c (.fn g cs))) = [] by simp [rcha, rch], List.nil_append]
  cases T.pu g (ks ++ cs.map .one) with
  | none => rfl
  | some r => simp only [rdK, callK, List.append_nil]

theorem callK_eq {d : Option Tmp} {e : Nat → AV} {K : St → Prop} {ms : List Nat} {a : CA} : callK N d e H ms (some a) K ↔ putK N d e (frzAll H (if a.plain = true then [] else ms)) a.av K := Iff.rfl
theorem callK_none {d : Option Tmp} {e : Nat → AV} {K : St → Prop} {ms : List Nat} : callK N d e H ms none K ↔ False := Iff.rfl
theorem rcha_c {x : CV} : rcha H (.one (.c x)) = [] := by simp [rcha, rch]
theorem rcha_cs {l : List CV} : rcha H (.agg (l.map .c)) = [] := by
  induction l with
  | nil => rfl
  | cons x l ih => simp [rcha, rch]
theorem rch_c {n : Nat} {x : CV} : rch n H (.c x) = [] := by cases n <;> simp [rch]
theorem rcha_agg {l : List Cell} : rcha H (.agg l) = (l.map (rch 5 H)).flatten := rfl
theorem rcha_fn {g : FuncId} : rcha H (.one (.fn g [])) = [] := by simp [rcha, rch]

theorem ia_arr {t e : TypeId} {sz : Nat} (he : elemOfSlice P t = some e) (hs : pv P (sizeOf e) = some sz) {k : IntKind} {l : List (List CV)} {i : Int} :
    vindexAddr P H t (.one (.c (.arr l))) (vI k i) = if 0 ≤ i then (match l[i.toNat]? with | some x => if x.length = sz then qa (.one (.c (.cptr x))) else none | none => none) else none := by
  unfold vindexAddr
  simp only [he, hs]
  cases l[i.toNat]? <;> rfl

theorem ia_sl {t e : TypeId} {sz : Nat} (he : elemOfSlice P t = some e) (hs : pv P (sizeOf e) = some sz) {k : IntKind} {id o n tot : Nat} {i : Int} :
    vindexAddr P H t (.one (.sl id o n tot)) (vI k i) = if 0 ≤ i then (if i.toNat < n then (if elAt H id tot (o + i.toNat) = some sz then qa (.one (.ptr ⟨id, o + i.toNat, 0, tot⟩)) else none) else none) else none := by
  unfold vindexAddr
  simp only [he, hs]

theorem len_arr {t e ty : TypeId} (he : elemOfSlice P t = some e) {l : List (List CV)} : vlen P H #[t] ty (.one (.c (.arr l))) = qa (vI .i64 l.length) := by
  simp [vlen, he, one_int]

theorem len_sl {t e ty : TypeId} (he : elemOfSlice P t = some e) {id o n tot : Nat} : vlen P H #[t] ty (.one (.sl id o n tot)) = if lenIs H id tot = true then qa (vI .i64 n) else none := by
  simp [vlen, he, one_int]

theorem len_mp {t ty : TypeId} {id : Nat} (h : isMapT P t = true) : vlen P H #[t] ty (.one (.mp id)) = match mapAt H (.one (.mp id)) with | some (_, l) => qa (vI .i64 l.2.length) | none => none := by
  simp only [vlen, one_int]
  simp
  cases mapAt H (.one (.mp id)) with
  | none => rfl
  | some q => simp [h]
theorem len_nil {t e ty : TypeId} (_he : elemOfSlice P t = some e) (hu : pv P (underlying t) = some (.slice e)) : vlen P H #[t] ty (.one (.c (.v (.slice none 0 0)))) = qa (vI .i64 0) := by
  simp [vlen, AV.sc, Cell.sc, Builtin.len_, hu, ofPv, goInt, one_int]

theorem len_str {t ty : TypeId} (hu : pv P (underlying t) = some .string) {s : ByteArray} : vlen P H #[t] ty (vS s) = qa (vI .i64 s.size) := by
  simp [vlen, AV.sc, Cell.sc, Builtin.len_, hu, ofPv, goInt, one_int]

/-- A text's byte; nought outside. -/
def byt (s : ByteArray) (i : Int) : Int := match s[i.toNat]? with | some b => b.toNat | none => 0

theorem idx_str {t : TypeId} (hu : pv P (underlying t) = some .string) {s : ByteArray} {k : IntKind} {i : Int} (h0 : 0 ≤ i) (h : i < s.size) : vindex P t (vS s) (vI k i) = qa (vI .u8 (byt s i)) := by
  have hb : i.toNat < s.size := by omega
  simp [vindex, AV.sc, Cell.sc, Instr.index, hu, ofPv, one_int, asIntOf, h0, byt, hb]

theorem bin_and' {t : TypeId} {x y : Operand} {k : IntKind} {a b : Int} : vbin P H .and t x y (vI k a) (vI k b) = qa (vI k (Go.bits .and k a b)) := bin_and
theorem bin_or' {t : TypeId} {x y : Operand} {k : IntKind} {a b : Int} : vbin P H .or t x y (vI k a) (vI k b) = qa (vI k (Go.bits .or k a b)) := bin_or
theorem bin_xor' {t : TypeId} {x y : Operand} {k : IntKind} {a b : Int} : vbin P H .xor t x y (vI k a) (vI k b) = qa (vI k (Go.bits .xor k a b)) := bin_xor
theorem fx_sh {n : Nat} {b : FuncId → Bool} {m : Bool} {l : Nat → List Nat} {g : FuncId} : (Fx.mk n b m l).sh g = b g := rfl
theorem fx_fl {n : Nat} {b : FuncId → Bool} {m : Bool} {l : Nat → List Nat} {g : Nat} : (Fx.mk n b m l).fl g = l g := rfl
/-- To the right by a constant. -/
theorem shr_c {a : Int} {n : Nat} : a.fdiv (no_index (OfNat.ofNat n)) = a / OfNat.ofNat n := Int.fdiv_eq_ediv_of_nonneg _ (by simp)

attribute [simp] fx_fl bin_and' bin_or' bin_xor' fx_sh comps shr_c
def ikOf (P : Program) (t : TypeId) : Option IntKind :=
  match pv P (underlying t) with
  | some (.int k) => some k
  | _ => none

theorem cv_eq {s d : TypeId} {k : IntKind} {n : Int} : vconvert P s d (vI k n) = match ikOf P s, ikOf P d with
    | some _, some k' => qa (vI k' (k'.wrap n))
    | _, _ => ofPv (pv P (convert s d (.int k n))) := by
  cases h1 : ikOf P s with
  | none => simp [vconvert]
  | some a =>
    cases h2 : ikOf P d with
    | none => simp [vconvert]
    | some b =>
      have e1 : pv P (underlying s) = some (.int a) := by
        unfold ikOf at h1
        split at h1
        · rename_i h; cases h1; exact h
        · cases h1
      have e2 : pv P (underlying d) = some (.int b) := by
        unfold ikOf at h2
        split at h2
        · rename_i h; cases h2; exact h
        · cases h2
      simp [vconvert, convert, e1, e2, Conv.intToInt, ofPv, one_int]

theorem max_int {ts : Array TypeId} {ty : TypeId} {k : IntKind} {a b : Int} : vmax P ts ty [vI k a, vI k b] = qa (vI k (if a < b then b else a)) := by
  simp [vmax, scsAV, AV.sc, Cell.sc, Builtin.max_, Builtin.max2, ofPv, one_int]

theorem min_int {ts : Array TypeId} {ty : TypeId} {k : IntKind} {a b : Int} : vmin P ts ty [vI k a, vI k b] = qa (vI k (if b < a then b else a)) := by
  simp [vmin, scsAV, AV.sc, Cell.sc, Builtin.min_, Builtin.min2, ofPv, one_int]

/-! simp goes where the run is, not into what is still to run. -/
@[congr] theorem wpS_congr {ops : Array Oper} {o : Oper} {K : St → Prop} {s s' : St} (h : s = s') : wpS P T N ops o K s = wpS P T N ops o K s' := by rw [h]
@[congr] theorem wpR_congr {ops : Array Oper} {l : List Oper} {K : St → Prop} {s s' : St} (h : s = s') : wpR P T N ops l K s = wpR P T N ops l K s' := by rw [h]
@[congr] theorem wpV_congr {c : Code} {K : Ex → St → Prop} {s s' : St} (h : s = s') : wpV P T N c K s = wpV P T N c K s' := by rw [h]
@[congr] theorem wpL_congr {c : Code} {K : Ex → St → Prop} {s s' : St} (h : s = s') : wpL P T N c K s = wpL P T N c K s' := by rw [h]
@[congr] theorem rdK_congr {d : Option Tmp} {e : Nat → AV} {r r' : RR} {K : St → Prop} (h : r = r') : rdK N d e H r K = rdK N d e H r' K := by rw [h]
@[congr] theorem wrK_congr {d : Option Tmp} {e : Nat → AV} {r r' : Option (AV × Hp)} {K : St → Prop} (h : r = r') : wrK N d e r K = wrK N d e r' K := by rw [h]
@[congr] theorem putK_congr {d : Option Tmp} {e : Nat → AV} {L L' : Hp} {a a' : AV} {K : St → Prop} (h : L = L') (g : a = a') : putK N d e L a K = putK N d e L' a' K := by rw [h, g]
@[congr] theorem callK_congr {d : Option Tmp} {e : Nat → AV} {ms ms' : List Nat} {r r' : Option CA} {K : St → Prop} (h : ms = ms') (g : r = r') : callK N d e H ms r K = callK N d e H ms' r' K := by rw [h, g]
@[congr] theorem guardK_congr {v v' : Option AV} {b : Bool} {x y : Prop} (h : v = v') : guardK v b x y = guardK v' b x y := by rw [h]
@[congr] theorem boolK_congr {v v' : Option AV} {x y : Prop} (h : v = v') : boolK v x y = boolK v' x y := by rw [h]
@[congr] theorem thenK_congr {A : St → Prop} {K : Ex → St → Prop} {x : Ex} {s s' : St} (h : s = s') : thenK A K x s = thenK A K x s' := by rw [h]
@[congr] theorem blockK_congr {i : Nat} {K : Ex → St → Prop} {x : Ex} {s s' : St} (h : s = s') : blockK i K x s = blockK i K x s' := by rw [h]

attribute [simp] Ent.len lenIs elAt
attribute [simp] cv_eq max_int min_int
attribute [simp] callK_eq callK_none rcha_c rch_c rcha_agg rcha_fn CA.plain CV.plain
attribute [simp] rd_none rd_ite wr_none wr_ite wr_some' one_int call_fn call_cfn

end Go.Proofs.Vm
end

section
/- The value machine: a program's table with sorting in place below it. -/
namespace Go.Proofs.Vm
open Go

variable {P : Program} {C : Cfg}

theorem TT_go {f : FuncId} {fn : Func} {c : Code} {N : Fx} (hf : P.funcs[f]? = some fn) (hb : fn.body = some c) (hok : FnOk P f) (hN : N = ⟨fn.ntmps, C.sh, C.nest f, C.late f⟩) (hc : codeB P N c = true) (hbase : ∀ args, C.base.pu f args = none) {args : List CA} (hl : args.length ≤ fn.ntmps) {r : CA}
    (h : wpV P (TT P C) N c (endK P fn.results.toList r) ⟨env0 args, []⟩) : (TT P C).pu f args = some r := by
  have e : N = fxOf P C f := by rw [hN]; simp [fxOf, hf]
  subst e
  exact TT_run hf hb hok hc hbase hl h

theorem TT_goS {f : FuncId} {fn : Func} {c : Code} {N : Fx} (hf : P.funcs[f]? = some fn) (hb : fn.body = some c) (hok : FnOk P f) (hN : N = ⟨fn.ntmps, C.sh, C.nest f, C.late f⟩) (hc : codeB P N c = true) {args : List AV} {H H' : Hp} (hbase : C.base.S f args H = none) (hl : args.length ≤ fn.ntmps) {r : AV} (hH : Gr P f H H')
    (h : wpV P (TT P C) N c (endS P fn.results.toList r H') ⟨envS args, H⟩) : (TT P C).S f args H = some (r, H') := by
  have e : N = fxOf P C f := by rw [hN]; simp [fxOf, hf]
  subst e
  exact TT_runS hf hb hok hc hbase hl hH h

def intOf : List CV → Option Int
  | [.v (.int .i64 n)] => some n
  | _ => none

def cInt (n : Int) : List CV := [.v (.int .i64 n)]

def sortRun (args : List AV) (H : Hp) : Option (AV × Hp) :=
  match args with
  | [.one (.sl id 0 n tot)] => match H[id]? with
    | some (.clo l false) => match mapO intOf l with
      | some xs => if n = tot ∧ l.length = tot ∧ tot < 4611686018427387904 then some (und, H.set id (.clo ((xs.mergeSort fun x y => decide (x ≤ y)).map cInt) false)) else none
      | none => none
    | _ => none
  | _ => none

def sortTab (g : FuncId) : Tab := ⟨fun _ _ => none, fun f args H => if f = g then sortRun args H else none, false⟩

theorem mapO_intOf : ∀ xs : List Int, mapO intOf (xs.map cInt) = some xs
  | [] => rfl
  | x :: xs => by
    rw [List.map_cons]
    simp only [mapO, mapO_intOf xs]
    rfl

end Go.Proofs.Vm
end

section
/- Rows of numbers as closed values. -/
namespace Go.Proofs.Vm
open Go

def cRow (r : List Int) : CV := .arr (r.map cInt)
def cRows (l : List (List Int)) : CV := .arr (l.map fun r => [cRow r])

/-- The place of the first element at which p holds, or -1. -/
def idxF {α : Type} (p : α → Bool) (l : List α) : Int := if l.any p then (l.findIdx p : Int) else -1
theorem idxF_at {α : Type} (p : α → Bool) (l : List α) (k : Nat) (h : k < l.length) (hp : p l[k] = true) (hn : ∀ j, j < k → ∀ x, l[j]? = some x → p x = false) : idxF p l = (k : Int) := by
  have ha : l.any p = true := List.any_eq_true.2 ⟨l[k], List.getElem_mem h, hp⟩
  unfold idxF
  rw [if_pos ha]
  congr 1
  rw [List.findIdx_eq h]
  exact ⟨hp, fun j hj => hn j hj _ (List.getElem?_eq_getElem (by omega))⟩
theorem idxF_none {α : Type} (p : α → Bool) (l : List α) (hn : ∀ j, j < l.length → ∀ x, l[j]? = some x → p x = false) : idxF p l = -1 := by
  have ha : ¬ l.any p = true := by
    rw [List.any_eq_true]
    rintro ⟨x, hx, hp⟩
    obtain ⟨j, hj, e⟩ := List.getElem_of_mem hx
    have := hn j hj x (by rw [List.getElem?_eq_getElem hj, e])
    rw [this] at hp
    cases hp
  unfold idxF
  rw [if_neg ha]
theorem idxF_ge {α : Type} (p : α → Bool) (l : List α) : decide (0 ≤ idxF p l) = l.any p := by
  unfold idxF
  split
  · rename_i h; rw [h]; simp
  · rename_i h; simp at h ⊢; simpa using h

attribute [simp] vmakeFunc capOf partsOf vfill
@[simp] theorem cInt_length (n : Int) : (cInt n).length = 1 := rfl

section
variable {P : Program} {T : Tab} {N : Fx} {H : Hp}
theorem bin_sln {t e : TypeId} (he : elemOfSlice P t = some e) {x y : Operand} {a : List CV} {l : List (List CV)} : vbin P H .eql t x y (.one (.c (.arr (a :: l)))) (.one (.c (.v (.slice none 0 0)))) = qa (vB false) := by
  have hu : ∃ d, pv P (underlying t) = some (.slice d) := by
    unfold elemOfSlice at he
    split at he
    · rename_i d hd; exact ⟨_, hd⟩
    · cases he
  obtain ⟨d, hd⟩ := hu
  simp [vbin, neSl, isNils, okSl, hd, one?, Value.oneCell']
theorem bs_zero {nid : Nat} {ρ : Operand → Option AV} {t e : TypeId} {sz b : Nat} {z : List CV} (he : elemOfSlice P t = some e) (hel : elOf P e = some (sz, b, z)) : vbuildSlice P H nid ρ t 0 [] = some (.one (.sl nid 0 0 0), [.clo [] false], []) := by
  obtain ⟨i, v, h1, h2, h3, h4, h5, h6, h7⟩ := elOf_facts hel
  simp [vbuildSlice, he, h1]
theorem vw_append {e : Nat → AV} {d : Option Tmp} {ty : TypeId} {pos : String} {aft : Array Edge} {g : Option (Nat × Bool)} {x y : Operand} {t tx : TypeId} :
    vwr P T N H (evo e) ⟨d, .call ⟨.builtin .append, #[x, y], #[t, tx]⟩, ty, pos, aft, g⟩ = match evo e x, evo e y with | some a, some b => vappendN P N.nest H t tx a b | _, _ => none := rfl
theorem vw_store {e : Nat → AV} {d : Option Tmp} {ty : TypeId} {pos : String} {aft : Array Edge} {g : Option (Nat × Bool)} {x y : Operand} {t : TypeId} :
    vwr P T N H (evo e) ⟨d, .store t x y, ty, pos, aft, g⟩ = match evo e x, evo e y with | some a, some b => (vstore P N.nest H t a b).map fun K => (und, K) | _, _ => none := rfl
end
attribute [simp] vw_append vw_store posL
@[simp] theorem vmakeN_no {P : Program} {nid : Nat} {t : TypeId} {l c : AV} : vmakeN P false nid t l c = vmakeSlice P false nid t l c := by unfold vmakeN; simp
@[simp] theorem vmakeN_yes {P : Program} {nid : Nat} {t : TypeId} {l c : AV} : vmakeN P true nid t l c = if (posL l && strRowsT P t) = true then vmakeRows P nid t l c else vmakeSlice P true nid t l c := by unfold vmakeN; simp
theorem ownz_reps : ∀ (k n : Nat), ownz n (List.replicate k (.slice none 0 0)) = ((List.range k).map fun j => .sl (n + j) 0 0 0, List.replicate k (.clo [] false))
  | 0, n => rfl
  | k + 1, n => by
    rw [List.replicate_succ]
    show (Cell.sl n 0 0 0 :: (ownz (n + 1) (List.replicate k (.slice none 0 0))).1, Ent.clo [] false :: (ownz (n + 1) (List.replicate k (.slice none 0 0))).2) = _
    rw [ownz_reps k (n + 1), List.range_succ_eq_map, List.map_cons, List.map_map, List.replicate_succ]
    congr 2
    apply List.map_congr_left
    intro a _
    show Cell.sl (n + 1 + a) 0 0 0 = Cell.sl (n + (a + 1)) 0 0 0
    rw [show n + 1 + a = n + (a + 1) by omega]
theorem fz_v {H : Hp} {x : Value} : fzc 5 H (.c (.v x)) = some (nrm x) := rfl
theorem fz_arr {H : Hp} {l : List (List CV)} : fzc 5 H (.c (.arr l)) = some (.arr l) := rfl
theorem fz_fn {H : Hp} {f : FuncId} {l : List CV} : fzc 5 H (.c (.fn f l)) = some (.fn f l) := rfl
theorem fz_cptr {H : Hp} {l : List CV} : fzc 5 H (.c (.cptr l)) = some (.cptr l) := rfl
section
variable {α : Type}
/-! what lies behind the first part of a heap -/
theorem hp_get (H L : List α) (k : Nat) : (H ++ L)[H.length + k]? = L[k]? := by rw [List.getElem?_append_right (by omega)]; congr 1; omega
theorem hp_get0 (H L : List α) : (H ++ L)[H.length]? = L[0]? := hp_get H L 0
theorem hp_set (H L : List α) (k : Nat) (x : α) : (H ++ L).set (H.length + k) x = H ++ L.set k x := by rw [List.set_append_right _ _ (by omega)]; congr 2; omega
theorem hp_set0 (H L : List α) (x : α) : (H ++ L).set H.length x = H ++ L.set 0 x := hp_set H L 0 x
theorem hp_mod0 (H L : List α) (f : α → α) : (H ++ L).modify H.length f = H ++ L.modify 0 f := by
  induction H with
  | nil => rfl
  | cons x H ih => simpa using ih
attribute [simp] hp_mod0
attribute [simp] hp_get hp_get0 hp_set hp_set0
end
end Go.Proofs.Vm
end

section
/- The value machine: appends and places as simp reckons them. -/
namespace Go.Proofs.Vm
open Go

variable {P : Program} {H : Hp}

def AllLen (l : List (List CV)) (sz : Nat) : Prop := ∀ e ∈ l, e.length = sz
instance (l : List (List CV)) (sz : Nat) : Decidable (AllLen l sz) := inferInstanceAs (Decidable (∀ e ∈ l, e.length = sz))
@[simp] theorem allLen_nil (sz : Nat) : AllLen [] sz := fun e h => by cases h
@[simp] theorem allLen_one (e : List CV) (sz : Nat) : AllLen [e] sz ↔ e.length = sz := by simp [AllLen]
theorem vappend_sp {t tx e ex : TypeId} {id n : Nat} {x : AV} {sz b : Nat} {z : List CV} (he : elemOfSlice P t = some e) (hex : elemOfSlice P tx = some ex) (hel : elOf P e = some (sz, b, z)) :
    vappend P H t tx (.one (.sl id 0 n n)) x = match elemsOf H x, H[id]? with
      | some xs, some (.clo l false) => if l.length = n ∧ AllLen l sz ∧ AllLen xs sz ∧ b * (n + xs.length) ≤ 140737488355328 ∧ n + xs.length ≤ 4611686018427387904 then some (.one (.sl id 0 (n + xs.length) (n + xs.length)), H.set id (.clo (l ++ xs) false)) else none
      | _, _ => none := by
  obtain ⟨i, v, h1, h2, h3, h4, h5, h6, h7⟩ := elOf_facts hel
  unfold vappend
  cases hx : elemsOf H x with
  | none => rfl
  | some xs =>
    simp only [he, hex, h1, h2]
    cases hH : H[id]? with
    | none => rfl
    | some en =>
      cases en with
      | clo l f =>
        cases f with
        | true => rfl
        | false =>
          simp only [h3, h4]
          by_cases hc : l.length = n ∧ AllLen l sz ∧ AllLen xs sz ∧ b * (n + xs.length) ≤ 140737488355328 ∧ n + xs.length ≤ 4611686018427387904
          · rw [if_pos hc, if_pos ⟨trivial, trivial, hc.1, hc.2.1, hc.2.2.1, h6, by simp [small]; exact hc.2.2.2.1, hc.2.2.2.2⟩]
          · rw [if_neg hc, if_neg]
            rintro ⟨_, _, k1, k2, k3, _, k4, k5⟩
            exact hc ⟨k1, k2, k3, by simpa [small] using k4, k5⟩
      | opn l f => rfl
      | mp l => rfl

/-- Closing and giving up, a step at a time: in place of the functions themselves, which unfold too far where a place is not known yet. -/
theorem fz_sl (n : Nat) (H : Hp) (id o m tot : Nat) : fzc (n + 1) H (.sl id o m tot) = match H[id]? with
    | some (.clo l _) => if l.length = tot then some (.arr ((l.drop o).take m)) else none
    | some (.opn l _) => if l.length = tot then (mapO (mapO (fzc n H)) ((l.drop o).take m)).map .arr else none
    | _ => none := rfl
theorem fz_ptr (n : Nat) (H : Hp) (p : Pt) : fzc (n + 1) H (.ptr p) = match cellsAt H p with
    | some cs => (mapO (fzc n H) cs).map .cptr
    | none => none := rfl
theorem rh_c (n : Nat) (H : Hp) (x : CV) : rch (n + 1) H (.c x) = [] := rfl
theorem rh_sl (n : Nat) (H : Hp) (id o m tot : Nat) : rch (n + 1) H (.sl id o m tot) = id :: (match H[id]? with
    | some (.opn l _) => (((l.drop o).take m).map fun e => (e.map (rch n H)).flatten).flatten
    | _ => []) := rfl
theorem rh_ptr (n : Nat) (H : Hp) (p : Pt) : rch (n + 1) H (.ptr p) = p.id :: (match cellsAt H p with
    | some cs => (cs.map (rch n H)).flatten
    | none => []) := rfl

/-- A place behind a list. -/
@[simp] theorem get_mid (L M : List Ent) (X : Ent) : (L ++ X :: M)[L.length]? = some X := by simp
@[simp] theorem set_mid (L M : List Ent) (X Y : Ent) : (L ++ X :: M).set L.length Y = L ++ Y :: M := by simp
@[simp] theorem get_mid2 (L M N : List Ent) (A X : Ent) : (L ++ A :: (M ++ X :: N))[L.length + (M.length + 1)]? = some X := by
  rw [List.getElem?_append_right (by omega)]
  simp
@[simp] theorem get_mid3 (L M : List Ent) (A X : Ent) (N : List Ent) : (L ++ A :: X :: (M ++ N))[L.length + 1]? = some X := by
  rw [List.getElem?_append_right (by omega)]
  simp

/-- The first ones of a list, told: what a loop has appended so far. -/
def tk {α β : Type} (f : α → β) (l : List α) (i : Nat) : List β := (l.take i).map f
theorem tk_zero {α β : Type} (f : α → β) (l : List α) : tk f l 0 = [] := by simp [tk]
theorem tk_len {α β : Type} {f : α → β} {l : List α} {i : Nat} (h : i ≤ l.length) : (tk f l i).length = i := by simp [tk]; omega
theorem tk_succ {α β : Type} {f : α → β} {l : List α} {i : Nat} (h : i < l.length) : tk f l i ++ [f l[i]] = tk f l (i + 1) := by
  unfold tk
  rw [List.take_add_one, List.getElem?_eq_getElem h, List.map_append]
  rfl
theorem tk_all {α β : Type} {f : α → β} {l : List α} {i : Nat} (h : l.length ≤ i) : tk f l i = l.map f := by rw [tk, List.take_of_length_le h]
theorem tk_allLen {α : Type} {f : α → List CV} {l : List α} {i sz : Nat} (h : ∀ a, (f a).length = sz) : AllLen (tk f l i) sz := by
  intro x hx
  obtain ⟨a, ha, rfl⟩ := List.mem_map.1 hx
  exact h a
theorem tk_mem {α β : Type} {f : α → β} {l : List α} {i : Nat} {p : β → Prop} (h : ∀ a ∈ l, p (f a)) : ∀ x ∈ tk f l i, p x := by
  intro x hx
  obtain ⟨a, ha, rfl⟩ := List.mem_map.1 hx
  exact h a (List.mem_of_mem_take ha)

end Go.Proofs.Vm
end

section
/- Functions that share memory, told by what they leave; a heap of which three places are told. -/
namespace Go.Proofs.Vm
open Go

variable {P : Program} {C : Cfg}

/-- What a function's end must be, where only something is told of what it leaves. -/
def endX (P : Program) (rs : List ResultVar) (Q : AV → Hp → Prop) : Ex → St → Prop
  | .exit _, _ => False
  | _, s => ∃ l a, mapO (vres P s) rs = some l ∧ join l = some a ∧ Q a s.H
@[simp] theorem endx_n {rs : List ResultVar} {Q : AV → Hp → Prop} {s : St} : endX P rs Q .normal s ↔ ∃ l a, mapO (vres P s) rs = some l ∧ join l = some a ∧ Q a s.H := Iff.rfl
@[simp] theorem endx_r {rs : List ResultVar} {Q : AV → Hp → Prop} {s : St} : endX P rs Q .ret s ↔ ∃ l a, mapO (vres P s) rs = some l ∧ join l = some a ∧ Q a s.H := Iff.rfl

theorem TT_goX {f : FuncId} {fn : Func} {c : Code} {N : Fx} (hf : P.funcs[f]? = some fn) (hb : fn.body = some c) (hok : FnOk P f) (hN : N = ⟨fn.ntmps, C.sh, C.nest f, C.late f⟩) (hc : codeB P N c = true) {args : List AV} {H : Hp} (hbase : C.base.S f args H = none) (hl : args.length ≤ fn.ntmps) {Q : AV → Hp → Prop}
    (hcl : isCl P f = false) (hQ : ∀ a K, Q a K → H.length ≤ K.length) (h : wpV P (TT P C) N c (endX P fn.results.toList Q) ⟨envS args, H⟩) : ∃ a K, (TT P C).S f args H = some (a, K) ∧ Q a K := by
  obtain ⟨ex, s', h1, h2⟩ := h
  cases ex with
  | exit id => exact h2.elim
  | normal =>
    obtain ⟨l, a, k1, k2, k3⟩ := h2
    exact ⟨a, s'.H, TT_goS hf hb hok hN hc hbase hl ⟨hQ _ _ k3, fun h => by rw [hcl] at h; cases h⟩ ⟨.normal, s', h1, l, k1, k2, rfl⟩, k3⟩
  | ret =>
    obtain ⟨l, a, k1, k2, k3⟩ := h2
    exact ⟨a, s'.H, TT_goS hf hb hok hN hc hbase hl ⟨hQ _ _ k3, fun h => by rw [hcl] at h; cases h⟩ ⟨.ret, s', h1, l, k1, k2, rfl⟩, k3⟩

/-! A heap of which three places are told; what was made since then stands behind. -/

/-- Three places of a heap, apart. -/
structure Three (K : Hp) (a b c : Nat) : Prop where
  ha : a < K.length
  hb : b < K.length
  hc : c < K.length
  ab : a ≠ b
  ac : a ≠ c
  bc : b ≠ c

def hq (K : Hp) (a b c : Nat) (x y z : Ent) (L : Hp) : Hp := ((K.set a x).set b y).set c z ++ L

section
variable {K : Hp} {a b c : Nat} (t : Three K a b c) (x y z u : Ent) (L : Hp)
include t
theorem hq_a : (hq K a b c x y z L)[a]? = some x := by
  unfold hq
  rw [List.getElem?_append_left (by simp; exact t.ha), List.getElem?_set_ne t.ac.symm, List.getElem?_set_ne t.ab.symm, List.getElem?_set_self t.ha]
theorem hq_b : (hq K a b c x y z L)[b]? = some y := by
  unfold hq
  rw [List.getElem?_append_left (by simp; exact t.hb), List.getElem?_set_ne t.bc.symm, List.getElem?_set_self (by simp; exact t.hb)]
theorem hq_c : (hq K a b c x y z L)[c]? = some z := by
  unfold hq
  rw [List.getElem?_append_left (by simp; exact t.hc), List.getElem?_set_self (by simp; exact t.hc)]
theorem hq_sa : (hq K a b c x y z L).set a u = hq K a b c u y z L := by
  unfold hq
  rw [List.set_append_left _ _ (by simp; exact t.ha), List.set_comm _ _ t.ac.symm, List.set_comm _ _ t.ab.symm, List.set_set]
theorem hq_sb : (hq K a b c x y z L).set b u = hq K a b c x u z L := by
  unfold hq
  rw [List.set_append_left _ _ (by simp; exact t.hb), List.set_comm _ _ t.bc.symm, List.set_set]
theorem hq_sc : (hq K a b c x y z L).set c u = hq K a b c x y u L := by
  unfold hq
  rw [List.set_append_left _ _ (by simp; exact t.hc), List.set_set]
end
theorem hq_len (K : Hp) (a b c : Nat) (x y z : Ent) (L : Hp) : (hq K a b c x y z L).length = K.length + L.length := by simp [hq]
theorem hq_app (K : Hp) (a b c : Nat) (x y z : Ent) (L M : Hp) : hq K a b c x y z L ++ M = hq K a b c x y z (L ++ M) := by simp [hq]
theorem hq_get (K : Hp) (a b c : Nat) (x y z : Ent) (L : Hp) (j : Nat) : (hq K a b c x y z L)[K.length + j]? = L[j]? := by
  unfold hq
  rw [List.getElem?_append_right (by simp)]
  congr 1
  simp
theorem hq_set (K : Hp) {a b c : Nat} (x y z u : Ent) (L : Hp) (j : Nat) : (hq K a b c x y z L).set (K.length + j) u = hq K a b c x y z (L.set j u) := by
  unfold hq
  rw [List.set_append_right _ _ (by simp)]
  congr 2
  simp
theorem hq_of {K : Hp} {a b c : Nat} {x y z : Ent} (h1 : K[a]? = some x) (h2 : K[b]? = some y) (h3 : K[c]? = some z) : K = hq K a b c x y z [] := by
  unfold hq
  rw [set_same h1, set_same h2, set_same h3, List.append_nil]

theorem toList_loop (s : ByteArray) (d : Nat) : ∀ (i : Nat) (r : List UInt8), i + d = s.size → ByteArray.toList.loop s i r = r.reverse ++ s.data.toList.drop i := by
  induction d with
  | zero =>
    intro i r h
    rw [ByteArray.toList.loop, if_neg (by omega), List.drop_of_length_le (by rw [Array.length_toList]; show s.size ≤ i; omega), List.append_nil]
  | succ d ih =>
    intro i r h
    have hi : i < s.data.toList.length := by rw [Array.length_toList]; show i < s.size; omega
    rw [ByteArray.toList.loop, if_pos (by omega), ih (i + 1) _ (by omega), List.reverse_cons, List.append_assoc, List.drop_eq_getElem_cons hi]
    have hs : i < s.data.size := by rw [Array.length_toList] at hi; exact hi
    have e : s.get! i = s.data.toList[i] := by
      show s.data[i]! = _
      rw [getElem!_pos s.data i hs, Array.getElem_toList]
    rw [e]
    rfl
theorem toList_eq (s : ByteArray) : s.toList = s.data.toList := by
  unfold ByteArray.toList
  rw [toList_loop s s.size 0 [] (by omega)]
  rfl
theorem toList_inj {s u : ByteArray} : s.toList = u.toList ↔ s = u := by
  constructor
  · intro h
    rw [toList_eq, toList_eq] at h
    have := Array.toList_inj.1 h
    cases s; cases u; simp_all
  · intro h; rw [h]

/-! Maps from strings to numbers; each entry has a stamp. -/
abbrev SM := List (ByteArray × Int)
def cM : SM → List Int → List (Value × List CV)
  | p :: r, b :: bs => (.string p.1, [.v (.int .i64 p.2), .v (.int .i64 b)]) :: cM r bs
  | _, _ => []
/-- Where a key stands. -/
def mIx (k : ByteArray) : SM → Option Nat
  | [] => none
  | p :: r => if k = p.1 then some 0 else (mIx k r).map (· + 1)
theorem find_cM (k : ByteArray) : ∀ (m : SM) (bs : List Int), bs.length = m.length → findM (.string k) ((cM m bs).map (·.1)) = some (mIx k m)
  | [], bs, _ => by cases bs <;> rfl
  | p :: r, [], h => by simp at h
  | p :: r, b :: bs, h => by
    have ih := find_cM k r bs (by simpa using h)
    simp only [cM, List.map_cons, findM, keyEq, mIx]
    by_cases h : k = p.1
    · rw [if_pos h, h, (Go.MapKept.bytes_beq p.1 p.1).2 rfl]
    · rw [if_neg h]
      have : (k == p.1) = false := by
        cases hb : k == p.1 with
        | false => rfl
        | true => exact absurd ((Go.MapKept.bytes_beq _ _).1 hb) h
      rw [this]
      simp only [ih, Option.map_some]
theorem cM_get : ∀ (m : SM) (bs : List Int) (j : Nat), ∀ h : j < m.length, ∀ h2 : j < bs.length, (cM m bs)[j]? = some (.string m[j].1, [.v (.int .i64 m[j].2), .v (.int .i64 bs[j])])
  | [], bs, j, h, _ => by simp at h
  | p :: r, [], j, _, h => by simp at h
  | p :: r, b :: bs, 0, _, _ => rfl
  | p :: r, b :: bs, j + 1, h, h2 => cM_get r bs j (by simpa using h) (by simpa using h2)
theorem cM_len : ∀ (m : SM) (bs : List Int), bs.length = m.length → (cM m bs).length = m.length
  | [], bs, _ => by cases bs <;> rfl
  | p :: r, [], h => by simp at h
  | p :: r, b :: bs, h => by simp only [cM, List.length_cons, cM_len r bs (by simpa using h)]

end Go.Proofs.Vm
end
