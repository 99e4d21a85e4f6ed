/- Steps shared by the proofs of this seat's statements (part 5). -/
import Derived.Test.YtmgnmnogiajlgaaGreatK4
import Derived.Test.YtmgnmnogiajlgaaGreatK3
import Derived.Test.YtmgnmnogiajlgaaGreatK2
section
/- The document's Decode, walked. -/
set_option maxRecDepth 8192
set_option maxHeartbeats 2000000
namespace Go.Proofs.YtmgnmnogiajlgaaGreatF
open Go Go.Proofs.Vm

theorem st_radR {H : Hp} {nest : Bool} {a k n : Nat} {l : List Rad} {R : Rad} (h : H[a]? = some (.clo (l.map cRad) false)) (hk : k < l.length) (hn : l.length = n) :
    vstore Tryz.prog nest H 43 (.one (.ptr ⟨a, k, 0, n⟩)) (.agg ((cRad R).map .c)) = some (H.set a (.clo ((l.set k R).map cRad) false)) := by
  subst hn
  have e : (List.map cRad l).modify k (fun e => Vm.wr e 0 (cRad R)) = List.map cRad (l.set k R) := by
    rw [List.map_set]
    apply List.ext_getElem (by simp)
    intro i h1 h2
    rw [List.getElem_modify, List.getElem_set]
    by_cases c : k = i
    · subst c; simp [cRad, wr]
    · rw [if_neg c, if_neg c]
  simp only [cRad, cRws, cRw] at h e
  simp [vstore, cellsOf?, h, hk, hasRef, Ent.wrC, cRad, cRws, cRw, e]
theorem ref_Decode {l : List Rad} (hs : ∀ R ∈ l, Seeds R ∧ Lens R) (h : decOk l = true) : TV.pu 10 [.one (cRads l)] = some (refDecA (jdec l)) := by
  refine run10 (by simp) ?_
  have h3 : l.length ≤ 3 ∧ l.all rOk = true := by simpa [decOk] using h
  obtain ⟨S, hS⟩ : ∃ S, jdec l = S := ⟨_, rfl⟩
  rw [hS]
  simp -implicitDefEqProofs [Tryz.f10, cRads, vmove, isNil]
  obtain ⟨I, hI⟩ : ∃ I : Nat → St → Prop, ∀ k s', I k s' ↔ (∃ e G d4 d5 i, s' = ⟨e, G⟩ ∧ e 0 = .one (.c (cRads l)) ∧ e 4 = .one (.sl d4 0 i i) ∧ e 5 = .one (.sl d5 0 i i) ∧ e 6 = vI .i64 (i : Nat) ∧ (i + k = l.length) ∧ (G[d4]? = some (.clo ((l.map cRad).take i) false)) ∧ (G[d5]? = some (.clo (List.replicate i [.arr []]) false)) ∧ (d4 ≠ d5)) := ⟨_, fun _ _ => Iff.rfl⟩
  refine wpL_ind I ?_ l.length _ ((hI _ _).2 ⟨_, _, 2, 3, 0, (by first | rfl | (simp [cRads]; done) | (simp [cRads]; rfl) | (simp [cRads]; and_intros <;> rfl)), by simp [cRads], by simp, by simp, by simp, by omega, rfl, rfl, by omega⟩)
  intro k stI hstI
  obtain ⟨e, G, d4, d5, i, rfl, e0, e4, e5, e6, hi, g4, g5, hne⟩ := (hI _ _).1 hstI
  by_cases c : i < l.length
  · have c' : (i : Int) < l.length := by omega
    obtain ⟨R, hR⟩ : ∃ R, l[i] = R := ⟨_, rfl⟩
    have hli : l[i]? = some R := by rw [List.getElem?_eq_getElem c, hR]
    have g4l := (List.getElem?_eq_some_iff.1 g4).1
    have g5l := (List.getElem?_eq_some_iff.1 g5).1
    have w_i : IntKind.i64.wrap ((i : Int) + 1) = ((i + 1 : Nat) : Int) := by rw [w64_id (by omega) (by omega)]; omega
    have ha4 := vappend_eq (P := Tryz.prog) (H := G ++ [.clo [cRad R] false]) (t := 23) (tx := 23) (id := d4) (n := i) (l := (l.map cRad).take i) (xs := [cRad R]) (x := .one (.sl G.length 0 1 1)) es23 es23 el43
      (by rw [List.getElem?_append_left g4l]; exact g4) (by simp [elemsOf]) (by simp; omega) (by intro e he; obtain ⟨y, -, rfl⟩ := List.mem_map.1 (List.mem_of_mem_take he); rfl) (by simp [cRad]) (by simp only [List.length_singleton]; omega) (by simp only [List.length_singleton]; omega)
    have hN4 : (l.map cRad).take i ++ [cRad R] = (l.map cRad).take (i + 1) := by
      rw [List.take_add_one, List.getElem?_map, hli]; rfl
    rw [hN4] at ha4
    obtain ⟨G1, hG1⟩ : ∃ G1, (G ++ [Ent.clo [cRad R] false]).set d4 (.clo ((l.map cRad).take (i + 1)) false) = G1 := ⟨_, rfl⟩
    have g14 : G1[d4]? = some (.clo ((l.map cRad).take (i + 1)) false) := by rw [← hG1]; exact set_self (e0 := _) (by rw [List.getElem?_append_left g4l]; exact g4)
    have g15 : G1[d5]? = some (.clo (List.replicate i [.arr []]) false) := by rw [← hG1, set_get (fun e => hne e.symm), List.getElem?_append_left g5l]; exact g5
    rw [hG1] at ha4
    have g14l := (List.getElem?_eq_some_iff.1 g14).1
    have g15l := (List.getElem?_eq_some_iff.1 g15).1
    have ha5 := vappend_eq (P := Tryz.prog) (H := G1 ++ [.clo [[.arr []]] false]) (t := 27) (tx := 27) (id := d5) (n := i) (l := List.replicate i [.arr []]) (xs := [[.arr []]]) (x := .one (.sl G1.length 0 1 1)) es27 es27 el35
      (by rw [List.getElem?_append_left g15l]; exact g15) (by simp [elemsOf]) (by simp) (by intro e he; rw [List.eq_of_mem_replicate he]; rfl) (by simp) (by simp only [List.length_singleton]; omega) (by simp only [List.length_singleton]; omega)
    have hN5 : List.replicate i [CV.arr []] ++ [[.arr []]] = List.replicate (i + 1) [.arr []] := (List.replicate_succ' ..).symm
    rw [hN5] at ha5
    obtain ⟨G2, hG2⟩ : ∃ G2, (G1 ++ [Ent.clo [[.arr []]] false]).set d5 (.clo (List.replicate (i + 1) [.arr []]) false) = G2 := ⟨_, rfl⟩
    have g24 : G2[d4]? = some (.clo ((l.map cRad).take (i + 1)) false) := by rw [← hG2, set_get hne, List.getElem?_append_left g14l]; exact g14
    have g25 : G2[d5]? = some (.clo (List.replicate (i + 1) [.arr []]) false) := by rw [← hG2]; exact set_self (e0 := _) (by rw [List.getElem?_append_left g15l]; exact g15)
    rw [hG2] at ha5
    simp only [cRad, cRws, cRw, List.length_singleton] at ha4 ha5
    simp -implicitDefEqProofs [e0, e4, e5, e6, c', hli, cRads, cRad, cRws, cRw, vmove, isNil, cellsOf?, nrm, fzParts, setAll, rchParts, rch, vbuildSlice_eq es23 el43, vbuildSlice_eq es27 el35, ha4, ha5]
    exact ⟨(k - 1), by omega, (hI _ _).2 ⟨_, G2, d4, d5, i + 1, (by first | rfl | (simp [e0, w_i, cRads]; done) | (simp [e0, w_i, cRads]; rfl) | (simp [e0, w_i, cRads]; and_intros <;> rfl)), by simp [e0, w_i, cRads], by simp [w_i], by simp [w_i], by simp [w_i], by omega, g24, g25, hne⟩⟩
  · have c' : ¬ (i : Int) < l.length := by omega
    have hi' : i = l.length := by omega
    subst hi'
    obtain ⟨L0, hL0⟩ : ∃ L0 : List Sw, (l.map fun R => (R, [])) = L0 := ⟨_, rfl⟩
    have hL0l : L0.length = l.length := by rw [← hL0]; simp
    have hE4 : Ent.clo ((l.map cRad).take l.length) false = radE L0 := by
      rw [List.take_of_length_le (by simp), radE, ← hL0, List.map_map]
      rfl
    have hE5 : Ent.clo (List.replicate l.length [.arr []]) false = toldE L0 := by
      rw [toldE, ← hL0]
      congr 1
      apply List.ext_getElem (by simp)
      intro j h1 h2
      simp [ssort_nil, cSs]
    rw [hE4] at g4
    rw [hE5] at g5
    have hJ0 : JOk L0 := by
      rw [← hL0]
      intro x hx
      obtain ⟨R, hR, rfl⟩ := List.mem_map.1 hx
      exact ⟨(hs R hR).1, (hs R hR).2, List.all_eq_true.1 h3.2 R hR⟩
    have hp0 : jpos L0 ≤ 3 * 1792 := by
      have := jpos_le hJ0
      rw [hL0l] at this
      have : 1792 * l.length ≤ 1792 * 3 := Nat.mul_le_mul_left _ h3.1
      omega
    have hb0 : ∀ x ∈ L0, x.2.length + jpos L0 ≤ 6000 := fun x hx => by
      rw [← hL0] at hx
      obtain ⟨R, hR, rfl⟩ := List.mem_map.1 hx
      show 0 + _ ≤ _
      omega
    obtain ⟨n, hn⟩ : ∃ n, l.length = n := ⟨_, rfl⟩
    rw [hn] at hL0l h3
    simp -implicitDefEqProofs [e0, e6, hn, cRads, vmove, isNil]
    obtain ⟨J, hJ⟩ : ∃ J : Nat → St → Prop, ∀ k s', J k s' ↔ (∃ e G d4 d5 a L, s' = ⟨e, G⟩ ∧ e 4 = .one (.sl d4 0 n n) ∧ e 5 = .one (.sl d5 0 n n) ∧ e 7 = vI .i64 (a : Nat) ∧ (k = jpos L * (n + 1) + (n - a)) ∧ (a ≤ n) ∧ (G[d4]? = some (radE L)) ∧ (G[d5]? = some (toldE L)) ∧ (d4 ≠ d5) ∧ (JOk L) ∧ (L.length = n) ∧ (∃ m, jpos L ≤ m ∧ jall m L = S) ∧ (∀ j (hj : j < L.length), j < a → pureOf L[j].1 L[j].2 = none) ∧ (∀ x ∈ L, x.2.length + jpos L ≤ 6000)) := ⟨_, fun _ _ => Iff.rfl⟩
    refine wpL_ind J ?_ (jpos L0 * (n + 1) + n) _ ((hJ _ _).2 ⟨_, G, d4, d5, 0, L0, (by first | rfl | (simp [e4, e5, hn]; done) | (simp [e4, e5, hn]; rfl) | (simp [e4, e5, hn]; and_intros <;> rfl)), by simp [e4, hn], by simp [e5, hn], by simp, rfl, by omega, g4, g5, hne, hJ0, hL0l, ⟨jpos L0, Nat.le_refl _, by rw [← hS, jdec, hL0]⟩, fun j hj hji => by omega, hb0⟩)
    clear e0 e4 e5 e6 g4 g5 hne hb0
    intro k stJ hstJ
    obtain ⟨e, G, d4, d5, a, L, rfl, e4, e5, e7, hk, ha, g4, g5, hne, hJo, hLl, hm, hno, hb⟩ := (hJ _ _).1 hstJ
    subst hk
    have hSe : (radE L).len = n ∧ (toldE L).len = n := by simp [radE, toldE, Ent.len, hLl]
    by_cases ca : a < n
    rotate_left
    · have ca' : ¬ (a : Int) < n := by omega
      have hf : jfind L = none := jfind_eq_none fun j hj => hno j hj (by omega)
      obtain ⟨m, hm1, hm2⟩ := hm
      rw [jall_none hf] at hm2
      subst hm2
      have ht4 : List.take n (L.map fun x => cRad x.1) = L.map fun x => cRad x.1 := List.take_of_length_le (by simp [hLl])
      have ht5 : List.take n (L.map fun x => [cSs (ssort x.2)]) = L.map fun x => [cSs (ssort x.2)] := List.take_of_length_le (by simp [hLl])
      simp only [radE, toldE] at g4 g5
      simp -implicitDefEqProofs [e4, e5, e7, ca', g4, g5, hLl, ht4, ht5, refDecA, cTold, cRads, vmove, isNil]
    have ca' : (a : Int) < n := by omega
    have haL : a < L.length := by omega
    obtain ⟨R, told, hx⟩ : ∃ R told, L[a] = (R, told) := ⟨_, _, rfl⟩
    have hLa : L[a]? = some (R, told) := by rw [List.getElem?_eq_getElem haL, hx]
    have hxm : (R, told) ∈ L := hx ▸ List.getElem_mem haL
    obtain ⟨ks, kl, kok⟩ := hJo _ hxm
    have hxb := hb _ hxm
    dsimp only at ks kl kok hxb
    have hP := rr_Pure (told := ssort told) ks kl kok (by rw [ssort_len]; omega)
    rw [pureOf_ssort] at hP
    simp only [cRad, cRws, cRw, cSs] at hP
    cases hpo : pureOf R told with
    | none =>
      rw [hpo] at hP
      simp only [pureA] at hP
      have hno2 : ∀ j (hj : j < L.length), j < a + 1 → pureOf L[j].1 L[j].2 = none := fun j hj hji => by
        by_cases e : j = a
        · subst e; rw [hx]; exact hpo
        · exact hno j hj (by omega)
      have w_a : IntKind.i64.wrap ((a : Int) + 1) = ((a + 1 : Nat) : Int) := by rw [w64_id (by omega) (by omega)]; omega
      have g4' := g4
      have g5' := g5
      simp only [radE, toldE, cSs] at g4' g5'
      simp -implicitDefEqProofs [e4, e5, e7, ca', g4', g5', hLl, hLa, cRad, cRws, cRw, hP, vmove, isNil]
      refine ⟨ca, ?_⟩
      exact ⟨(jpos L * (n + 1) + (n - (a + 1))), by omega, (hJ _ _).2 ⟨_, G, d4, d5, a + 1, L, (by first | rfl | (simp [e4, e5, w_a]; done) | (simp [e4, e5, w_a]; rfl) | (simp [e4, e5, w_a]; and_intros <;> rfl)), by simp [e4, w_a], by simp [e5, w_a], by simp [w_a], rfl, by omega, g4, g5, hne, hJo, hLl, hm, hno2, hb⟩⟩
    | some key =>
      rw [hpo] at hP
      simp only [pureA] at hP
      have hfi : jfind L = some (a, key) := jfind_eq haL (by rw [hx]; exact hpo) fun j hj hji => hno j hj hji
      have hk37 := pureOf_size kok hpo
      have g4' := g4
      have g5' := g5
      simp only [radE, toldE, cSs] at g4' g5'
      simp -implicitDefEqProofs [e4, e5, e7, ca', g4', g5', hLl, hLa, cRad, cRws, cRw, hP, vmove, isNil]
      refine ⟨ca, ?_⟩
      have hlt := jpos_lt hfi
      have hb2 : ∀ x ∈ L.mapIdx (jtake a key), x.2.length + jpos (L.mapIdx (jtake a key)) ≤ 6000 := fun x hx => by
        obtain ⟨j, hj, rfl⟩ := List.getElem_of_mem hx
        have hjL : j < L.length := by simpa using hj
        rw [List.getElem_mapIdx]
        have h1 := hb _ (List.getElem_mem hjL)
        have h3 : (jtake a key j L[j]).2.length ≤ L[j].2.length + 1 := by
          unfold jtake
          split
          · simp
          · omega
        omega
      have hmul : jpos (L.mapIdx (jtake a key)) * (n + 1) + (n + 1) ≤ jpos L * (n + 1) := by
        have := Nat.mul_le_mul_right (n + 1) (Nat.succ_le_of_lt hlt)
        rw [Nat.succ_mul] at this
        exact this
      obtain ⟨m, hm1, hm2⟩ := hm
      obtain ⟨m', rfl⟩ : ∃ m', m = m' + 1 := ⟨m - 1, by omega⟩
      rw [jall_some hfi] at hm2
      obtain ⟨Z, hZ⟩ : ∃ Z : Nat → St → Prop, ∀ k3 s', Z k3 s' ↔ (∃ e G d4 d5 q, s' = ⟨e, G⟩ ∧ e 4 = .one (.sl d4 0 n n) ∧ e 5 = .one (.sl d5 0 n n) ∧ e 7 = vI .i64 (a : Nat) ∧ e 8 = vS key ∧ e 10 = vI .i64 (q : Nat) ∧ (q + k3 = n) ∧ (G[d4]? = some (radE (takeS L a key q))) ∧ (G[d5]? = some (toldE (takeS L a key q))) ∧ (d4 ≠ d5)) := ⟨_, fun _ _ => Iff.rfl⟩
      refine wpL_ind Z ?_ n _ ((hZ _ _).2 ⟨_, G, d4, d5, 0, (by first | rfl | (simp [e4, e5, e7]; done) | (simp [e4, e5, e7]; rfl) | (simp [e4, e5, e7]; and_intros <;> rfl)), by simp [e4], by simp [e5], by simp [e7], by simp, by simp, by omega, by rw [takeS_zero]; exact g4, by rw [takeS_zero]; exact g5, hne⟩)
      clear e4 e5 e7 g4 g5 g4' g5' hne
      intro k3 stZ hstZ
      obtain ⟨e, G, d4, d5, q, rfl, e4, e5, e7, e8, e10, hq, g4, g5, hne⟩ := (hZ _ _).1 hstZ
      by_cases cq : q < n
      rotate_left
      · have cq' : ¬ (q : Int) < n := by omega
        have g4' := g4
        have hMl : (takeS L a key q).length = n := by rw [takeS_len, hLl]
        simp only [radE] at g4'
        rw [takeS_all (by omega)] at g4 g5
        simp -implicitDefEqProofs [e4, e10, cq', g4', hMl, vmove, isNil]
        exact ⟨(jpos (L.mapIdx (jtake a key)) * (n + 1) + n), by omega, (hJ _ _).2 ⟨_, G, d4, d5, 0, _, (by first | rfl | (simp [e4, e5]; done) | (simp [e4, e5]; rfl) | (simp [e4, e5]; and_intros <;> rfl)), by simp [e4], by simp [e5], by simp, rfl, by omega, g4, g5, hne, jmap_ok hJo, by simp [hLl], ⟨m', by omega, hm2⟩, fun j hj hji => by omega, hb2⟩⟩
      have cq' : (q : Int) < n := by omega
      have hqL : q < L.length := by omega
      have hqM : q < (takeS L a key q).length := by rw [takeS_len]; exact hqL
      have hMl : (takeS L a key q).length = n := by rw [takeS_len, hLl]
      obtain ⟨R2, told2, hy⟩ : ∃ R told, L[q] = (R, told) := ⟨_, _, rfl⟩
      have hMq : (takeS L a key q)[q]? = some (R2, told2) := by rw [List.getElem?_eq_getElem hqM, takeS_get hqM hqL (Nat.le_refl _), hy]
      have hym : (R2, told2) ∈ L := hy ▸ List.getElem_mem hqL
      obtain ⟨ys, yl, yok⟩ := hJo _ hym
      have hyb := hb _ hym
      dsimp only at ys yl yok hyb
      have hyf := (rOk_facts yok).1
      have hIn := rr_In (l := ssort told2) (v := key) (by rw [ssort_len]; omega)
      rw [any_ssort] at hIn
      have hHa := ref10_Has (seed := R2.fs) (h := R2.h) (bits := R2.bits) (key := key) ys.2.2.1 ys.2.2.2 (by omega) hyf
      have hPu := rr_Put (l := ssort told2) (key := key) (by rw [ssort_len]; omega)
      rw [insS_ssort] at hPu
      have hRm := rr_Remove ys yl yok hk37
      have hskip : jHit a key q L[q] = false → takeS L a key (q + 1) = takeS L a key q := fun h => takeS_skip hqL h
      have hhit : jHit a key q L[q] = true → (takeS L a key q).set q (remR R2 key, told2 ++ [key]) = takeS L a key (q + 1) := fun h => by
        rw [takeS_succ hqL, jtake, if_pos h, hy]
      rw [hy] at hskip hhit
      unfold jHit at hskip hhit
      dsimp only at hskip hhit
      have g4' := g4
      have g5' := g5
      simp only [radE, toldE, cSs] at g4' g5'
      have w_q : IntKind.i64.wrap ((q : Int) + 1) = ((q + 1 : Nat) : Int) := by rw [w64_id (by omega) (by omega)]; omega
      simp only [cRad, cRws, cRw, cSs, cF] at hIn hHa hPu hRm
      by_cases qa : q = a
      · have hhit := hhit (by simp [qa])
        have qb : ((q : Int) != (a : Int)) = false := by simp [qa]
        have hs5 := st_told (t := told2 ++ [key]) (R := remR R2 key) g5 hqM hMl
        rw [hhit] at hs5
        obtain ⟨G2, hG2⟩ : ∃ G2, G.set d5 (toldE (takeS L a key (q + 1))) = G2 := ⟨_, rfl⟩
        have g25 : G2[d5]? = some (toldE (takeS L a key (q + 1))) := by rw [← hG2]; exact set_self g5
        have g24 : G2[d4]? = some (.clo (((takeS L a key q).map (·.1)).map cRad) false) := by rw [← hG2, set_get hne, List.map_map]; exact g4
        have g24' : G2[d4]? = some (radE (takeS L a key q)) := by rw [← hG2, set_get hne]; exact g4
        rw [hG2] at hs5
        have hs4 := st_radR (nest := false) (k := q) (n := n) (R := remR R2 key) g24 (by simpa using hqM) (by simpa using hMl)
        have hE : Ent.clo ((((takeS L a key q).map (·.1)).set q (remR R2 key)).map cRad) false = radE (takeS L a key (q + 1)) := by
          rw [← hhit, radE]
          congr 1
          rw [List.map_set, List.map_set, List.map_map]
          rfl
        rw [hE] at hs4
        obtain ⟨G3, hG3⟩ : ∃ G3, G2.set d4 (radE (takeS L a key (q + 1))) = G3 := ⟨_, rfl⟩
        have g34 : G3[d4]? = some (radE (takeS L a key (q + 1))) := by rw [← hG3]; exact set_self g24
        have g35 : G3[d5]? = some (toldE (takeS L a key (q + 1))) := by rw [← hG3, set_get (fun e => hne e.symm)]; exact g25
        rw [hG3] at hs4
        simp only [radE] at g24'
        simp only [cRad, cRws, cRw, cSs, List.map_cons, List.map_nil] at hs5 hs4
        simp -implicitDefEqProofs [e4, e5, e7, e8, e10, cq', g4', g5', hMl, hMq, cRad, cRws, cRw, qb, hPu, hRm, hs5, g24', hs4, vmove, isNil]
        refine ⟨cq, ?_⟩
        exact ⟨(k3 - 1), by omega, (hZ _ _).2 ⟨_, G3, d4, d5, q + 1, (by first | rfl | (simp [e4, e5, e7, e8, w_q]; done) | (simp [e4, e5, e7, e8, w_q]; rfl) | (simp [e4, e5, e7, e8, w_q]; and_intros <;> rfl)), by simp [e4, w_q], by simp [e5, w_q], by simp [e7, w_q], by simp [e8, w_q], by simp [w_q], by omega, g34, g35, hne⟩⟩
      have qb : ((q : Int) != (a : Int)) = true := by simp; omega
      cases hc : told2.any (sEq key) with
      | true =>
        rw [hc] at hIn
        have hskip := hskip (by simp [qa, hc])
        simp -implicitDefEqProofs [e4, e5, e7, e8, e10, cq', g4', g5', hMl, hMq, cRad, cRws, cRw, qb, hIn, vmove, isNil]
        refine ⟨cq, ?_⟩
        exact ⟨(k3 - 1), by omega, (hZ _ _).2 ⟨_, G, d4, d5, q + 1, (by first | rfl | (simp [e4, e5, e7, e8, w_q]; done) | (simp [e4, e5, e7, e8, w_q]; rfl) | (simp [e4, e5, e7, e8, w_q]; and_intros <;> rfl)), by simp [e4, w_q], by simp [e5, w_q], by simp [e7, w_q], by simp [e8, w_q], by simp [w_q], by omega, by rw [hskip]; exact g4, by rw [hskip]; exact g5, hne⟩⟩
      | false =>
      rw [hc] at hIn
      cases hh : hasB R2.fs R2.h R2.bits key with
      | false =>
        rw [hh] at hHa
        have hskip := hskip (by simp [qa, hc, hh])
        simp -implicitDefEqProofs [e4, e5, e7, e8, e10, cq', g4', g5', hMl, hMq, cRad, cRws, cRw, qb, hIn, hHa, vmove, isNil]
        refine ⟨cq, ?_⟩
        exact ⟨(k3 - 1), by omega, (hZ _ _).2 ⟨_, G, d4, d5, q + 1, (by first | rfl | (simp [e4, e5, e7, e8, w_q]; done) | (simp [e4, e5, e7, e8, w_q]; rfl) | (simp [e4, e5, e7, e8, w_q]; and_intros <;> rfl)), by simp [e4, w_q], by simp [e5, w_q], by simp [e7, w_q], by simp [e8, w_q], by simp [w_q], by omega, by rw [hskip]; exact g4, by rw [hskip]; exact g5, hne⟩⟩
      | true =>
        rw [hh] at hHa
        have hhit := hhit (by simp [hc, hh])
        have hs5 := st_told (t := told2 ++ [key]) (R := remR R2 key) g5 hqM hMl
        rw [hhit] at hs5
        obtain ⟨G2, hG2⟩ : ∃ G2, G.set d5 (toldE (takeS L a key (q + 1))) = G2 := ⟨_, rfl⟩
        have g25 : G2[d5]? = some (toldE (takeS L a key (q + 1))) := by rw [← hG2]; exact set_self g5
        have g24 : G2[d4]? = some (.clo (((takeS L a key q).map (·.1)).map cRad) false) := by rw [← hG2, set_get hne, List.map_map]; exact g4
        have g24' : G2[d4]? = some (radE (takeS L a key q)) := by rw [← hG2, set_get hne]; exact g4
        rw [hG2] at hs5
        have hs4 := st_radR (nest := false) (k := q) (n := n) (R := remR R2 key) g24 (by simpa using hqM) (by simpa using hMl)
        have hE : Ent.clo ((((takeS L a key q).map (·.1)).set q (remR R2 key)).map cRad) false = radE (takeS L a key (q + 1)) := by
          rw [← hhit, radE]
          congr 1
          rw [List.map_set, List.map_set, List.map_map]
          rfl
        rw [hE] at hs4
        obtain ⟨G3, hG3⟩ : ∃ G3, G2.set d4 (radE (takeS L a key (q + 1))) = G3 := ⟨_, rfl⟩
        have g34 : G3[d4]? = some (radE (takeS L a key (q + 1))) := by rw [← hG3]; exact set_self g24
        have g35 : G3[d5]? = some (toldE (takeS L a key (q + 1))) := by rw [← hG3, set_get (fun e => hne e.symm)]; exact g25
        rw [hG3] at hs4
        simp only [radE] at g24'
        simp only [cRad, cRws, cRw, cSs, List.map_cons, List.map_nil] at hs5 hs4
        simp -implicitDefEqProofs [e4, e5, e7, e8, e10, cq', g4', g5', hMl, hMq, cRad, cRws, cRw, qb, hIn, hHa, hPu, hRm, hs5, g24', hs4, vmove, isNil]
        refine ⟨cq, ?_⟩
        exact ⟨(k3 - 1), by omega, (hZ _ _).2 ⟨_, G3, d4, d5, q + 1, (by first | rfl | (simp [e4, e5, e7, e8, w_q]; done) | (simp [e4, e5, e7, e8, w_q]; rfl) | (simp [e4, e5, e7, e8, w_q]; and_intros <;> rfl)), by simp [e4, w_q], by simp [e5, w_q], by simp [e7, w_q], by simp [e8, w_q], by simp [w_q], by omega, g34, g35, hne⟩⟩
end Go.Proofs.YtmgnmnogiajlgaaGreatF
end

section
/- The law: a packet more, a flow less. -/
set_option maxRecDepth 8192
set_option maxHeartbeats 1000000
namespace Go.Proofs.YtmgnmnogiajlgaaGreatF
open Go Go.Proofs.Vm

theorem rd_Place_no {R : Rad} {key : ByteArray} {i : Int} (hs : Seeds R) (hl : Lens R) (h : rOk R = false ∨ key.size ≠ 37 ∨ i < 0 ∨ (R.rows.length : Int) ≤ i) : TV.pu 36 [.agg (cRad R), cS key, cI .i64 i] = some (cI .i64 0) := by
  refine run36 (by simp) ?_
  have hR := rd_Right hs hl
  simp only [cRad, cRws, cRw] at hR
  cases hok : rOk R with
  | false =>
    rw [hok] at hR
    simp -implicitDefEqProofs [Tryz.f36, cRad, cRws, cRw, vmove, isNil, hR]
  | true =>
  rw [hok] at hR
  by_cases c1 : i < 0
  · simp -implicitDefEqProofs [Tryz.f36, cRad, cRws, cRw, vmove, isNil, hR, c1]
  by_cases c2 : (R.rows.length : Int) ≤ i
  · simp -implicitDefEqProofs [Tryz.f36, cRad, cRws, cRw, vmove, isNil, hR, c1, c2]
  have hk : ¬ (key.size : Int) = 37 := by
    rcases h with h | h | h | h
    · rw [hok] at h; cases h
    · omega
    · omega
    · omega
  simp -implicitDefEqProofs [Tryz.f36, cRad, cRws, cRw, vmove, isNil, hR, c1, c2, hk]
theorem updA_lens7 {R : Rad} {f : RCl → RCl} {key : ByteArray} {bits : List Bool} (h : Lens7 R) : Lens7 { R with bits := bits, rows := updA f R.s key R.rows } := by
  refine ⟨by show 24 * (updA f R.s key R.rows).length ≤ _; rw [updA_len]; exact h.1, fun x hx => ?_⟩
  obtain ⟨j, hj, rfl⟩ := List.getElem_of_mem (show x ∈ updA f R.s key R.rows from hx)
  rw [updA_at, updR_len]
  exact h.2 _ (List.getElem_mem _)
theorem zRad_lens : Lens zRad := ⟨by simp [zRad], by simp [zRad], by simp [zRad]⟩
theorem zRad_lens7 : Lens7 zRad := ⟨by simp [zRad], by simp [zRad]⟩
end Go.Proofs.YtmgnmnogiajlgaaGreatF
end

section
/- The law: the first pure cell, and what is peeled. -/
set_option maxRecDepth 8192
set_option maxHeartbeats 1000000
namespace Go.Proofs.YtmgnmnogiajlgaaGreatF
open Go Go.Proofs.Vm

theorem peelN_keeps {n : Nat} : ∀ {R : Rad} {out : List ByteArray}, Lens R → Lens7 R → Lens (peelN n R out).2 ∧ Lens7 (peelN n R out).2 := by
  induction n with
  | zero => intro R out h h7; exact ⟨h, h7⟩
  | succ n ih =>
    intro R out h h7
    rw [peelN]
    cases hp : pureOf R out with
    | none => exact ⟨h, h7⟩
    | some k => exact ih (remR_lens h) (updA_lens7 h7)
theorem peelN_len {n : Nat} : ∀ {R : Rad} {out : List ByteArray}, (peelN n R out).1.length ≤ out.length + n := by
  induction n with
  | zero => intro R out; show (ssort out).length ≤ _; rw [ssort_len]; omega
  | succ n ih =>
    intro R out
    rw [peelN]
    cases hp : pureOf R out with
    | none => show (ssort out).length ≤ _; rw [ssort_len]; omega
    | some k =>
      have := ih (R := remR R k) (out := out ++ [k])
      rw [List.length_append] at this
      simp only [List.length_cons, List.length_nil] at this
      show (peelN n (remR R k) (out ++ [k])).1.length ≤ _
      omega
end Go.Proofs.YtmgnmnogiajlgaaGreatF
end

section
/- The law: what is told of any radars, and what is left. -/
set_option maxRecDepth 8192
set_option maxHeartbeats 2000000
namespace Go.Proofs.YtmgnmnogiajlgaaGreatF
open Go Go.Proofs.Vm

theorem jn_round0 {H : Hp} {a b : Nat} (ha : H[a]? = some (.clo [] false)) (_hb : H[b]? = some (.clo [] false)) : TV.S 28 [.one (.sl a 0 0 0), .one (.sl b 0 0 0)] H = some (vB false, H) := by
  refine run28 (by simp) (by simp) ?_
  simp -implicitDefEqProofs [Tryz.f28, ha]
  refine wpL_ind (fun k s' => k = 1 ∧ s' = _) ?_ 1 _ ⟨rfl, rfl⟩
  rintro k st ⟨rfl, rfl⟩
  simp -implicitDefEqProofs
theorem jn_Decode_nil : TV.pu 8 [.one (cRads [])] = some (decA []) := by
  refine run8 (by simp) ?_
  have hC := jn_cw (l := []) (by simp) (by decide)
  have hCl := rads_Clone0 (H := [.clo [] false, .clo [] false])
  simp only [cRads, List.map_nil, List.any_nil] at hC hCl
  have hmk : ∀ nid, vmakeSlice Tryz.prog true nid 27 (vI .i64 0) (vI .i64 0) = some (.one (.sl nid 0 0 0), [.clo [] false], []) := fun nid => by
    rw [vmakeSlice_eq es27 el35, if_pos ⟨by omega, rfl, by decide, by omega⟩]
    simp
  have hR := jn_round0 (H := [.clo [] false, .clo [] false, .clo [] false, .clo [] false]) (a := 2) (b := 3) rfl rfl
  simp -implicitDefEqProofs [Tryz.f8, cRads, vmove, isNil, hC, hCl, hmk]
  refine wpL_ind (fun k s' => k = 1 ∧ s' = _) ?_ 1 _ ⟨rfl, rfl⟩
  rintro k st ⟨rfl, rfl⟩
  simp -implicitDefEqProofs [hR, vmove, isNil]
  refine wpL_ind (fun k s' => k = 1 ∧ s' = _) ?_ 1 _ ⟨rfl, rfl⟩
  rintro k st ⟨rfl, rfl⟩
  simp -implicitDefEqProofs [vmove, isNil, decA, cTold, cRads]
theorem jdec_nil : jdec [] = [] := rfl
theorem jn_Decode' {l : List Rad} (hs : ∀ R ∈ l, Seeds R ∧ Lens R) (h : decOk l = true) : TV.pu 8 [.one (cRads l)] = some (decA (jdec l)) := by
  by_cases h0 : l = []
  · subst h0; exact jn_Decode_nil
  · exact jn_Decode hs h0 h
theorem jrem_small {R : Rad} {key : ByteArray} (h : smallB R = true) (hok : rOk R = true) : smallB (remR R key) = true := by
  unfold smallB at h ⊢
  simp only [Bool.and_eq_true, decide_eq_true_eq, List.all_eq_true] at h ⊢
  obtain ⟨⟨⟨a, b⟩, c⟩, d⟩ := h
  obtain ⟨q1, q2, q3, q4, q5⟩ := rOk_facts (remR_ok (key := key) hok)
  refine ⟨⟨⟨a, by show (updA (remC key) R.s key R.rows).length ≤ 20; rw [updA_len]; exact b⟩, c⟩, fun r hr => ?_⟩
  obtain ⟨j, hj, rfl⟩ := List.getElem_of_mem (show r ∈ updA (remC key) R.s key R.rows from hr)
  have hm := q5 _ hr
  refine ⟨?_, fun x hx => ?_⟩
  · rw [updA_at, updR_len]
    exact (d _ (List.getElem_mem _)).1
  · have := ((wrongB_iff x).1 (hm.2.2.2 x hx)).1
    omega
/-- What stays of each switch through all rounds. -/
theorem jall_keeps : ∀ (n : Nat) {L : List Sw}, (∀ x ∈ L, smallB x.1 = true ∧ Lens x.1 ∧ Lens7 x.1 ∧ rOk x.1 = true) → ∀ x ∈ jall n L, smallB x.1 = true ∧ Lens x.1 ∧ Lens7 x.1 ∧ rOk x.1 = true
  | 0, _, h, x, hx => h x hx
  | n + 1, L, h, x, hx => by
    cases hf : jfind L with
    | none => rw [jall_none hf] at hx; exact h x hx
    | some r =>
      rw [jall_some hf] at hx
      refine jall_keeps n (fun y hy => ?_) x hx
      obtain ⟨j, hj, rfl⟩ := List.getElem_of_mem hy
      have hjL : j < L.length := by simpa using hj
      rw [List.getElem_mapIdx]
      obtain ⟨h1, h2, h3, h4⟩ := h _ (List.getElem_mem hjL)
      unfold jtake
      split
      · exact ⟨jrem_small h1 h4, remR_lens h2, updA_lens7 h3, remR_ok h4⟩
      · exact ⟨h1, h2, h3, h4⟩
theorem jdec_keeps {l : List Rad} (hs : ∀ R ∈ l, Seeds R ∧ Lens R) (h7 : ∀ R ∈ l, Lens7 R) (h : decOk l = true) (hsm : smallL l = true) : smallL ((jdec l).map (·.1)) = true ∧ ∀ R ∈ (jdec l).map (·.1), Lens R ∧ Lens7 R := by
  have h3 : l.length ≤ 3 ∧ l.all rOk = true := by simpa [decOk] using h
  have hs5 : l.length ≤ 5 ∧ ∀ R ∈ l, smallB R = true := by
    unfold smallL at hsm
    simpa [List.all_eq_true] using hsm
  have hk := jall_keeps (jpos (l.map fun r => (r, []))) (L := l.map fun r => (r, [])) (fun x hx => by
    obtain ⟨R, hR, rfl⟩ := List.mem_map.1 hx
    exact ⟨hs5.2 R hR, (hs R hR).2, h7 R hR, List.all_eq_true.1 h3.2 R hR⟩)
  change ∀ x ∈ jdec l, _ at hk
  refine ⟨?_, fun R hR => ?_⟩
  · unfold smallL
    rw [List.length_map, jdec_len, decide_eq_true hs5.1, Bool.true_and, List.all_eq_true]
    intro R hR
    obtain ⟨x, hx, rfl⟩ := List.mem_map.1 hR
    exact (hk x hx).1
  · obtain ⟨x, hx, rfl⟩ := List.mem_map.1 hR
    exact ⟨(hk x hx).2.1, (hk x hx).2.2.1⟩
theorem law_jdecodes {l : List Rad} (hs : ∀ R ∈ l, Seeds R ∧ Lens R) (h7 : ∀ R ∈ l, Lens7 R) (hl : l.length < 4611686018427387904) : TV.pu 3 [.one (cRads l)] = some (cB true) := by
  refine run3 (by simp) ?_
  have hA := law_awake17
  have hrf := law_ref17 h7 (fun R hR => (hs R hR).2) hl
  have hrt := law_right17 hs hl
  unfold refA at hrf
  cases hsm : smallL l with
  | false =>
    rw [hsm] at hrf
    simp only [cRads] at hrf
    simp -implicitDefEqProofs [Tryz.f3, cRads, hrf, hA, vmove, isNil]
  | true =>
  rw [hsm, if_pos rfl] at hrf
  cases hd : decOk l with
  | false =>
    rw [hd] at hrt
    have hD := jn_Decode_no hs hl hd
    have hw0 : IntKind.i64.wrap 0 = 0 := by decide
    simp only [cRads] at hrf hrt hD
    simp -implicitDefEqProofs [Tryz.f3, cRads, hrf, hrt, hD, hA, hw0, vmove, isNil]
  | true =>
  rw [hd] at hrt
  have hD := jn_Decode' hs hd
  have hD2 := ref_Decode hs hd
  obtain ⟨k1, k2⟩ := jdec_keeps hs h7 hd hsm
  have hbt := (jdec_ok hs hd).2
  have hSl := jdec_len l
  have h3 : l.length ≤ 3 ∧ l.all rOk = true := by simpa [decOk] using hd
  obtain ⟨S, hS⟩ : ∃ S, jdec l = S := ⟨_, rfl⟩
  rw [hS] at hD hD2 k1 k2 hSl hbt
  have hrf2 := law_ref17 (l := S.map (·.1)) (fun R hR => (k2 R hR).2) (fun R hR => (k2 R hR).1) (by rw [List.length_map]; omega)
  unfold refA at hrf2
  rw [k1, if_pos rfl] at hrf2
  obtain ⟨T, hT⟩ : ∃ T, S.map (fun x => ssort x.2) = T := ⟨_, rfl⟩
  obtain ⟨B, hB⟩ : ∃ B, S.map (·.1) = B := ⟨_, rfl⟩
  have hTl : T.length = S.length := by rw [← hT]; simp
  have hBl : B.length = S.length := by rw [← hB]; simp
  have hTb : ∀ t ∈ T, t.length ≤ 6000 := fun t ht => by
    rw [← hT] at ht
    obtain ⟨x, hx, rfl⟩ := List.mem_map.1 ht
    rw [ssort_len]; exact hbt x hx
  unfold decA at hD
  unfold refDecA at hD2
  rw [hT, hB] at hD hD2
  rw [hB] at hrf2 k2
  simp only [cRads, cTold] at hrf hrt hD hD2 hrf2
  simp -implicitDefEqProofs [Tryz.f3, cRads, hrf, hrt, hD, hD2, hrf2, vmove, isNil]
  obtain ⟨I, hI⟩ : ∃ I : Nat → St → Prop, ∀ k s', I k s' ↔ (∃ e G i, s' = ⟨e, G⟩ ∧ e 5 = .one (.c (cTold T)) ∧ e 8 = .one (.c (cTold T)) ∧ e 9 = .one (.c (cRads B)) ∧ e 10 = .one (.c (cRads B)) ∧ e 74 = vI .i64 T.length ∧ e 75 = vI .i64 (i : Nat) ∧ (i + k = T.length)) := ⟨_, fun _ _ => Iff.rfl⟩
  refine wpL_ind I ?_ T.length _ ((hI _ _).2 ⟨_, _, 0, (by first | rfl | (simp [cRads, cTold]; done) | (simp [cRads, cTold]; rfl) | (simp [cRads, cTold]; and_intros <;> rfl)), by simp [cTold], by simp [cTold], by simp [cRads], by simp [cRads], by simp, by simp, by omega⟩)
  intro k stI hstI
  obtain ⟨e, G, i, rfl, e5, e8, e9, e10, e74, e75, hi⟩ := (hI _ _).1 hstI
  by_cases c : i < T.length
  · have c' : (i : Int) < T.length := by omega
    obtain ⟨t, ht⟩ : ∃ t, T[i] = t := ⟨_, rfl⟩
    have hTi : T[i]? = some t := by rw [List.getElem?_eq_getElem c, ht]
    have hiB : i < B.length := by omega
    obtain ⟨R, hR⟩ : ∃ R, B[i] = R := ⟨_, rfl⟩
    have hBi : B[i]? = some R := by rw [List.getElem?_eq_getElem hiB, hR]
    have hSa := rr_Same (l := t) (m := t) (by have := hTb t (ht ▸ List.getElem_mem c); omega)
    rw [decide_eq_true rfl] at hSa
    have hEq := rr_Equal (A := R) (B := R) (k2 R (hR ▸ List.getElem_mem hiB)).1
    rw [eqRad_iff.2 rfl] at hEq
    have w_i : IntKind.i64.wrap ((i : Int) + 1) = ((i + 1 : Nat) : Int) := by rw [w64_id (by omega) (by omega)]; omega
    simp only [cRad, cRws, cRw, cSs] at hSa hEq
    simp -implicitDefEqProofs [e5, e8, e9, e10, e74, e75, c', hTi, hBi, cTold, cRads, cRad, cRws, cRw, cSs, hSa, hEq, vmove, isNil]
    exact ⟨(k - 1), by omega, (hI _ _).2 ⟨_, _, i + 1, (by first | rfl | (simp [e5, e8, e9, e10, e74, w_i, cTold, cRads, cSs]; done) | (simp [e5, e8, e9, e10, e74, w_i, cTold, cRads, cSs]; rfl) | (simp [e5, e8, e9, e10, e74, w_i, cTold, cRads, cSs]; and_intros <;> rfl)), by simp [e5, w_i, cTold, cSs], by simp [e8, w_i, cTold, cSs], by simp [e9, w_i, cRads], by simp [e10, w_i, cRads], by simp [e74, w_i], by simp [w_i], by omega⟩⟩
  · have c' : ¬ (i : Int) < T.length := by omega
    simp -implicitDefEqProofs [e74, e75, c', hA, vmove, isNil]
end Go.Proofs.YtmgnmnogiajlgaaGreatF
end

section
/- The law: a switch is Decoded just if nothing is left and its equations have one solution. -/
set_option maxRecDepth 8192
set_option maxHeartbeats 2000000
namespace Go.Proofs.YtmgnmnogiajlgaaGreatF
open Go Go.Proofs.Vm

theorem jn_Reports_nil : TV.pu 20 [.one (cRads [])] = some (.tup [(false, [cReps (repF [])]), (false, [.v (.int .i64 0)])]) := by
  refine run20 (by simp) ?_
  have hD := jn_Decode_nil
  simp only [cRads, decA, cTold, List.map_nil] at hD
  have hmk : ∀ nid, vmakeSlice Tryz.prog false nid 65 (vI .i64 0) (vI .i64 0) = some (.one (.sl nid 0 0 0), [.clo [] false], []) := fun nid => by
    rw [vmakeSlice_eq es65 el69, if_pos ⟨by omega, rfl, by decide, by omega⟩]
    simp
  simp -implicitDefEqProofs [Tryz.f20, cRads, vmove, isNil, hD, hmk]
  refine wpL_ind (fun k s' => k = 1 ∧ s' = _) ?_ 1 _ ⟨rfl, rfl⟩
  rintro k st ⟨rfl, rfl⟩
  simp -implicitDefEqProofs [vmove, isNil, cReps, repF]
theorem jn_Reports' {l : List Rad} (hs : ∀ R ∈ l, Seeds R ∧ Lens R) (h : decOk l = true) : TV.pu 20 [.one (cRads l)] = some (.tup [(false, [cReps (repF l)]), (false, [.v (.int .i64 0)])]) := by
  by_cases h0 : l = []
  · subst h0; exact jn_Reports_nil
  · exact jn_Reports hs h0 h
theorem countsF_len (R : Rad) (keys : List ByteArray) : (countsF R keys).2.length ≤ keys.length := by
  unfold countsF
  split
  · simp
  · split
    · simp
    · split
      · simp
      · split
        · simp
        · split
          · simp
          · split
            · simp
            · simp [ctsOf]
theorem law_jreports {l : List Rad} (hs : ∀ R ∈ l, Seeds R ∧ Lens R) (h7 : ∀ R ∈ l, Lens7 R) (hl : l.length < 4611686018427387904) : TV.pu 5 [.one (cRads l)] = some (cB true) := by
  refine run5 (by simp) ?_
  have hA := law_awake17
  have hrf := law_ref17 h7 (fun R hR => (hs R hR).2) hl
  have hrt := law_right17 hs hl
  unfold refA at hrf
  cases hsm : smallL l with
  | false =>
    rw [hsm] at hrf
    simp only [cRads] at hrf
    simp -implicitDefEqProofs [Tryz.f5, cRads, hrf, hA, vmove, isNil]
  | true =>
  rw [hsm, if_pos rfl] at hrf
  cases hd : decOk l with
  | false =>
    rw [hd] at hrt
    have hD := jn_Reports_no hs hl hd
    simp only [cRads] at hrf hrt hD
    simp -implicitDefEqProofs [Tryz.f5, cRads, hrf, hrt, hD, hA, vmove, isNil]
  | true =>
  rw [hd] at hrt
  have hD := jn_Reports' hs hd
  have hD2 := ref_Decode hs hd
  obtain ⟨hJ, hbt⟩ := jdec_ok hs hd
  have hSl := jdec_len l
  have h3 : l.length ≤ 3 ∧ l.all rOk = true := by simpa [decOk] using hd
  have hrp : repF l = List.zipWith rep1 l (jdec l) := rfl
  obtain ⟨S, hS⟩ : ∃ S, jdec l = S := ⟨_, rfl⟩
  rw [hS] at hD2 hJ hbt hSl hrp
  obtain ⟨RP, hRP⟩ : ∃ RP, repF l = RP := ⟨_, rfl⟩
  rw [hRP] at hD hrp
  have hRl : RP.length = l.length := by rw [hrp]; simp [hSl]
  have hRLe : ((RP.length : Int) != (l.length : Int)) = false := by simp [hRl]
  unfold refDecA at hD2
  obtain ⟨T, hT⟩ : ∃ T, S.map (fun x => ssort x.2) = T := ⟨_, rfl⟩
  obtain ⟨B, hB⟩ : ∃ B, S.map (·.1) = B := ⟨_, rfl⟩
  rw [hT, hB] at hD2
  have hTl : T.length = l.length := by rw [← hT]; simp [hSl]
  have hBl : B.length = l.length := by rw [← hB]; simp [hSl]
  simp only [cRads, cTold, cReps] at hrf hrt hD hD2
  simp -implicitDefEqProofs [Tryz.f5, cRads, hrf, hrt, hD, hD2, hRLe, vmove, isNil]
  obtain ⟨I, hI⟩ : ∃ I : Nat → St → Prop, ∀ k s', I k s' ↔ (∃ e G i, s' = ⟨e, G⟩ ∧ e 0 = .one (.c (cRads l)) ∧ e 5 = .one (.c (cReps RP)) ∧ e 7 = .one (.c (cTold T)) ∧ e 8 = .one (.c (cRads B)) ∧ e 54 = vI .i64 RP.length ∧ e 55 = vI .i64 (i : Nat) ∧ (i + k = RP.length)) := ⟨_, fun _ _ => Iff.rfl⟩
  refine wpL_ind I ?_ RP.length _ ((hI _ _).2 ⟨_, _, 0, (by first | rfl | (simp [cRads, cTold, cReps]; done) | (simp [cRads, cTold, cReps]; rfl) | (simp [cRads, cTold, cReps]; and_intros <;> rfl)), by simp [cRads], by simp [cReps], by simp [cTold], by simp [cRads], by simp, by simp, by omega⟩)
  intro k stI hstI
  obtain ⟨e, G, i, rfl, e0, e5, e7, e8, e54, e55, hi⟩ := (hI _ _).1 hstI
  by_cases c : i < RP.length
  rotate_left
  · have c' : ¬ (i : Int) < RP.length := by omega
    simp -implicitDefEqProofs [e54, e55, c', hA, vmove, isNil]
  have c' : (i : Int) < RP.length := by omega
  have hil : i < l.length := by omega
  have hiS : i < S.length := by omega
  obtain ⟨R, hR⟩ : ∃ R, l[i] = R := ⟨_, rfl⟩
  have hli : l[i]? = some R := by rw [List.getElem?_eq_getElem hil, hR]
  have hRm : R ∈ l := hR ▸ List.getElem_mem hil
  obtain ⟨x, hx⟩ : ∃ x, S[i] = x := ⟨_, rfl⟩
  have hSi : S[i]? = some x := by rw [List.getElem?_eq_getElem hiS, hx]
  have hxm : x ∈ S := hx ▸ List.getElem_mem hiS
  obtain ⟨xs, xl, xok⟩ := hJ x hxm
  have hxb := hbt x hxm
  have hTi : T[i]? = some (ssort x.2) := by rw [← hT, List.getElem?_map, hSi]; rfl
  have hBi : B[i]? = some x.1 := by rw [← hB, List.getElem?_map, hSi]; rfl
  have hri : RP[i]? = some (rep1 R x) := by
    rw [List.getElem?_eq_getElem c]
    congr 1
    simp only [hrp, List.getElem_zipWith, hR, hx]
  have hCt := jn_Counts (keys := ssort x.2) (hs R hRm).1 (hs R hRm).2 (by rw [ssort_len]; omega)
  have hEm := rr_Empty (R := x.1) xl
  have hee : emptyB x.1 = !x.1.rows.any (·.any fullC) := by rw [emptyB, xok, Bool.true_and]
  rw [← hee] at hEm
  unfold rep1 at hri
  obtain ⟨er, fl, hcf⟩ : ∃ er fl, countsF R (ssort x.2) = (er, fl) := ⟨_, _, rfl⟩
  obtain ⟨em, hem⟩ : ∃ em, emptyB x.1 = em := ⟨_, rfl⟩
  obtain ⟨so, hso⟩ : ∃ so, ssort x.2 = so := ⟨_, rfl⟩
  rw [hcf] at hCt hri
  rw [hem] at hEm hri
  rw [hso] at hTi hCt
  dsimp only at hri
  have hfl6 : fl.length ≤ 6000 := by
    have : (countsF R (ssort x.2)).2.length ≤ (ssort x.2).length := countsF_len R _
    rw [hcf, ssort_len] at this
    dsimp only at this
    omega
  obtain ⟨R2, hR2⟩ : ∃ R2, x.1 = R2 := ⟨_, rfl⟩
  rw [hR2] at hEm hBi
  have w_i : IntKind.i64.wrap ((i : Int) + 1) = ((i + 1 : Nat) : Int) := by rw [w64_id (by omega) (by omega)]; omega
  simp only [cRad, cRws, cRw, cSs, countsA] at hCt hEm
  by_cases he0 : er = 0 ∧ em = true
  · obtain ⟨rfl, rfl⟩ := he0
    rw [if_pos ⟨rfl, rfl⟩] at hri
    simp only [cCts] at hCt
    simp -implicitDefEqProofs [e0, e5, e7, e8, e54, e55, c', hli, hTi, hBi, hri, cRads, cTold, cReps, cRep, cRad, cRws, cRw, cSs, cCts, hCt, hEm, bin_bne ub4, vmove, isNil]
    obtain ⟨J, hJ⟩ : ∃ J : Nat → St → Prop, ∀ k2 s', J k2 s' ↔ (∃ e G j, s' = ⟨e, G⟩ ∧ e 0 = .one (.c (cRads l)) ∧ e 5 = .one (.c (cReps RP)) ∧ e 7 = .one (.c (cTold T)) ∧ e 8 = .one (.c (cRads B)) ∧ e 54 = vI .i64 RP.length ∧ e 55 = vI .i64 (i : Nat) ∧ e 9 = vI .i64 (i : Nat) ∧ e 10 = .one (.c (cCts fl)) ∧ e 101 = vI .i64 fl.length ∧ e 102 = vI .i64 (j : Nat) ∧ (j + k2 = fl.length)) := ⟨_, fun _ _ => Iff.rfl⟩
    refine wpL_ind J ?_ fl.length _ ((hJ _ _).2 ⟨_, _, 0, (by first | rfl | (simp [e0, e5, e7, e8, e54, e55, cRads, cTold, cReps, cCts, cSs]; done) | (simp [e0, e5, e7, e8, e54, e55, cRads, cTold, cReps, cCts, cSs]; rfl) | (simp [e0, e5, e7, e8, e54, e55, cRads, cTold, cReps, cCts, cSs]; and_intros <;> rfl)), by simp [e0, cRads], by simp [e5, cReps], by simp [e7, cTold, cSs], by simp [e8, cRads], by simp [e54], by simp [e55], by simp, by simp [cCts], by simp, by simp, by omega⟩)
    clear e0 e5 e7 e8 e54 e55
    intro k2 stJ hstJ
    obtain ⟨e, G, j, rfl, e0, e5, e7, e8, e54, e55, e9, e10, e101, e102, hj⟩ := (hJ _ _).1 hstJ
    by_cases cj : j < fl.length
    · have cj' : (j : Int) < fl.length := by omega
      obtain ⟨y1, y2, y3, hy⟩ : ∃ y1 y2 y3, fl[j] = (y1, y2, y3) := ⟨_, _, _, rfl⟩
      have hfj : fl[j]? = some (y1, y2, y3) := by rw [List.getElem?_eq_getElem cj, hy]
      have w_j : IntKind.i64.wrap ((j : Int) + 1) = ((j + 1 : Nat) : Int) := by rw [w64_id (by omega) (by omega)]; omega
      simp -implicitDefEqProofs [e5, e9, e10, e101, e102, cj', hri, hfj, cReps, cRep, cCts, cCt, ct_bin, vmove, isNil]
      exact ⟨(k2 - 1), by omega, (hJ _ _).2 ⟨_, _, j + 1, (by first | rfl | (simp [e0, e5, e7, e8, e54, e55, e9, e10, e101, w_j, cRads, cTold, cReps, cCts, cSs]; done) | (simp [e0, e5, e7, e8, e54, e55, e9, e10, e101, w_j, cRads, cTold, cReps, cCts, cSs]; rfl) | (simp [e0, e5, e7, e8, e54, e55, e9, e10, e101, w_j, cRads, cTold, cReps, cCts, cSs]; and_intros <;> rfl)), by simp [e0, w_j, cRads], by simp [e5, w_j, cReps], by simp [e7, w_j, cTold, cSs], by simp [e8, w_j, cRads], by simp [e54, w_j], by simp [e55, w_j], by simp [e9, w_j], by simp [e10, w_j, cCts], by simp [e101, w_j], by simp [w_j], by omega⟩⟩
    · have cj' : ¬ (j : Int) < fl.length := by omega
      simp -implicitDefEqProofs [e55, e101, e102, cj', vmove, isNil]
      exact ⟨(k - 1), by omega, (hI _ _).2 ⟨_, _, i + 1, (by first | rfl | (simp [e0, e5, e7, e8, e54, w_i, cRads, cTold, cReps, cSs]; done) | (simp [e0, e5, e7, e8, e54, w_i, cRads, cTold, cReps, cSs]; rfl) | (simp [e0, e5, e7, e8, e54, w_i, cRads, cTold, cReps, cSs]; and_intros <;> rfl)), by simp [e0, w_i, cRads], by simp [e5, w_i, cReps], by simp [e7, w_i, cTold, cSs], by simp [e8, w_i, cRads], by simp [e54, w_i], by simp [w_i], by omega⟩⟩
  · rw [if_neg he0] at hri
    simp only [cCts] at hCt
    by_cases hz : er = 0
    · have hef : em = false := by cases em with | false => rfl | true => exact absurd ⟨hz, rfl⟩ he0
      subst hef hz
      simp -implicitDefEqProofs [e0, e5, e7, e8, e54, e55, c', hli, hTi, hBi, hri, cRads, cTold, cReps, cRep, cRad, cRws, cRw, cSs, cCts, hCt, hEm, bin_bne ub4, vmove, isNil]
      refine wpL_ind (fun k s' => k = 1 ∧ s' = _) ?_ 1 _ ⟨rfl, rfl⟩
      rintro k4 st ⟨rfl, rfl⟩
      simp -implicitDefEqProofs [e55, vmove, isNil]
      exact ⟨(k - 1), by omega, (hI _ _).2 ⟨_, _, i + 1, (by first | rfl | (simp [e0, e5, e7, e8, e54, w_i, cRads, cTold, cReps, cSs]; done) | (simp [e0, e5, e7, e8, e54, w_i, cRads, cTold, cReps, cSs]; rfl) | (simp [e0, e5, e7, e8, e54, w_i, cRads, cTold, cReps, cSs]; and_intros <;> rfl)), by simp [e0, w_i, cRads], by simp [e5, w_i, cReps], by simp [e7, w_i, cTold, cSs], by simp [e8, w_i, cRads], by simp [e54, w_i], by simp [w_i], by omega⟩⟩
    · simp -implicitDefEqProofs [e0, e5, e7, e54, e55, c', hli, hTi, hri, cRads, cTold, cReps, cRep, cRad, cRws, cRw, cSs, cCts, hCt, hz, bin_bne ub4, vmove, isNil]
      refine wpL_ind (fun k s' => k = 1 ∧ s' = _) ?_ 1 _ ⟨rfl, rfl⟩
      rintro k4 st ⟨rfl, rfl⟩
      simp -implicitDefEqProofs [e55, vmove, isNil]
      exact ⟨(k - 1), by omega, (hI _ _).2 ⟨_, _, i + 1, (by first | rfl | (simp [e0, e5, e7, e8, e54, w_i, cRads, cTold, cReps, cSs]; done) | (simp [e0, e5, e7, e8, e54, w_i, cRads, cTold, cReps, cSs]; rfl) | (simp [e0, e5, e7, e8, e54, w_i, cRads, cTold, cReps, cSs]; and_intros <;> rfl)), by simp [e0, w_i, cRads], by simp [e5, w_i, cReps], by simp [e7, w_i, cTold, cSs], by simp [e8, w_i, cRads], by simp [e54, w_i], by simp [w_i], by omega⟩⟩
end Go.Proofs.YtmgnmnogiajlgaaGreatF
end

section
/- How data of these laws open as closed values. -/
namespace Go.Proofs.YtmgnmnogiajlgaaGreatF
open Go Go.Proofs.Vm

theorem isI_one {k : IntKind} {l : List CV} (h : isI k l) : ∃ n, l = [.v (.int k n)] ∧ k.min ≤ n ∧ n ≤ k.max := by
  obtain ⟨n, hx, hw⟩ := h
  simp only [Lit.wf, Bool.and_eq_true, decide_eq_true_eq] at hw
  exact ⟨n, hx, hw⟩
theorem u64_good {l : List CV} (h : isI .u64 l) : ∃ n, l = [.v (.int .u64 n)] ∧ 0 ≤ n ∧ n < 18446744073709551616 := by
  obtain ⟨n, rfl, h1, h2⟩ := isI_one h
  have e1 : IntKind.u64.min = 0 := rfl
  have e2 : IntKind.u64.max = 18446744073709551615 := rfl
  exact ⟨n, rfl, by omega, by omega⟩
theorem i64_good {l : List CV} (h : isI .i64 l) : ∃ n, l = [.v (.int .i64 n)] ∧ -9223372036854775808 ≤ n ∧ n < 9223372036854775808 := by
  obtain ⟨n, rfl, h1, h2⟩ := isI_one h
  have e1 : IntKind.i64.min = -9223372036854775808 := rfl
  have e2 : IntKind.i64.max = 9223372036854775807 := rfl
  exact ⟨n, rfl, by omega, by omega⟩
theorem bools_good {l : List CV} (h : good38 l) : ∃ b : List Bool, l = [.arr (b.map cB1)] ∧ b.length ≤ 140737488351232 := by
  obtain ⟨L, rfl, hg, hw⟩ := h
  obtain ⟨b, rfl, _⟩ := map_of (f := cB1) (g := fun _ => True) fun e he => by obtain ⟨x, hx⟩ := (hg e he).2; exact ⟨x, hx, trivial⟩
  rw [List.length_map] at hw
  exact ⟨b, rfl, by omega⟩
theorem cell_good {l : List CV} (h : good72 l) : ∃ c : RCl, l = cCl c := by
  obtain ⟨_, _, rfl, ⟨s, rfl, _⟩, _, _, rfl, h1, _, _, rfl, h2, h3⟩ := h
  obtain ⟨a, rfl, _⟩ := i64_good h1
  obtain ⟨b, rfl, _⟩ := i64_good h2
  obtain ⟨c, rfl, _⟩ := i64_good h3
  exact ⟨(s, a, b, c), rfl⟩
theorem row_good {l : List CV} (h : good70 l) : ∃ r : List RCl, l = [cRw r] ∧ r.length * 40 ≤ 140737488351232 := by
  obtain ⟨L, rfl, hg, hw⟩ := h
  obtain ⟨b, rfl, _⟩ := map_of (f := cCl) (g := fun _ => True) fun e he => by obtain ⟨x, hx⟩ := cell_good (hg e he).2; exact ⟨x, hx, trivial⟩
  rw [List.length_map] at hw
  exact ⟨b, rfl, hw⟩
theorem rad_good {l : List CV} (h : good48 l) : ∃ R : Rad, l = cRad R ∧ Seeds R ∧ Lens R ∧ Lens7 R := by
  obtain ⟨_, _, rfl, h1, _, _, rfl, ⟨_, _, rfl, h2, _, _, rfl, h3, h4⟩, L, rfl, hg, hw⟩ := h
  obtain ⟨s, rfl, s0, s1⟩ := u64_good h1
  obtain ⟨fs, rfl, s2, s3⟩ := u64_good h2
  obtain ⟨hh, rfl, _⟩ := i64_good h3
  obtain ⟨b, rfl, hb⟩ := bools_good h4
  obtain ⟨rows, rfl, hr⟩ := map_of (f := fun r : List RCl => [cRw r]) (g := fun r => r.length * 40 ≤ 140737488351232) fun e he => by
    obtain ⟨x, hx, h⟩ := row_good (hg e he).2
    exact ⟨x, hx, h⟩
  rw [List.length_map] at hw
  refine ⟨⟨s, fs, hh, b, rows⟩, rfl, ⟨s0, s1, s2, s3⟩, ⟨?_, fun x hx => ?_, ?_⟩, ?_, fun x hx => ?_⟩
  · show rows.length < _; omega
  · have := hr x hx; omega
  · show b.length < _; omega
  · show 24 * rows.length ≤ _; omega
  · have := hr x hx; omega
theorem cv_one {x y : CV} (h : [x] = [y]) : x = y := by cases h; rfl
end Go.Proofs.YtmgnmnogiajlgaaGreatF
end

section
/- The laws of all data: what is told, and when it is all. -/
namespace Go.Proofs.YtmgnmnogiajlgaaGreatF
open Go Go.Proofs.Vm

theorem rads_good {l : List CV} (h : good22 l) : ∃ L : List Rad, l = [cRads L] ∧ (∀ R ∈ L, Seeds R ∧ Lens R ∧ Lens7 R) ∧ L.length < 4611686018427387904 := by
  obtain ⟨L, rfl, hg, hw⟩ := h
  obtain ⟨b, rfl, hb⟩ := map_of (f := cRad) (g := fun R => Seeds R ∧ Lens R ∧ Lens7 R) fun e he => by
    obtain ⟨R, hx, h⟩ := rad_good (hg e he).2
    exact ⟨R, hx, h⟩
  rw [List.length_map] at hw
  exact ⟨b, rfl, hb, by omega⟩
theorem lawJointDecodes_all : ∀ l, goodsJointDecodes l → TV.pu 3 l = some (cB true) := by
  rintro l ⟨a, r, rfl, ⟨x, rfl, h1⟩, rfl⟩
  obtain ⟨L, hx, hs, hl⟩ := rads_good h1
  obtain rfl := cv_one hx
  exact law_jdecodes (fun R hR => ⟨(hs R hR).1, (hs R hR).2.1⟩) (fun R hR => (hs R hR).2.2) hl
theorem lawJointReports_all : ∀ l, goodsJointReports l → TV.pu 5 l = some (cB true) := by
  rintro l ⟨a, r, rfl, ⟨x, rfl, h1⟩, rfl⟩
  obtain ⟨L, hx, hs, hl⟩ := rads_good h1
  obtain rfl := cv_one hx
  exact law_jreports (fun R hR => ⟨(hs R hR).1, (hs R hR).2.1⟩) (fun R hR => (hs R hR).2.2) hl
end Go.Proofs.YtmgnmnogiajlgaaGreatF
end
