/- A logic of abstract states for the program and what its functions come to: texts 15n, 15o, 15p, 16, 17, 18, 19, 20. -/
import Derived.Test.YtcpgcenlgihmnaaU2
import Derived.Laws.IdiomRangeMap
import Derived.Laws.StructEq
/- Maps whose values are rows of their own: a row is taken out, is put in. -/
set_option linter.unusedVariables false
set_option linter.unusedSimpArgs false
namespace Go.Proofs.Ytcpgcenlgihmnaa.Abs
open Go

section
variable {F : Fr} {S : Nat → Prop} {γ : Nat → GV} {T : Nat → Option LV} {H : Nat → Option Res} {tm : Array Value} {w : World}

/-- Two keys are told otherwise, no block of others is touched. -/
theorem ModF.turn2 (M : ModF F S γ T H tm w) {w' : World} (k d : Nat) (hkd : k ≠ d) (r rk rd : Res) (gk gd : GV) (hk : H k = some r) (hn : r ≠ .dead) (hl : Like r rk) (hs : gk.Same (γ k))
    (hd : H d = none ∨ ∃ r0, H d = some r0 ∧ r0 ≠ .dead ∧ Like r0 rd ∧ rd = .dead)
    (hsz : w'.heap.size = w.heap.size) (ho : w'.os = w.os) (ht : w'.tape = w.tape) (hu : w'.output = w.output ∧ w.drawn ≤ w'.drawn)
    (b : Nat) (hb : (γ k).has b) (hoth : ∀ c, c ≠ b → w'.heap[c]? = w.heap[c]?)
    (hf : ∀ c, (rk ≠ .dead ∧ gk.has c) ∨ (rd ≠ .dead ∧ gd.has c) → (γ k).has c ∨ (∃ r0, H d = some r0 ∧ r0 ≠ .dead ∧ (γ d).has c))
    (hdis : ∀ c, rk ≠ .dead → rd ≠ .dead → gk.has c → ¬ gd.has c)
    (hrk : RepR w' S (updG (updG γ d gd) k gk) (upd1 (upd1 H d rd) k rk) k rk) (hrd : RepR w' S (updG (updG γ d gd) k gk) (upd1 (upd1 H d rd) k rk) d rd) :
    ModF F S (updG (updG γ d gd) k gk) T (upd1 (upd1 H d rd) k rk) tm w' := by
  have g1 : updG (updG γ d gd) k gk k = gk := by simp [updG]
  have g2 : updG (updG γ d gd) k gk d = gd := by simp [updG, hkd]
  have g3 : ∀ {j}, k ≠ j → d ≠ j → updG (updG γ d gd) k gk j = γ j := fun h1 h2 => by simp [updG, h1, h2]
  have e1 : upd1 (upd1 H d rd) k rk k = some rk := by simp [upd1]
  have e2 : upd1 (upd1 H d rd) k rk d = some rd := by simp [upd1, hkd]
  have e3 : ∀ {j}, k ≠ j → d ≠ j → upd1 (upd1 H d rd) k rk j = H j := fun h1 h2 => by simp [upd1, h1, h2]
  have kp : Keeps γ (updG (updG γ d gd) k gk) H (upd1 (upd1 H d rd) k rk) := ⟨fun j r1 h => by
    by_cases h1 : k = j
    · subst h1
      rw [hk] at h
      cases h
      exact ⟨rk, e1, hl, fun _ => by rw [g1]; exact hs⟩
    · by_cases h2 : d = j
      · subst h2
        rcases hd with hd | ⟨r0, hd, hd1, hd2, hd3⟩
        · rw [hd] at h; cases h
        · rw [hd] at h
          cases h
          exact ⟨rd, e2, hd2, fun h => (h hd3).elim⟩
      · exact ⟨r1, by rw [e3 h1 h2, h], Like.refl r1, fun _ => .of_eq (g3 h1 h2)⟩⟩
  -- the footprint of a key: an old one's
  have old : ∀ {j r1 c}, upd1 (upd1 H d rd) k rk j = some r1 → r1 ≠ .dead → (updG (updG γ d gd) k gk j).has c → ∃ j' r2, H j' = some r2 ∧ r2 ≠ .dead ∧ (γ j').has c ∧ ((k ≠ j ∧ d ≠ j ∧ j' = j) ∨ ((k = j ∨ d = j) ∧ (j' = k ∨ j' = d))) := fun {j r1 c} h h1 h2 => by
    by_cases a1 : k = j
    · subst a1
      rw [e1] at h
      cases h
      rw [g1] at h2
      rcases hf c (.inl ⟨h1, h2⟩) with h3 | ⟨r0, h3, h4, h5⟩
      · exact ⟨k, r, hk, hn, h3, .inr ⟨.inl rfl, .inl rfl⟩⟩
      · exact ⟨d, r0, h3, h4, h5, .inr ⟨.inl rfl, .inr rfl⟩⟩
    · by_cases a2 : d = j
      · subst a2
        rw [e2] at h
        cases h
        rw [g2] at h2
        rcases hf c (.inr ⟨h1, h2⟩) with h3 | ⟨r0, h3, h4, h5⟩
        · exact ⟨k, r, hk, hn, h3, .inr ⟨.inr rfl, .inl rfl⟩⟩
        · exact ⟨d, r0, h3, h4, h5, .inr ⟨.inr rfl, .inr rfl⟩⟩
      · rw [e3 a1 a2] at h
        rw [g3 a1 a2] at h2
        exact ⟨j, r1, h, h1, h2, .inl ⟨a1, a2, rfl⟩⟩
  refine M.step (E := fun c => c = b) ⟨ho, ht, hu, by omega, fun c _ hc => hoth c hc, fun _ h => h, fun c hc => ⟨by have := M.stay c hc; omega, .inl hc⟩⟩ (fun c hc => by subst hc; exact ⟨M.ownH hk hn hb, M.noH hk hn hb⟩) kp ⟨fun j r1 _ h => ?_, fun j r1 c _ h h1 hc => ?_, fun j1 j2 r1 r2 c _ _ h1 h2 hn1 hn2 hne hc hc' => ?_⟩ ?_
  · by_cases a1 : k = j
    · subst a1; rw [e1] at h; cases h; exact hrk
    · by_cases a2 : d = j
      · subst a2; rw [e2] at h; cases h; exact hrd
      · rw [e3 a1 a2] at h
        exact (M.own.rep j r1 trivial h).mono (fun _ h => h) (fun c hc => hoth c (by rintro rfl; exact M.noH hk hn hb hc)) kp (g3 a1 a2)
          (fun c hn1 hc => hoth c (by rintro rfl; exact M.own.apart k j r r1 c trivial trivial hk h hn hn1 a1 hb hc))
  · obtain ⟨j', r2, k1, k2, k3, _⟩ := old h h1 hc
    exact ⟨by have := M.ltH k1 k2 k3; omega, M.noH k1 k2 k3⟩
  · obtain ⟨i1, q1, k1, k2, k3, k4⟩ := old h1 hn1 hc
    obtain ⟨i2, q2, l1, l2, l3, l4⟩ := old h2 hn2 hc'
    by_cases hii : i1 = i2
    · -- both from k, d: then they are k and d
      rcases k4 with ⟨a1, a2, rfl⟩ | ⟨a1, a2⟩
      · rcases l4 with ⟨b1, b2, rfl⟩ | ⟨b1, b2⟩
        · exact hne hii
        · rcases b2 with b2 | b2
          · exact a1 (by rw [hii, b2])
          · exact a2 (by rw [hii, b2])
      · rcases l4 with ⟨b1, b2, rfl⟩ | ⟨b1, b2⟩
        · rcases a2 with a2 | a2
          · exact b1 (by rw [← hii, a2])
          · exact b2 (by rw [← hii, a2])
        · rcases a1 with rfl | rfl
          · rcases b1 with rfl | rfl
            · exact hne rfl
            · rw [e1] at h1; rw [e2] at h2; cases h1; cases h2
              rw [g1] at hc; rw [g2] at hc'
              exact hdis c hn1 hn2 hc hc'
          · rcases b1 with rfl | rfl
            · rw [e2] at h1; rw [e1] at h2; cases h1; cases h2
              rw [g2] at hc; rw [g1] at hc'
              exact hdis c hn2 hn1 hc' hc
            · exact hne rfl
    · exact M.own.apart i1 i2 q1 q2 c trivial trivial k1 l1 k2 l2 hii k3 l3
  · rintro c ⟨j, r1, _, h, h1, hc⟩
    obtain ⟨j', r2, k1, k2, k3, _⟩ := old h h1 hc
    exact M.ownH k1 k2 k3
end

section
variable {P : Program} {o : Oper} {T : Nat → Option LV} {H : Nat → Option Res} {tab : Tab}

theorem perm_split' {α : Type} {m0 : List α} {i : Nat} {x y : α} (hx : m0[i]? = some x) : m0.Perm (x :: m0.eraseIdx i) ∧ (m0.set i y).Perm (y :: m0.eraseIdx i) := by
  induction m0 generalizing i with
  | nil => simp at hx
  | cons z m0 ih =>
    cases i with
    | zero => simp at hx; subst hx; exact ⟨.refl _, .refl _⟩
    | succ i =>
      obtain ⟨h1, h2⟩ := ih (i := i) (by simpa using hx)
      exact ⟨(h1.cons z).trans (.swap _ _ _), (h2.cons z).trans (.swap _ _ _)⟩
/-- The same key, the same rest. -/
theorem perm_key {β : Type} {m m0 m2 : List (List AV × β)} {i : Nat} {kc : List AV} {v : β} {x : List AV × β} (hp : m0.Perm m) (hn : (m0.map (·.1)).Nodup) (hx : m0[i]? = some x) (hxk : x.1 = kc) (h : m.Perm ((kc, v) :: m2)) : x = (kc, v) ∧ (m0.eraseIdx i).Perm m2 := by
  obtain ⟨p1, _⟩ := perm_split' (y := x) hx
  have hv : (kc, v) = x := by
    have hmem0 : (kc, v) ∈ m0 := hp.mem_iff.2 (h.mem_iff.2 (by simp))
    rcases List.mem_cons.1 (p1.mem_iff.1 hmem0) with h | h
    · exact h
    · exfalso
      have hn' := (p1.map (·.1)).nodup_iff.1 hn
      simp only [List.map_cons, List.nodup_cons] at hn'
      exact hn'.1 (by rw [hxk]; exact List.mem_map.2 ⟨_, h, rfl⟩)
  refine ⟨hv.symm, ?_⟩
  rw [← hv] at p1
  exact (p1.symm.trans (hp.trans h)).cons_inv

/-- The keys of a map of rows. -/
theorem entsO {S : Nat → Prop} {w : World} {sg : List KD} {m m0 : List (List AV × Option (List (List AV)))} {es : Array MapEntry} {R : MapEntry → List AV × Option (List (List AV)) → Prop} (hp : List.Perm m0 m) (hall : ∀ x ∈ m, kfit sg x.1 = true)
    (hk : ∀ (i : Nat) (e : MapEntry) (x : List AV × Option (List (List AV))), es[i]? = some e → m0[i]? = some x → CR (Rep w S) e.key x.1 ∧ R e x) :
    ∀ (i : Nat) (e : MapEntry) (x : List AV × List AV), es.toList[i]? = some e → (m0.map fun x => (x.1, ([] : List AV)))[i]? = some x → e.key = kval x.1 ∧ kfit sg x.1 = true := fun i e x he hx => by
  rw [List.getElem?_map] at hx
  cases h0 : m0[i]? with
  | none => rw [h0] at hx; cases hx
  | some y =>
    rw [h0] at hx
    cases hx
    have hf := hall y (hp.mem_iff.1 (List.mem_of_getElem? h0))
    exact ⟨(hk i e y (by simpa using he) h0).1.kv hf, hf⟩

theorem updH_kd (H : Nat → Option Res) {k d : Nat} (h : k ≠ d) (rk rd : Res) : updH [(d, rd), (k, rk)] H = upd1 (upd1 H d rd) k rk := by funext n; simp [updH, upd1]
theorem updH_dk (H : Nat → Option Res) {k d : Nat} (h : k ≠ d) (rk rd : Res) : updH [(k, rk), (d, rd)] H = upd1 (upd1 H d rd) k rk := by
  funext n
  simp only [updH, upd1]
  by_cases h1 : d = n
  · subst h1; simp [h]
  · simp [h1]

theorem ok_take (ht : TabOk P tab) {t kt vt e d k es : Nat} {x y : Operand} {ti tk te : TI} {ly : LV} {m m1 : List (List AV × Option (List (List AV)))} {cs : List LV} {kc : List AV} {xs : List (List AV)} {sg : List KD} {tl : List Nat} (hdst : o.dst = some d) (ho : o.op = .lookup t x y false) (hi : lkO tab t = some ti) (hd : ti.d = .mp kt vt) (hik : lkO tab kt = some tk) (hie : lkO tab vt = some te) (hte : te.d = .sl e) (htz : te.zero = [.nl])
    (hx : evF T x = some (.mr k)) (hk0 : H k = some (.mo es m)) (hy : evF T y = some ly) (hc : kvO ly = some cs) (ha : toAVsO tab H tk.cells cs = some (kc, [])) (hk : KeyOk P kt sg) (hf : kfit sg kc = true) (hall : ∀ x ∈ m, kfit sg x.1 = true) (hr : TakeR m kc xs m1) (hH : H d = none) :
    OpOk P o T H ⟨.rw d xs.length, [(d, .row es xs), (k, .mo es m1)], tl⟩ := by
  intro F S γ a w next Q hdst' M hnext
  have hkd : k ≠ d := by rintro rfl; rw [hk0] at hH; cases hH
  have hm := M.eval hx
  generalize he : a.eval x = v at hm
  cases hm with
  | dmr _ _ h => rw [hk0] at h; cases h
  | mr _ _ _ h => rw [hk0] at h; cases h
  | mo _ b _ _ h hb =>
    rw [hk0] at h
    cases h
    obtain ⟨b', hb', hnm, m0, ents, clock, h1, h2, h3, h4, h5, h6, h7⟩ := M.own.rep k _ trivial hk0
    rw [hb] at hb'
    cases hb'
    have hkey := (toAVsO_nil M (M.eval hy) hc ha).kv hf
    obtain ⟨i, z, hti⟩ := tif (ht _ _ hi)
    have hund := hti.d
    rw [hd] at hund
    have hund := mp_of hund
    obtain ⟨ie, ze, htie⟩ := tif (ht _ _ hie)
    have hz : ze = .slice none 0 0 := by
      have := zero_rep htie (ht _ _ hie) (l := .nl) (by simp [zeroO, wrapO, hte, aggD, htz]) w S γ H
      cases this
      rfl
    subst hz
    obtain ⟨fr, hfr, hF⟩ := run_findKey (w := w) hk hf ents.toList (m0.map fun x => (x.1, ([] : List AV))) (by simpa using h3) (entsO (R := fun _ _ => True) h1 hall fun i e x he hx => ⟨(h6 i e x he hx).1, trivial⟩)
    have hck := hk.chk ents.isEmpty w kc hf
    rcases hF with ⟨rfl, hno⟩ | ⟨j, e0, x', rfl, hej, hx', hxk⟩
    · have hrun : (execOp a.eval o).run P w = .ok (.value (.slice none 0 0)) w := by
        simp [execOp, ho, he, hkey, Instr.lookup, run_und hund, MapKept.run_getObj_map h2, hck, hfr, run_zero htie.info htie.zero]
      rcases hr with ⟨m2, hp, _⟩ | ⟨rfl, rfl, _⟩
      · exact (hno (kc, []) (List.mem_map.2 ⟨(kc, some xs), h1.mem_iff.2 (hp.mem_iff.2 (by simp)), rfl⟩) rfl).elim
      · have M' := M.newNil d es hH
        simp only [Oper.wp, hrun, Oper.upon]
        refine hnext S (updG γ d (gv none 0)) _ _ (by cases o.dst <;> rfl) ?_
        have e : updH [(d, .row es []), (k, .mo es m1)] H = upd1 H d (.row es []) := by
          funext n
          simp only [updH, upd1]
          by_cases h : k = n
          · subst h; simp [hk0, Ne.symm hkd]
          · simp [h]
        rw [e]
        refine M'.put o.dst hdst' ?_
        have := RepL.rw (w := w) (S := S) (γ := updG γ d (gv none 0)) (H := upd1 H d (.row es [])) d 0 es [] (by simp [upd1]) (by simp) (by simp) (by omega)
        simpa [updG] using this
    · have hes : ents[j]? = some e0 := by simpa using hej
      rw [List.getElem?_map] at hx'
      cases hm0 : m0[j]? with
      | none => rw [hm0] at hx'; cases hx'
      | some y0 =>
        rw [hm0] at hx'
        cases hx'
        have hxk : y0.1 = kc := hxk
        have hrun : (execOp a.eval o).run P w = .ok (.value e0.val) w := by
          simp [execOp, ho, he, hkey, Instr.lookup, run_und hund, MapKept.run_getObj_map h2, hck, hfr]
        rcases hr with ⟨m2, hp, rfl⟩ | ⟨_, _, hno⟩
        · obtain ⟨rfl, hp2⟩ := perm_key h1 h4 hm0 hxk hp
          have hjl := (List.getElem?_eq_some_iff.1 hm0).1
          obtain ⟨hcr, hrow⟩ := h6 j e0 _ hes hm0
          have hrow := hrow xs rfl
          have hlen := hrow.1
          -- the row's own block
          have hgd : ∃ gd : GV, (∀ c, gd.has c ↔ blkOf e0.val = some c) ∧ (∀ c, blkOf e0.val = some c → (γ k).more c) ∧ (∀ H' : Nat → Option Res, ∀ γ' : Nat → GV, γ' d = gd → RepR w S γ' H' d (.row es xs) ∧ (H' d = some (.row es xs) → RepL w S γ' H' e0.val (.rw d xs.length))) := by
            rcases hrow.2 with ⟨h, rfl⟩ | ⟨bl, c, arr, ty, h, g1, g2, g3, g4, g5⟩
            · refine ⟨gv none 0, fun c => by simp [h, blkOf], fun (c : Nat) (hc : blkOf e0.val = some c) => (by rw [h] at hc; cases hc), fun H' γ' hg => ⟨⟨hlen, .inl (by simp [hg])⟩, fun hH' => ?_⟩⟩
              rw [h]
              have := RepL.rw (w := w) (S := S) (γ := γ') (H := H') d 0 es [] hH' (by simp) (by simp) (by omega)
              simpa [hg] using this
            · refine ⟨gv (some bl) c, fun c' => by simp [h, blkOf], fun c' hc => by rw [h] at hc; simp [blkOf] at hc; subst hc; exact g1, fun H' γ' hg => ⟨⟨hlen, .inr ⟨bl, arr, ty, by simp [hg], g2, by simp [hg, g3], by simpa [hg] using g4, g5⟩⟩, fun hH' => ?_⟩⟩
              rw [h]
              have := RepL.rw (w := w) (S := S) (γ := γ') (H := H') d xs.length es xs hH' (Nat.le_refl _) (by simpa [hg] using g4) (fun _ => ⟨bl, by simp [hg]⟩)
              simpa [hg] using this
          obtain ⟨gd, q1, q2, q3⟩ := hgd
          let gk : GV := ⟨(γ k).blk, (γ k).cap, fun n => (γ k).more n ∧ blkOf e0.val ≠ some n⟩
          have hget : ∀ (i : Nat) (x : List AV × Option (List (List AV))), (m0.set j (kc, none))[i]? = some x → (i = j ∧ x = (kc, none)) ∨ (i ≠ j ∧ m0[i]? = some x) := fun i x hx => by
            rw [List.getElem?_set] at hx
            by_cases hij : j = i
            · subst hij; rw [if_pos rfl, if_pos hjl] at hx; cases hx; exact .inl ⟨rfl, rfl⟩
            · rw [if_neg hij] at hx; exact .inr ⟨Ne.symm hij, hx⟩
          have hkeys : (m0.set j (kc, none)).map (·.1) = m0.map (·.1) := by
            rw [List.map_set]
            apply List.ext_getElem?
            intro q
            rw [List.getElem?_set]
            split
            · rename_i hq
              subst hq
              rw [if_pos (by simpa using hjl), List.getElem?_map, hm0]
              simp
            · rfl
          have gk1 : updG (updG γ d gd) k gk k = gk := by simp [updG]
          have gd1 : updG (updG γ d gd) k gk d = gd := by simp [updG, hkd]
          have hd1 : upd1 (upd1 H d (.row es xs)) k (.mo es ((kc, none) :: m2)) d = some (.row es xs) := by simp [upd1, hkd]
          have hrk : RepR w S (updG (updG γ d gd) k gk) (upd1 (upd1 H d (.row es xs)) k (.mo es ((kc, none) :: m2))) k (.mo es ((kc, none) :: m2)) := by
            refine ⟨b, by rw [gk1]; exact hb, by rw [gk1]; exact fun h => hnm h.1, ?_⟩
            rw [gk1]
            refine ⟨m0.set j (kc, none), ents, clock, (perm_split' hm0).2.trans (hp2.cons _), h2, by simpa using h3, by rw [hkeys]; exact h4, h5, fun i e x hei hxi => ?_, fun i i' e e' x x' c hne hei hei' hxi hxi' hn1 hn2 hb1 => ?_⟩
            · rcases hget i x hxi with ⟨rfl, rfl⟩ | ⟨hij, hxi⟩
              · rw [hes] at hei
                cases hei
                exact ⟨hcr, fun xs h => by cases h⟩
              · obtain ⟨g1, g2⟩ := h6 i e x hei hxi
                refine ⟨g1, fun ys hys => (g2 ys hys).mono (fun _ h => h) (fun _ _ => rfl) fun c hc hm => ⟨⟨hm, fun h => ?_⟩, rfl⟩⟩
                exact h7 i j e e0 x _ c hij hei hes hxi hm0 (by rw [hys]; simp) (by simp) hc h
            · rcases hget i x hxi with ⟨rfl, rfl⟩ | ⟨hij, hxi⟩
              · exact (hn1 rfl).elim
              · rcases hget i' x' hxi' with ⟨rfl, rfl⟩ | ⟨hij', hxi'⟩
                · exact (hn2 rfl).elim
                · exact h7 i i' e e' x x' c hne hei hei' hxi hxi' hn1 hn2 hb1
          have M' := M.turn2 (w' := w) k d hkd _ (.mo es ((kc, none) :: m2)) (.row es xs) gk gd hk0 (by simp) (by simp [Like]) ⟨rfl, rfl⟩ (.inl hH) rfl rfl rfl ⟨rfl, Nat.le_refl _⟩ b (.inl hb) (fun _ _ => rfl)
            (fun c hc => by
              rcases hc with ⟨_, hc | hc⟩ | ⟨_, hc⟩
              · exact .inl (.inl hc)
              · exact .inl (.inr hc.1)
              · exact .inl (.inr (q2 c ((q1 c).1 hc))))
            (fun c _ _ hc hc' => by
              have := (q1 c).1 hc'
              rcases hc with hc | hc
              · rw [show (γ k).blk = some c from hc] at hb
                cases hb
                exact hnm (q2 _ this)
              · exact hc.2 this) hrk (q3 _ _ gd1).1
          simp only [Oper.wp, hrun, Oper.upon]
          refine hnext S (updG (updG γ d gd) k gk) _ _ (by cases o.dst <;> rfl) ?_
          rw [updH_kd H hkd]
          exact M'.put o.dst hdst' ((q3 _ _ gd1).2 hd1)
        · exact (hno y0 (h1.mem_iff.1 (List.mem_of_getElem? hm0)) hxk).elim

theorem ok_put (ht : TabOk P tab) {t kt vt k d es n : Nat} {x y u : Operand} {ti tk te : TI} {ly : LV} {m m2 : List (List AV × Option (List (List AV)))} {cs : List LV} {kc : List AV} {xs : List (List AV)} {tl : List Nat} {sg : List KD} (hdst : o.dst = none) (ho : o.op = .mapUpdate t x y u) (hi : lkO tab t = some ti) (hd : ti.d = .mp kt vt) (hik : lkO tab kt = some tk)
    (hx : evF T x = some (.mr k)) (hk0 : H k = some (.mo es m)) (hy : evF T y = some ly) (hu : evF T u = some (.rw d n)) (hd0 : H d = some (.row es xs)) (hnx : n = xs.length) (hc : kvO ly = some cs) (ha : toAVsO tab H tk.cells cs = some (kc, []))
    (hk : KeyOk P kt sg) (hf : kfit sg kc = true) (hall : ∀ x ∈ m, kfit sg x.1 = true) (hr : PutR m kc m2) : OpOk P o T H ⟨.un, [(k, .mo es ((kc, some xs) :: m2)), (d, .dead)], tl⟩ := by
  intro F S γ a w next Q hdst' M hnext
  have hkd : k ≠ d := by rintro rfl; rw [hk0] at hd0; cases hd0
  have hm := M.eval hx
  generalize he : a.eval x = v at hm
  cases hm with
  | dmr _ _ h => rw [hk0] at h; cases h
  | mr _ _ _ h => rw [hk0] at h; cases h
  | mo _ b _ _ h hb =>
    rw [hk0] at h
    cases h
    obtain ⟨b', hb', hnm, m0, ents, clock, h1, h2, h3, h4, h5, h6, h7⟩ := M.own.rep k _ trivial hk0
    rw [hb] at hb'
    cases hb'
    have hcr0 := toAVsO_nil M (M.eval hy) hc ha
    have hkey := hcr0.kv hf
    have hul := M.eval hu
    generalize heu : a.eval u = vu at hul
    cases hul with
    | drw _ _ _ _ h => rw [hd0] at h; cases h
    | rw _ _ es' xs' h hm' hcap hbl =>
      rw [hd0] at h
      cases h
      obtain ⟨i, z, hti⟩ := tif (ht _ _ hi)
      have hund := hti.d
      rw [hd] at hund
      have hund := mp_of hund
      obtain ⟨fr, hfr, hF⟩ := run_findKey (w := w) hk hf ents.toList (m0.map fun x => (x.1, ([] : List AV))) (by simpa using h3) (entsO (R := fun _ _ => True) h1 hall fun i e x he hx => ⟨(h6 i e x he hx).1, trivial⟩)
      have hck := hk.chk false w kc hf
      -- the row that is put in
      let vu : Value := .slice ((γ d).blk.map fun b => ⟨b, 0, none⟩) n (γ d).cap
      have hblk : ∀ c, blkOf vu = some c ↔ (γ d).blk = some c := fun c => by
        show blkOf (.slice ((γ d).blk.map fun b => ⟨b, 0, none⟩) n (γ d).cap) = some c ↔ _
        cases (γ d).blk <;> simp [blkOf]
      have hrowv : RowV w S (fun c => (γ d).blk = some c) vu es xs := by
        obtain ⟨g1, g2 | ⟨bl, arr, ty, g2, g3, g4, g5, g6⟩⟩ := M.own.rep d _ trivial hd0
        · refine ⟨g1, .inl ⟨?_, g2.2.1⟩⟩
          show Value.slice ((γ d).blk.map fun b => ⟨b, 0, none⟩) n (γ d).cap = _
          rw [g2.1, g2.2.2, hnx, g2.2.1]
          rfl
        · refine ⟨g1, .inr ⟨bl, (γ d).cap, arr, ty, ?_, g2, g3, g4, g5, g6⟩⟩
          show Value.slice ((γ d).blk.map fun b => ⟨b, 0, none⟩) n (γ d).cap = _
          rw [g2, hnx]
          rfl
      let gk : GV := ⟨(γ k).blk, (γ k).cap, fun c => (γ k).more c ∨ (γ d).blk = some c⟩
      have hdk : ∀ c, (γ k).has c → (γ d).blk ≠ some c := fun c h1 h2 => M.own.apart k d _ _ c trivial trivial hk0 hd0 (by simp) (by simp) hkd h1 (.inl h2)
      have key : ∃ ents' clock' m0', (execOp a.eval o).run P w = .ok .skip { w with heap := w.heap.setIfInBounds b (.map ents' clock') } ∧ List.Perm m0' ((kc, some xs) :: m2) ∧ ents'.size = m0'.length ∧ (m0'.map (·.1)).Nodup ∧ Born ents' clock' ∧
          ∀ (i : Nat) (e : MapEntry) (x : List AV × Option (List (List AV))), ents'[i]? = some e → m0'[i]? = some x → (e.key = kval kc ∧ e.val = vu ∧ x = (kc, some xs)) ∨ (ents[i]? = some e ∧ m0[i]? = some x) := by
        rcases hF with ⟨rfl, hno⟩ | ⟨j, e0, x', rfl, hej, hx', hxk⟩
        · refine ⟨ents.push { key := kval kc, val := vu, born := clock }, clock + 1, m0 ++ [(kc, some xs)], ?_, ?_, by simp [h3], ?_, ?_, fun i e x hei hxi => ?_⟩
          · simp [execOp, ho, he, hkey, heu, Instr.mapUpdate, run_und hund, MapKept.run_getObj_map h2, hck, hfr, MapKept.run_setObj_map _ h2, vu]
          · rcases hr with ⟨r, hp⟩ | ⟨rfl, _⟩
            · exact (hno (kc, []) (List.mem_map.2 ⟨(kc, r), h1.mem_iff.2 (hp.mem_iff.2 (by simp)), rfl⟩) rfl).elim
            · exact List.perm_append_comm.trans (h1.cons _)
          · rw [List.map_append, List.nodup_append]
            refine ⟨h4, by simp, fun p hp q hq => ?_⟩
            simp at hq
            subst hq
            obtain ⟨y, hy, rfl⟩ := List.mem_map.1 hp
            exact hno (y.1, []) (List.mem_map.2 ⟨y, hy, rfl⟩)
          · refine ⟨fun e he => ?_, ?_⟩
            · simp only [Array.toList_push, List.mem_append, List.mem_singleton] at he
              rcases he with he | rfl
              · have := h5.1 e he; omega
              · exact Nat.lt_succ_self _
            · simp only [Array.toList_push, List.map_append, List.map_cons, List.map_nil]
              refine List.nodup_append.2 ⟨h5.2, by simp, fun p hp q hq => ?_⟩
              simp at hq
              subst hq
              obtain ⟨y, hy, rfl⟩ := List.mem_map.1 hp
              exact Nat.ne_of_lt (h5.1 y hy)
          · by_cases hlt : i < ents.size
            · rw [Array.getElem?_push_lt hlt] at hei
              rw [List.getElem?_append_left (by omega)] at hxi
              exact .inr ⟨by rw [Array.getElem?_eq_getElem hlt]; exact hei, hxi⟩
            · rw [List.getElem?_append_right (by omega)] at hxi
              have hi0 : i - m0.length = 0 := by have := (List.getElem?_eq_some_iff.1 hxi).1; simpa using this
              rw [hi0] at hxi
              cases hxi
              have : i = ents.size := by omega
              subst this
              simp at hei
              subst hei
              exact .inl ⟨rfl, rfl, rfl⟩
        · have hes : ents[j]? = some e0 := by simpa using hej
          rw [List.getElem?_map] at hx'
          cases hm0 : m0[j]? with
          | none => rw [hm0] at hx'; cases hx'
          | some y0 =>
            rw [hm0] at hx'
            cases hx'
            have hxk : y0.1 = kc := hxk
            have hjl := (List.getElem?_eq_some_iff.1 hm0).1
            have hek : e0.key = kval kc := by rw [← hxk]; exact (h6 j e0 y0 hes hm0).1.kv (hall y0 (h1.mem_iff.1 (List.mem_of_getElem? hm0)))
            refine ⟨ents.modify j fun e => { e with key := kval kc, val := vu }, clock, m0.set j (kc, some xs), ?_, ?_, by simp [h3], ?_, ?_, fun i e1 x hei hxi => ?_⟩
            · have hkt := kval_keep (P := P) (w := w) hf
              simp [execOp, ho, he, hkey, heu, Instr.mapUpdate, run_und hund, MapKept.run_getObj_map h2, hck, hfr, hes, hek, hkt, MapKept.run_setObj_map _ h2, vu]
            · rcases hr with ⟨r, hp⟩ | ⟨_, hno⟩
              · obtain ⟨_, hp2⟩ := perm_key h1 h4 hm0 hxk hp
                exact (perm_split' hm0).2.trans (hp2.cons _)
              · exact (hno y0 (h1.mem_iff.1 (List.mem_of_getElem? hm0)) hxk).elim
            · have : (m0.set j (kc, some xs)).map (·.1) = m0.map (·.1) := by
                rw [List.map_set]
                apply List.ext_getElem?
                intro q
                rw [List.getElem?_set]
                split
                · rename_i hq
                  subst hq
                  rw [if_pos (by simpa using hjl), List.getElem?_map, hm0]
                  simp [hxk]
                · rfl
              rw [this]
              exact h4
            · have hborn : (ents.modify j fun e => { e with key := kval kc, val := vu }).toList.map (·.born) = ents.toList.map (·.born) := by
                apply List.ext_getElem?
                intro q
                simp only [List.getElem?_map, Array.getElem?_toList, Array.getElem?_modify]
                by_cases hq : j = q
                · subst hq; cases ents[j]? <;> simp
                · simp [hq]
              refine ⟨fun e' he' => ?_, hborn ▸ h5.2⟩
              have : e'.born ∈ ents.toList.map (·.born) := by rw [← hborn]; exact List.mem_map.2 ⟨e', he', rfl⟩
              obtain ⟨e2, he2, heq⟩ := List.mem_map.1 this
              rw [← heq]
              exact h5.1 e2 he2
            · rw [Array.getElem?_modify] at hei
              by_cases hq : j = i
              · subst hq
                rw [if_pos rfl, hes] at hei
                rw [List.getElem?_set, if_pos rfl, if_pos hjl] at hxi
                cases hei
                cases hxi
                exact .inl ⟨rfl, rfl, rfl⟩
              · rw [if_neg hq] at hei
                rw [List.getElem?_set, if_neg hq] at hxi
                exact .inr ⟨hei, hxi⟩
      obtain ⟨ents', clock', m0', hrun, k1, k2, k3, k4, k5⟩ := key
      obtain ⟨q1, q2⟩ := MapKept.heap_set (o' := .map ents' clock') h2
      have hSb : ∀ c, S c → c ≠ b := fun c hc e => by subst e; exact M.no hk0 (by simp) hb hc
      have gk1 : updG (updG γ d (γ d)) k gk k = gk := by simp [updG]
      have hkeyI : ∀ (i : Nat) (x : List AV × Option (List (List AV))), m0'[i]? = some x → x.1 = kc → ∀ (i' : Nat) (x' : List AV × Option (List (List AV))), m0'[i']? = some x' → x'.1 = kc → i = i' := fun i x hx hxk i' x' hx' hxk' =>
        (List.getElem?_inj (by simpa using (List.getElem?_eq_some_iff.1 hx).1) k3).1 (by simp [List.getElem?_map, hx, hx', hxk, hxk'])
      have hrk : RepR { w with heap := w.heap.setIfInBounds b (.map ents' clock') } S (updG (updG γ d (γ d)) k gk) (upd1 (upd1 H d .dead) k (.mo es ((kc, some xs) :: m2))) k (.mo es ((kc, some xs) :: m2)) := by
        refine ⟨b, by rw [gk1]; exact hb, ?_, ?_⟩
        · rw [gk1]
          rintro (h | h)
          · exact hnm h
          · exact hdk b (.inl hb) h
        · rw [gk1]
          have rowm : ∀ {v : Value} {ys : List (List AV)} {more : Nat → Prop}, (∀ c, more c → gk.more c ∧ c ≠ b) → RowV w S more v es ys → RowV { w with heap := w.heap.setIfInBounds b (.map ents' clock') } S gk.more v es ys := fun hm h => h.mono (fun _ h => h) (fun c hc => q2 c (hSb c hc)) fun c _ hc => ⟨(hm c hc).1, q2 c (hm c hc).2⟩
          refine ⟨m0', ents', clock', k1, q1, k2, k3, k4, fun i e x hei hxi => ?_, fun i i' e e' x x' c hne hei hei' hxi hxi' hn1 hn2 hb1 hb2 => ?_⟩
          · rcases k5 i e x hei hxi with ⟨g1, g2, rfl⟩ | ⟨g1, g2⟩
            · refine ⟨?_, fun ys hys => ?_⟩
              · rw [g1, ← hkey]
                exact hcr0.mono fun v a hr => hr.mono (fun _ h => h) fun c hc => q2 c (hSb c hc)
              · cases hys
                rw [g2]
                exact rowm (fun c hc => ⟨.inr hc, fun e => hdk b (.inl hb) (e ▸ hc)⟩) hrowv
            · obtain ⟨g3, g4⟩ := h6 i e x g1 g2
              exact ⟨g3.mono fun v a hr => hr.mono (fun _ h => h) fun c hc => q2 c (hSb c hc), fun ys hys => rowm (fun c hc => ⟨.inl hc, fun e => hnm (e ▸ hc)⟩) (g4 ys hys)⟩
          · have inM : ∀ {i : Nat} {e : MapEntry} {x : List AV × Option (List (List AV))} {c : Nat}, ents[i]? = some e → m0[i]? = some x → x.2 ≠ none → blkOf e.val = some c → (γ k).more c := fun {i e x c} h8 h9 h10 h11 => by
              cases h12 : x.2 with
              | none => exact (h10 h12).elim
              | some ys =>
                obtain ⟨_, ⟨h13, _⟩ | ⟨b2, c2, arr2, ty2, h13, h14, _⟩⟩ := (h6 i e x h8 h9).2 ys h12
                · rw [h13] at h11; cases h11
                · rw [h13] at h11; simp [blkOf] at h11; subst h11; exact h14
            rcases k5 i e x hei hxi with ⟨g1, g2, rfl⟩ | ⟨g1, g2⟩
            · rcases k5 i' e' x' hei' hxi' with ⟨g3, g4, rfl⟩ | ⟨g3, g4⟩
              · exact hne (hkeyI i _ hxi rfl i' _ hxi' rfl)
              · rw [g2, hblk] at hb1
                exact hdk c (.inr (inM g3 g4 hn2 hb2)) hb1
            · rcases k5 i' e' x' hei' hxi' with ⟨g3, g4, rfl⟩ | ⟨g3, g4⟩
              · rw [g4, hblk] at hb2
                exact hdk c (.inr (inM g1 g2 hn1 hb1)) hb2
              · exact h7 i i' e e' x x' c hne g1 g3 g2 g4 hn1 hn2 hb1 hb2
      have M' := M.turn2 (w' := { w with heap := w.heap.setIfInBounds b (.map ents' clock') }) k d hkd _ (.mo es ((kc, some xs) :: m2)) .dead gk (γ d) hk0 (by simp) (by simp [Like]) ⟨rfl, rfl⟩ (.inr ⟨_, hd0, by simp, by simp [Like], rfl⟩) (by simp) rfl rfl ⟨rfl, Nat.le_refl _⟩ b (.inl hb) (fun c hc => q2 c hc)
        (fun c hc => by
          rcases hc with ⟨_, hc | hc | hc⟩ | ⟨h, _⟩
          · exact .inl (.inl hc)
          · exact .inl (.inr hc)
          · exact .inr ⟨_, hd0, by simp, .inl hc⟩
          · exact (h rfl).elim)
        (fun c _ h => (h rfl).elim) hrk trivial
      simp only [Oper.wp, hrun, Oper.upon]
      refine hnext S (updG (updG γ d (γ d)) k gk) _ _ (by cases o.dst <;> rfl) ?_
      rw [updH_dk H hkd, upd_nodst hdst, hdst]
      exact M'
end
end Go.Proofs.Ytcpgcenlgihmnaa.Abs
/- More operations: the entry an iterator stands at; parts of rows; zeros; values of several cells held against one another; an array as a row. -/
set_option linter.unusedVariables false
set_option linter.unusedSimpArgs false
namespace Go.Proofs.Ytcpgcenlgihmnaa.Abs
open Go

section
variable {P : Program} {o : Oper} {T : Nat → Option LV} {H : Nat → Option Res} {tab : Tab}

theorem run_getObj_iter {P : Program} {w : World} {b : Nat} {m : Option Nat} {p q : Nat} {s : Array Nat} (hb : w.heap[b]? = some (.mapIter m p s q)) : (getObj b).run P w = .ok (.mapIter m p s q) w := by
  simp [getObj, Sem.run, hb]
theorem run_setObj_iter {P : Program} {w : World} {b : Nat} {m : Option Nat} {p q : Nat} {s : Array Nat} {o' : Obj} (hb : w.heap[b]? = some (.mapIter m p s q)) : (setObj b o').run P w = .ok () { w with heap := w.heap.setIfInBounds b o' } := by
  simp [setObj, Sem.run, hb]
theorem ok_entry {x : Operand} {k : Nat} {rem : List (List AV × List AV)} {y : List AV × List AV} {tl : List Nat} (ho : o.op = .entry x) (hx : evF T x = some (.it k)) (hk : H k = some (.it rem (some y))) : OpOk P o T H ⟨.tu [cellsAV y.1, cellsAV y.2], [], tl⟩ :=
  ok_value fun F S γ a w M => by
    have h := M.eval hx
    generalize he : a.eval x = v at h
    cases h with
    | dit _ _ h => rw [hk] at h; cases h
    | it _ b _ _ h hb =>
      rw [hk] at h
      cases h
      obtain ⟨b', hb', r, seen, es, clock, rem0, g1, hS, g3, g4, g5, g6, g7, g8⟩ := M.own.rep k _ trivial hk
      rw [hb] at hb'
      cases hb'
      obtain ⟨e, e1, e2, e3⟩ := g8 y rfl
      have hf : es.find? (·.born == e.born) = some e := by rw [← Array.find?_toList]; exact find_born e es.toList g4.2 e1
      refine ⟨.tuple #[e.key, e.val], ?_, .tu _ _ rfl fun i v c hv hc => ?_⟩
      · have : (Instr.entry (.pointer (some ⟨b, 0, none⟩))).run P w = .ok (.tuple #[e.key, e.val]) w := by
          simp only [Instr.entry, Sem.run_bind, run_getObj_iter g1, Result.andThen_ok, e2, MapKept.run_getObj_map g3, bne_self_eq_false, Bool.false_eq_true, if_false, hf, Sem.run_pure]
        simp [execOp, ho, he, this]
      · rcases i with _ | _ | i
        · cases hv; cases hc; exact cellsAV_rep e3.1
        · cases hv; cases hc; exact cellsAV_rep e3.2
        · simp at hc

theorem ok_idx_rv (ht : TabOk P tab) {t e : Nat} {x y : Operand} {ti te : TI} {k lo m : Nat} {ki : IntKind} {n : Int} {xs : List (List AV)} (ho : o.op = .indexAddr t x y) (hi : lkO tab t = some ti) (hd : ti.d = .sl e) (hie : lkO tab e = some te)
    (hx : evF T x = some (.rv k lo m)) (hk : H k = some (.row te.size xs)) (hy : evF T y = some (.pv (.int ki n))) (h0 : 0 ≤ n) (hm : n < ((m - lo : Nat) : Int)) {tk : List Nat} : OpOk P o T H ⟨.er k (lo + n.toNat) 0, [], tk⟩ :=
  ok_value fun F S γ a w M => by
    have h := M.eval hx
    generalize he : a.eval x = v at h
    have hyv := (M.eval hy).int_inv
    obtain ⟨i, z, hf⟩ := tif (ht _ _ hi)
    have hu := hf.d
    rw [hd] at hu
    have hu := sl_of hu
    obtain ⟨ie, ze, hfe⟩ := tif (ht _ _ hie)
    cases h with
    | drv _ _ _ _ _ h => rw [hk] at h; cases h
    | rv _ _ _ es' xs' ad c h hl hm' hc ha =>
      rw [hk] at h
      cases h
      obtain ⟨b, hb, rfl⟩ := ha (by omega)
      refine ⟨.pointer (some ⟨b, (lo + n.toNat) * te.size + 0, none⟩), ?_, .er k (lo + n.toNat) 0 te.size b xs hk hb⟩
      have e2 : lo * te.size + n.toNat * te.size = (lo + n.toNat) * te.size := (Nat.add_mul _ _ _).symm
      simp [execOp, ho, he, hyv, Instr.indexAt, asIntOf, run_und hu, h0, hm, run_size hfe.info, hfe.size, add_none, e2]

theorem ok_clip (ht : TabOk P tab) {t e k m : Nat} {x hi mx : Operand} {ti te : TI} {xs : List (List AV)} {k1 k2 : IntKind} {n : Int} {tk : List Nat} (ho : o.op = .slice t x none (some hi) (some mx)) (hi' : lkO tab t = some ti) (hd : ti.d = .sl e) (hie : lkO tab e = some te) (hx : evF T x = some (.rw k m)) (hk : H k = some (.row te.size xs))
    (hhi : evF T hi = some (.pv (.int k1 n))) (hmx : evF T mx = some (.pv (.int k2 n))) (h0 : 0 ≤ n) (hj : n ≤ m) : OpOk P o T H ⟨.rv k 0 n.toNat, [], tk⟩ :=
  ok_value fun F S γ a w M => by
    have h := M.eval hx
    have h1 := (M.eval hhi).int_inv
    have h2 := (M.eval hmx).int_inv
    obtain ⟨ii, z, hf⟩ := tif (ht _ _ hi')
    have hu := hf.d
    rw [hd] at hu
    have hu := sl_of hu
    obtain ⟨ie, ze, hfe⟩ := tif (ht _ _ hie)
    generalize he : a.eval x = v at h
    cases h with
    | drw _ _ _ _ h => rw [hk] at h; cases h
    | rw _ _ es' xs' h hm hc hb =>
      rw [hk] at h
      cases h
      have hue : P.elem t = e := by simp [Program.elem, hu]
      have hu' : P.underlying t = some (.slice (P.elem t)) := by rw [hue]; exact hu
      have hrun : (Instr.sliceAt t (.slice ((γ k).blk.map fun b => ⟨b, 0, none⟩) m (γ k).cap) none (some (.int k1 n)) (some (.int k2 n))).run P w = .ok (sliced ((γ k).blk.map fun b => ⟨b, 0, none⟩) 0 n.toNat n.toNat te.size) w := by
        rw [run_sliceAt_slice w t _ _ _ _ hu', run_slice_hm w t _ m (γ k).cap hu' k1 k2 n n h0 (Int.le_refl _) (by omega), hue, run_size hfe.info, hfe.size]
        rfl
      refine ⟨_, by simp only [execOp, ho]; simp [he, h1, h2, hrun]; rfl, ?_⟩
      refine RepL.rv (w := w) (S := S) (γ := γ) (H := H) k 0 n.toNat te.size xs _ _ hk (Nat.zero_le _) (by omega) (by omega) (fun h0' => ?_)
      obtain ⟨b, hb⟩ := hb (by omega)
      refine ⟨b, hb, ?_⟩
      rw [if_neg (by omega), hb]
      simp [add_none]

theorem ok_eqv (ht : TabOk P tab) {op : BinOp} {t t' : Nat} {x y : Operand} {ti : TI} {lx ly : LV} {cs cs' : List LV} {a b : List AV} {sg : List KD} {r : Bool} (ho : o.op = .binOp op t x y t') (hi : lkO tab t = some ti) (hx : evF T x = some lx) (hag : ∃ l, lx = .ag l) (hy : evF T y = some ly) (hc : kvO lx = some cs) (hc' : kvO ly = some cs')
    (ha : toAVsO tab H ti.cells cs = some (a, [])) (hb : toAVsO tab H ti.cells cs' = some (b, [])) (hk : KeyOk P t sg) (hf : kfit sg a = true) (hf' : kfit sg b = true) (hr : r = true ↔ a = b) :
    (op = .eql → OpOk P o T H ⟨.pv (.bool r), [], []⟩) ∧ (op = .neq → OpOk P o T H ⟨.pv (.bool (!r)), [], []⟩) := by
  obtain ⟨l, rfl⟩ := hag
  have key : ∀ (F : Fr) (S : Nat → Prop) (γ : Nat → GV) (ac : Act) (w : World), ModF F S γ T H ac.tmps w → ∃ xs ys, ac.eval x = .agg xs ∧ ac.eval y = .agg ys ∧ (Op.equalIn 10000 t (.agg xs) (.agg ys)).run P w = .ok r w := fun F S γ ac w M => by
    have h1 := (toAVsO_nil M (M.eval hx) hc ha).kv hf
    have h2 := (toAVsO_nil M (M.eval hy) hc' hb).kv hf'
    have hxa : ∃ xs, ac.eval x = .agg xs := by
      have := M.eval hx
      generalize ac.eval x = v at this
      cases this with
      | ag arr _ _ _ _ => exact ⟨arr, rfl⟩
    obtain ⟨xs, hxs⟩ := hxa
    obtain ⟨_, hc1⟩ := kvO_cells hc
    have hl1 : cs.length ≠ 1 := by
      rcases hc1 with ⟨_, h⟩ | ⟨h, _⟩
      · exact (h l rfl).elim
      · exact h
    have la : a.length ≠ 1 := by
      have hlen : ∀ (tys : List Nat) (ls : List LV) (as : List AV) (ks : List Nat), toAVsO tab H tys ls = some (as, ks) → as.length = ls.length := fun tys ls => by
        induction tys generalizing ls with
        | nil => intro as ks h; cases ls <;> simp [toAVsO] at h; simp [h.1]
        | cons ty tys ih =>
          intro as ks h
          cases ls with
          | nil => simp [toAVsO] at h
          | cons x ls =>
            obtain ⟨⟨a, k1⟩, h3, h4⟩ := Option.bind_eq_some_iff.1 h
            obtain ⟨⟨r, k2⟩, h5, h6⟩ := Option.map_eq_some_iff.1 h4
            cases h6
            simp [ih ls r k2 h5]
      rw [hlen _ _ _ _ ha]
      exact hl1
    have fitlen : ∀ (sg : List KD) (cs : List AV), kfit sg cs = true → sg.length = cs.length := fun sg => by
      induction sg with
      | nil => intro cs h; cases cs <;> simp [kfit] at h; rfl
      | cons d sg ih =>
        intro cs h
        cases cs with
        | nil => simp [kfit] at h
        | cons c cs => cases d <;> cases c <;> simp only [kfit, Bool.and_eq_true] at h <;> first | simp [ih cs h.2] | simp [ih cs h] | cases h
    have lb : b.length ≠ 1 := by rw [← fitlen sg b hf', fitlen sg a hf]; exact la
    have hya : ∃ ys, ac.eval y = .agg ys := by
      rw [h2]
      match b, lb with
      | [], _ => exact ⟨_, rfl⟩
      | _ :: _ :: _, _ => exact ⟨_, rfl⟩
    obtain ⟨ys, hys⟩ := hya
    refine ⟨xs, ys, hxs, hys, ?_⟩
    rw [← hxs, ← hys, h1, h2]
    obtain ⟨r', h3, h4⟩ := hk.eq w a b hf hf'
    have : r = r' := by
      cases r <;> cases r'
      · rfl
      · exact (hr.2 (h4.1 rfl))
      · exact (h4.2 (hr.1 rfl)).symm
      · rfl
    rw [this]
    simpa [Op.equal, Op.maxDepth] using h3
  constructor
  · rintro rfl
    exact ok_value fun F S γ ac w M => by
      obtain ⟨xs, ys, h1, h2, h3⟩ := key F S γ ac w M
      exact ⟨.bool r, by simp [execOp, ho, h1, h2, run_eqGuard_agg w .eql t x y xs ys hk.grd, run_eql_struct, h3], .pv (.bool _)⟩
  · rintro rfl
    exact ok_value fun F S γ ac w M => by
      obtain ⟨xs, ys, h1, h2, h3⟩ := key F S γ ac w M
      exact ⟨.bool (!r), by simp [execOp, ho, h1, h2, run_eqGuard_agg w .neq t x y xs ys hk.grd, run_neq_struct, h3], .pv (.bool _)⟩
end
end Go.Proofs.Ytcpgcenlgihmnaa.Abs
/- Zeros: a row cleared, a row of zeros; an array as a row that stays. -/
set_option linter.unusedVariables false
set_option linter.unusedSimpArgs false
namespace Go.Proofs.Ytcpgcenlgihmnaa.Abs
open Go

section
variable {P : Program} {o : Oper} {T : Nat → Option LV} {H : Nat → Option Res} {tab : Tab}

theorem get_zero (z : Array Value) (n i j : Nat) (hi : i < n) (hj : j < z.size) : (Builtin.zeroCells z n)[i * z.size + j]? = some z[j] := by
  have hlt : i * z.size + j < n * z.size := by
    have : (i + 1) * z.size ≤ n * z.size := Nat.mul_le_mul_right _ hi
    rw [Nat.succ_mul] at this
    omega
  have hm : (i * z.size + j) % z.size = j := by rw [Nat.mul_comm, Nat.mul_add_mod, Nat.mod_eq_of_lt hj]
  simp [Builtin.zeroCells, hlt, hm, getElem!_pos z j hj]
theorem mem_zero (z : Array Value) (n : Nat) (h1 : ∀ u ∈ z.toList, one u = true) : ∀ u ∈ (Builtin.zeroCells z n).toList, one u = true := by
  intro u hu
  simp only [Builtin.zeroCells, Array.toList_map, List.mem_map] at hu
  obtain ⟨i, hi, rfl⟩ := hu
  have hi' : i < n * z.size := by simpa using hi
  have hz : 0 < z.size := by
    rcases Nat.eq_zero_or_pos z.size with h | h
    · rw [h] at hi'; omega
    · exact h
  rw [getElem!_pos z (i % z.size) (Nat.mod_lt _ hz)]
  exact h1 _ (by simp)

/-- A zero element. -/
theorem zero_elem {t : Nat} {te : TI} {ie : TypeInfo} {ze : Value} (hte : TIf P t te ie ze) {z : List AV} {ks : List Nat} (hz : toAVsO tab (fun _ => none) te.cells te.zero = some (z, ks)) {F : Fr} {S : Nat → Prop} {γ : Nat → GV} {tm : Array Value} {w : World} (M : ModF F S γ T H tm w) :
    ze.cells.size = te.size ∧ z.length = te.size ∧ (∀ u ∈ ze.cells.toList, one u = true) ∧ ∀ (j : Nat) (y : AV), z[j]? = some y → ∃ h : j < ze.cells.size, one ze.cells[j] = true ∧ Rep w S ze.cells[j] y := by
  have hzs : ze.cells.size = te.size := by have := (zsOk_get _ _ hte.zs).1; have := hte.zl; simp at *; omega
  have hl : LRep w S γ (fun _ => none) ze.cells.toList te.zero := LRep.of_zs hte.zs
  obtain ⟨g1, g2, g3⟩ := toAVs_rep (w := w) M.bare hl hz
  have hks : ks = [] := by
    cases ks with
    | nil => rfl
    | cons k ks => obtain ⟨r, hr, _⟩ := g2 k (by simp); cases hr
  refine ⟨hzs, by rw [g1]; exact hte.zl, hl.ones, fun j y hy => ?_⟩
  obtain ⟨u, hu1, hu2, hu3⟩ := g3 [] (by rw [hks]; simp) j y hy
  have hj : j < ze.cells.size := by have := (List.getElem?_eq_some_iff.1 hy).1; have := hte.zl; omega
  have hu1' : ze.cells[j]? = some u := by simpa using hu1
  rw [Array.getElem?_eq_getElem hj] at hu1'
  cases hu1'
  exact ⟨hj, hu2, hu3.mono (fun b hb => hb.elim id fun ⟨k, hk, _⟩ => by cases hk) (fun _ _ => rfl)⟩

theorem ok_clear (ht : TabOk P tab) {t e k lo m : Nat} {c : Call} {x : Operand} {ti te : TI} {l : LV} {xs : List (List AV)} {z : List AV} {ks tk : List Nat} (hdst : o.dst = none) (ho : o.op = .call c) (hc : c.callee = .builtin .clear) (hargs : c.args.toList = [x]) (hty : c.argTypes.toList = [t]) (hi : lkO tab t = some ti) (hd : ti.d = .sl e) (hie : lkO tab e = some te)
    (hx : evF T x = some l) (hl : l = .rv k lo m ∨ (l = .rw k m ∧ lo = 0)) (hk : H k = some (.row te.size xs)) (hz : toAVsO tab (fun _ => none) te.cells te.zero = some (z, ks)) :
    OpOk P o T H ⟨.un, [(k, .row te.size (xs.take lo ++ List.replicate (m - lo) z ++ xs.drop m))], tk⟩ := by
  intro F S γ a w next Q hdst' M hnext
  obtain ⟨i, zz, hti⟩ := tif (ht _ _ hi)
  obtain ⟨ie, ze, hte⟩ := tif (ht _ _ hie)
  have hu := hti.d
  rw [hd] at hu
  have hu := sl_of hu
  obtain ⟨z1, z2, z3, z4⟩ := zero_elem hte hz M
  have e1 : c.args.map a.eval = #[a.eval x] := by apply Array.ext'; simp [hargs]
  have e2 : c.argTypes = #[t] := by apply Array.ext'; simp [hty]
  -- the part that is cleared
  have hv : ∃ ad cp, a.eval x = .slice ad (m - lo) cp ∧ lo ≤ m ∧ m ≤ xs.length ∧ (lo < m → ∃ b, (γ k).blk = some b ∧ ad = some ⟨b, lo * te.size, none⟩) := by
    have h := M.eval hx
    generalize a.eval x = v at h
    rcases hl with rfl | ⟨rfl, rfl⟩
    · cases h with
      | drv _ _ _ _ _ h => rw [hk] at h; cases h
      | rv _ _ _ es' xs' ad c h hl hm' hc ha => rw [hk] at h; cases h; exact ⟨ad, c, rfl, hl, hm', ha⟩
    · cases h with
      | drw _ _ _ _ h => rw [hk] at h; cases h
      | rw _ _ es' xs' h hm hc hb =>
        rw [hk] at h
        cases h
        refine ⟨_, _, rfl, Nat.zero_le _, hm, fun h0 => ?_⟩
        obtain ⟨b, hb⟩ := hb h0
        exact ⟨b, hb, by rw [hb]; simp⟩
  obtain ⟨ad, cp, hv, hlm, hmx, had⟩ := hv
  simp only [Oper.wp, run_builtin ho hc, e1, e2, hv]
  by_cases h0 : lo < m
  · obtain ⟨b, hb, rfl⟩ := had h0
    obtain ⟨hes, g | ⟨b', cur, ty0, g1, g2, g3, g4, g5⟩⟩ := M.own.rep k _ trivial hk
    · rw [g.1] at hb; cases hb
    · rw [hb] at g1
      cases g1
      have hpos : m - lo ≠ 0 := by omega
      have hzl : (Builtin.zeroCells ze.cells (m - lo)).toList.length = (m - lo) * te.size := by simp [size_zeroCells, z1]
      have hfit : m * te.size ≤ cur.size := by rw [g3]; exact Nat.mul_le_mul_right _ (by omega)
      have hsum : lo * te.size + (m - lo) * te.size = m * te.size := by rw [← Nat.add_mul]; congr 1; omega
      have hst := run_storeCells_at P b (lo * te.size) ty0 (Builtin.zeroCells ze.cells (m - lo)).toList 0 cur w g2 (by rw [hzl]; omega) (mem_zero _ _ z3)
      simp only [Nat.add_zero, hzl, hsum] at hst
      generalize harr : (cur.toList.take (lo * te.size) ++ (Builtin.zeroCells ze.cells (m - lo)).toList ++ cur.toList.drop (m * te.size)).toArray = arr at hst
      have hrun : (Builtin.clear_ #[t] o.type #[.slice (some ⟨b, lo * te.size, none⟩) (m - lo) cp]).run P w = .ok (.tuple #[]) (w.setRow b arr) := by
        obtain ⟨q, hq⟩ : ∃ q, m - lo = q + 1 := ⟨m - lo - 1, by omega⟩
        rw [hq] at hst ⊢
        simp [Builtin.clear_, run_und hu, run_zero hte.info hte.zero, hst]
      have hasz : arr.size = cur.size := by
        rw [← harr]
        simp [size_zeroCells, z1]
        rw [Nat.min_eq_left (by omega)]
        omega
      have hget : ∀ (q : Nat), arr[q]? = if q < lo * te.size then cur[q]? else if q < m * te.size then (Builtin.zeroCells ze.cells (m - lo))[q - lo * te.size]? else cur[q]? := fun q => by
        rw [← harr]
        have hl1 : (cur.toList.take (lo * te.size)).length = lo * te.size := by simp; omega
        simp only [List.getElem?_toArray]
        by_cases h1 : q < lo * te.size
        · rw [if_pos h1, List.append_assoc, List.getElem?_append_left (by rw [hl1]; exact h1), List.getElem?_take, if_pos h1]
          simp
        · rw [if_neg h1]
          by_cases h2 : q < m * te.size
          · rw [if_pos h2, List.getElem?_append_left (by rw [List.length_append, hl1, hzl]; omega), List.getElem?_append_right (by rw [hl1]; omega), hl1]
            simp
          · rw [if_neg h2, List.getElem?_append_right (by rw [List.length_append, hl1, hzl]; omega), List.length_append, hl1, hzl, List.getElem?_drop]
            have : m * te.size + (q - (lo * te.size + (m - lo) * te.size)) = q := by omega
            rw [this]
            simp
      have hxget : ∀ (q : Nat) (y : List AV), (xs.take lo ++ List.replicate (m - lo) z ++ xs.drop m)[q]? = some y → (q < lo ∧ xs[q]? = some y) ∨ (lo ≤ q ∧ q < m ∧ y = z) ∨ (m ≤ q ∧ xs[q]? = some y) := fun q y hy => by
        have hl1 : (xs.take lo).length = lo := by simp; omega
        by_cases h1 : q < lo
        · rw [List.append_assoc, List.getElem?_append_left (by rw [hl1]; exact h1), List.getElem?_take, if_pos h1] at hy
          exact .inl ⟨h1, hy⟩
        · by_cases h2 : q < m
          · rw [List.getElem?_append_left (by simp; omega), List.getElem?_append_right (by rw [hl1]; omega), List.getElem?_replicate] at hy
            split at hy
            · cases hy; exact .inr (.inl ⟨by omega, h2, rfl⟩)
            · cases hy
          · rw [List.getElem?_append_right (by simp; omega), List.getElem?_drop] at hy
            have : m + (q - (xs.take lo ++ List.replicate (m - lo) z).length) = q := by simp; omega
            rw [this] at hy
            exact .inr (.inr ⟨by omega, hy⟩)
      have hnew : RepR (w.setRow b arr) S γ (upd1 H k (.row te.size (xs.take lo ++ List.replicate (m - lo) z ++ xs.drop m))) k (.row te.size (xs.take lo ++ List.replicate (m - lo) z ++ xs.drop m)) := by
        refine ⟨fun q y hy => ?_, .inr ⟨b, arr, ty0, hb, setRow_heap w b cur arr ty0 (0, 0) g2, by rw [hasz, g3], by simp; omega, fun q y j u hy hu' => ?_⟩⟩
        · rcases hxget q y hy with ⟨_, h⟩ | ⟨_, _, rfl⟩ | ⟨_, h⟩
          · exact hes q y h
          · exact z2
          · exact hes q y h
        · have keep : ∀ v a, Rep w S v a → Rep (w.setRow b arr) S v a := fun v a hr => hr.mono (fun _ h => h) (fun c hc => setRow_other w b c _ (by rintro rfl; exact M.no hk (by simp) hb hc))
          rcases hxget q y hy with ⟨h1, h⟩ | ⟨h1, h2, rfl⟩ | ⟨h1, h⟩
          · obtain ⟨v, hv, ho1, hr⟩ := g5 q y j u h hu'
            have hj : j < te.size := by have := (List.getElem?_eq_some_iff.1 hu').1; have := hes q y h; omega
            refine ⟨v, ?_, ho1, keep _ _ hr⟩
            rw [hget, if_pos]
            · exact hv
            · have : (q + 1) * te.size ≤ lo * te.size := Nat.mul_le_mul_right _ h1
              rw [Nat.succ_mul] at this
              omega
          · obtain ⟨hj, ho1, hr⟩ := z4 j u hu'
            refine ⟨ze.cells[j], ?_, ho1, keep _ _ hr⟩
            have h3 : lo * te.size ≤ q * te.size := Nat.mul_le_mul_right _ h1
            have h4 : (q + 1) * te.size ≤ m * te.size := Nat.mul_le_mul_right _ h2
            rw [Nat.succ_mul] at h4
            rw [hget, if_neg (by omega), if_pos (by omega)]
            have e3 : q * te.size + j - lo * te.size = (q - lo) * ze.cells.size + j := by rw [z1, Nat.sub_mul]; omega
            rw [e3]
            exact get_zero _ _ _ _ (by omega) hj
          · obtain ⟨v, hv, ho1, hr⟩ := g5 q y j u h hu'
            refine ⟨v, ?_, ho1, keep _ _ hr⟩
            have h3 : m * te.size ≤ q * te.size := Nat.mul_le_mul_right _ h1
            have h4 : lo * te.size ≤ m * te.size := Nat.mul_le_mul_right _ hlm
            rw [hget, if_neg (by omega), if_neg (by omega)]
            exact hv
      have M' := M.turn (w' := w.setRow b arr) k b _ (.row te.size (xs.take lo ++ List.replicate (m - lo) z ++ xs.drop m)) hk (by simp) hb (by simp [Like]; omega) (by simp) rfl rfl ⟨rfl, Nat.le_refl _⟩ (fun c hc => setRow_other w b c _ hc) hnew
      simp only [builtin, Sem.run_bind, hrun, Result.andThen_ok, Sem.run_pure, Oper.upon]
      refine hnext S γ _ _ (by cases o.dst <;> rfl) ?_
      rw [updH_one, upd_nodst hdst, hdst]
      exact M'
  · have hml : m = lo := by omega
    subst hml
    have hrun : (Builtin.clear_ #[t] o.type #[.slice ad (m - m) cp]).run P w = .ok (.tuple #[]) w := by
      cases ad <;> simp [Builtin.clear_, run_und hu]
    simp only [builtin, Sem.run_bind, hrun, Result.andThen_ok, Sem.run_pure, Oper.upon]
    refine hnext S γ _ _ (by cases o.dst <;> rfl) ?_
    have e3 : xs.take m ++ List.replicate (m - m) z ++ xs.drop m = xs := by simp
    rw [updH_one, upd_nodst hdst, hdst, e3]
    have e4 : upd1 H k (.row te.size xs) = H := by
      funext n
      simp only [upd1]
      by_cases h : k = n
      · subst h; simp [hk]
      · simp [h]
    rw [e4]
    exact M

theorem run_asI {w : World} {k : IntKind} {n : Int} : (asInt (.int k n)).run P w = .ok n w := by simp [asInt, asIntOf]
theorem run_append_zeros {w : World} {t it ty e : TypeId} {i : TypeInfo} {z : Value} {k : IntKind} (ht : P.underlying t = some (.slice e)) (hit : P.underlying it = some (.int k)) (hi : P.info? e = some i) (hz : i.zero = some z) (n : Nat) (h0 : 0 < n) (hs : i.size ≠ 0) (h63 : n ≤ 140737488355328) (h48 : n * i.bytes ≤ 281474976710656) :
    (Builtin.append_ #[t, it] ty #[.slice none 0 0, .int .i64 n]).run P w =
      .ok (.slice (some ⟨w.heap.size, 0, none⟩) n (grownCap w n 0 e)) (w.drew.alloc (.cells (Builtin.zeroCells z.cells n ++ Builtin.zeroCells z.cells (grownCap w n 0 e - n)) e)) := by
  have hn : n ≠ 0 := by omega
  have hw : IntKind.i64.wrap (n : Int) = n := by rw [IntKind.wrap_i64]; omega
  have h63' : ¬ (9223372036854775807 < (n : Int)) := by omega
  have hneg : ¬ ((n : Int) < 0) := by omega
  have hbig : ¬ (281474976710656 < (n : Int) * (i.bytes : Int)) := by
    have : (n : Int) * (i.bytes : Int) = ((n * i.bytes : Nat) : Int) := by simp
    omega
  have h48' : ¬ (281474976710656 < Builtin.nextslicecap n 0 * i.bytes) := by rw [nextslicecap_zero h0]; omega
  simp [Builtin.append_, run_underlying ht, run_underlying hit, sizeOf, typeInfo, zeroValue, hi, hz, hn, h63', h48', hneg, hbig, hw, run_asI, Question.forced, run_firstCells_none, newRow, grownCap]
  exact fun h => (Nat.mul_ne_zero hn hs (by simpa using h)).elim
theorem ok_zeros (ht : TabOk P tab) {d t e it : Nat} {c : Call} {x y : Operand} {ti te tn : TI} {kk : IntKind} {z : List AV} {ks tk : List Nat} {n : Int} (hdst : o.dst = some d) (ho : o.op = .call c) (hc : c.callee = .builtin .append) (hargs : c.args.toList = [x, y]) (hty : c.argTypes.toList = [t, it]) (hi : lkO tab t = some ti) (hd : ti.d = .sl e) (hie : lkO tab e = some te) (hit : lkO tab it = some tn) (hdn : tn.d = .int kk)
    (hx : evF T x = some .nl) (hy : evF T y = some (.pv (.int .i64 n))) (hz : toAVsO tab (fun _ => none) te.cells te.zero = some (z, ks)) (hts : 0 < te.size) (h0 : 0 ≤ n) (hm : n ≤ 140737488355328) (hfit : n.toNat * te.bytes ≤ 140737488355328) (hH : H d = none) :
    OpOk P o T H ⟨.rw d n.toNat, [(d, .row te.size (List.replicate n.toNat z))], tk⟩ := by
  intro F S γ a w next Q hdst' M hnext
  obtain ⟨i, zz, hti⟩ := tif (ht _ _ hi)
  obtain ⟨ie, ze, hte⟩ := tif (ht _ _ hie)
  obtain ⟨it', zi, htn⟩ := tif (ht _ _ hit)
  have hu := hti.d
  rw [hd] at hu
  have hu := sl_of hu
  have hun := htn.d
  rw [hdn] at hun
  have hun : P.underlying it = some (.int kk) := by
    simp only [dOk] at hun
    split at hun
    · rename_i k2 h2; simp at hun; rw [h2, hun]
    · cases hun
  obtain ⟨z1, z2, z3, z4⟩ := zero_elem hte hz M
  have e1 : c.args.map a.eval = #[.slice none 0 0, .int .i64 n] := by
    have h1 := M.eval hx
    generalize hex : a.eval x = v at h1
    cases h1
    apply Array.ext'
    simp [hargs, (M.eval hy).int_inv, hex]
  have e2 : c.argTypes = #[t, it] := by apply Array.ext'; simp [hty]
  simp only [Oper.wp, run_builtin ho hc, e1, e2]
  obtain ⟨m, rfl⟩ : ∃ m : Nat, n = m := ⟨n.toNat, by omega⟩
  simp only [Int.toNat_natCast] at hfit ⊢
  by_cases hpos : 0 < m
  · by_cases hsz : ie.size = 0
    · rw [hte.size] at hsz; omega
    · have hrun := run_append_zeros (P := P) (w := w) (ty := o.type) hu hun hte.info hte.zero m hpos hsz (by omega) (by rw [hte.bytes]; omega)
      generalize hcap : grownCap w m 0 e = cap at hrun
      have hge : m ≤ cap := by rw [← hcap]; exact grownCap_ge w _ _ _
      generalize harr : (Builtin.zeroCells ze.cells m ++ Builtin.zeroCells ze.cells (cap - m)) = arr at hrun
      have hasz : arr.size = cap * te.size := by
        rw [← harr]
        simp [size_zeroCells, z1, ← Nat.add_mul]
        congr 1
        omega
      have hpush : (w.drew.alloc (.cells arr e)).heap = w.heap.push (.cells arr e) := rfl
      have hr : RepR (w.drew.alloc (.cells arr e)) S (updG γ d (gv (some w.heap.size) cap)) (upd1 H d (.row te.size (List.replicate m z))) d (.row te.size (List.replicate m z)) := by
        refine ⟨fun q y hy => ?_, .inr ⟨w.heap.size, arr, e, by simp [updG], by rw [hpush]; simp, by simpa [updG] using hasz, by simpa [updG] using hge, fun q y j u hy hu' => ?_⟩⟩
        · rw [List.getElem?_replicate] at hy
          split at hy
          · cases hy; exact z2
          · cases hy
        · rw [List.getElem?_replicate] at hy
          split at hy
          · rename_i hq
            cases hy
            obtain ⟨hj, ho1, hr⟩ := z4 j u hu'
            refine ⟨ze.cells[j], ?_, ho1, hr.mono (fun _ h => h) (fun c hc => by rw [hpush, Array.getElem?_push, if_neg (by have := M.stay c hc; omega)])⟩
            rw [← harr, ← z1]
            have := get_zero ze.cells m q j hq hj
            rw [Array.getElem?_append_left (Array.getElem?_eq_some_iff.1 this).1]
            exact this
          · cases hy
      have M' := M.new d cap _ _ hH hpush rfl rfl ⟨rfl, Nat.le_succ _⟩ hr
      simp only [builtin, Sem.run_bind, hrun, Result.andThen_ok, Sem.run_pure, Oper.upon]
      refine hnext S (updG γ d (gv (some w.heap.size) cap)) _ _ (by cases o.dst <;> rfl) ?_
      rw [updH_one]
      exact M'.put o.dst hdst' (rw_new (by simp) hge)
  · obtain rfl : m = 0 := by omega
    have hrun : (Builtin.append_ #[t, it] o.type #[.slice none 0 0, .int .i64 ((0 : Nat) : Int)]).run P w = .ok (.slice none 0 0) w := by
      have hw : IntKind.i64.wrap 0 = 0 := by rw [IntKind.wrap_i64]; omega
      simp [Builtin.append_, run_underlying hu, run_underlying hun, sizeOf, typeInfo, hte.info, hw, run_asI]
    have M' := M.newNil d te.size hH
    simp only [builtin, Sem.run_bind, hrun, Result.andThen_ok, Sem.run_pure, Oper.upon]
    refine hnext S (updG γ d (gv none 0)) _ _ (by cases o.dst <;> rfl) ?_
    rw [updH_one]
    exact M'.put o.dst hdst' rw_nil

theorem ok_arr (ht : TabOk P tab) {t e k n : Nat} {x : Operand} {ti te : TI} {cs : List LV} {as : List AV} {ks tk : List Nat} (ho : o.op = .slice t x none none none) (hi : lkO tab t = some ti) (hd : ti.d = .ar n e) (hie : lkO tab e = some te) (hts : te.size = 1) (hx : evF T x = some (.bx k 0)) (hk : H k = some (.box cs)) (hn : cs.length = n)
    (ha : toAVsO tab (fun _ => none) (List.replicate n e) cs = some (as, ks)) : OpOk P o T H ⟨.pv (.lst 1 (as.map fun a => [a])), [(k, .dead)], tk⟩ := by
  intro F S γ a w next Q hdst' M hnext
  have h := M.eval hx
  generalize he : a.eval x = v at h
  cases h with
  | dbx _ _ _ _ h => rw [hk] at h; cases h
  | bx _ _ b cs' h hb =>
    rw [hk] at h
    cases h
    obtain ⟨ii, z, hti⟩ := tif (ht _ _ hi)
    obtain ⟨ie, ze, hte⟩ := tif (ht _ _ hie)
    have hu := hti.d
    rw [hd] at hu
    have hu := ar_of hu
    obtain ⟨b', arr, ty, h1, h2, h3, h4⟩ := M.own.rep k _ trivial hk
    rw [hb] at h1
    cases h1
    have hl : LRep w S γ (fun _ => none) arr.toList cs := by
      have h0 : LRep w S γ H arr.toList cs := ⟨by simpa using h3, fun i v c hv hc => h4 i v c (by simpa using hv) hc⟩
      refine ⟨h0.1, fun i v c hv hc => ⟨(h0.2 i v c hv hc).1, ?_⟩⟩
      have hlt := (List.getElem?_eq_some_iff.1 hc).1
      have hty : ∀ (tys : List Nat) (ls : List LV) (as : List AV) (ks : List Nat), toAVsO tab (fun _ => none) tys ls = some (as, ks) → ∀ c ∈ ls, kin (fun _ => none) c := fun tys ls => by
        induction tys generalizing ls with
        | nil => intro as ks h; cases ls <;> simp [toAVsO] at h; simp
        | cons ty tys ih =>
          intro as ks h
          cases ls with
          | nil => simp
          | cons x ls =>
            obtain ⟨⟨a, k1⟩, h5, h6⟩ := Option.bind_eq_some_iff.1 h
            obtain ⟨⟨r, k2⟩, h7, h8⟩ := Option.map_eq_some_iff.1 h6
            intro c hc
            rcases List.mem_cons.1 hc with rfl | hc
            · cases c with
              | pv a => trivial
              | nl => trivial
              | fn f l => cases l <;> simp [toAVO] at h5; simp [kin, pvs]
              | _ => simp [toAVO] at h5
            · exact ih ls r k2 h7 c hc
      exact (h0.2 i v c hv hc).2.re (hty _ _ _ _ ha c (List.mem_of_getElem? hc)) (fun k r h => by cases h)
    obtain ⟨g1, g2, g3⟩ := toAVs_rep (w := w) M.bare hl ha
    have hks : ks = [] := by
      cases ks with
      | nil => rfl
      | cons k ks => obtain ⟨r, hr, _⟩ := g2 k (by simp); cases hr
    have hue : P.elem t = e := by simp [Program.elem, hu]
    have hul : P.arrayLen t = n := by simp [Program.arrayLen, hu]
    have hrun : (Instr.sliceAt t (.pointer (some ⟨b, 0, none⟩)) none none none).run P w = .ok (.slice (some ⟨b, 0, none⟩) n n) w := by
      rw [run_sliceAt_array_all w t _ (by rw [hue, hul]; exact hu), hue, run_size hte.info, hul]
      simp [Result.andThen, slicedAt, add_none]
    have hrun' : (execOp a.eval o).run P w = .ok (.value (.slice (some ⟨b, 0, none⟩) n n)) w := by
      simp only [execOp, ho]; simp [he, hrun]
    have M1 := M.kill [k] (fun j hj => ⟨.box cs, by simp at hj; rw [hj]; exact hk, trivial⟩)
    simp only [Oper.wp, hrun', Oper.upon]
    refine hnext (fun b => S b ∨ Killed γ [k] b) γ _ _ (by cases o.dst <;> rfl) ?_
    have e3 : updH [(k, .dead)] H = killH [k] H := updH_dead [k] H
    rw [e3]
    refine M1.put o.dst hdst' (.pv ?_)
    have hal : as.length = n := by rw [g1, hn]
    have hvs : ∀ (i : Nat) (y : AV), as[i]? = some y → ∃ u, arr[i]? = some u ∧ Rep w (fun b => S b ∨ Killed γ [k] b) u y := fun i y hy => by
      obtain ⟨u, hu1, _, hu3⟩ := g3 [] (by rw [hks]; simp) i y hy
      exact ⟨u, by simpa using hu1, hu3.mono (fun b hb => .inl (hb.elim id fun ⟨k, hk, _⟩ => by cases hk)) (fun _ _ => rfl)⟩
    have hg : ∀ (i : Nat) (x : List AV), (as.map fun a => [a])[i]? = some x → ∃ y, as[i]? = some y ∧ x = [y] := fun i x hx => by
      rw [List.getElem?_map] at hx
      obtain ⟨y, hy, rfl⟩ := Option.map_eq_some_iff.1 hx
      exact ⟨y, hy, rfl⟩
    have := Rep.lst (w := w) (S := fun b => S b ∨ Killed γ [k] b) (some ⟨b, 0, none⟩) n 1 (as.map fun a => [a]) b 0 (fun i _ => (arr[i]?).getD undef) (by simp [hal]) (fun _ => ⟨rfl, .inr ⟨k, by simp, .inl hb⟩⟩)
      (fun i x hx => by obtain ⟨y, _, rfl⟩ := hg i x hx; rfl) (fun i x j hx hj => by
        obtain ⟨y, hy, rfl⟩ := hg i x hx
        obtain ⟨u, hu1, _⟩ := hvs i y hy
        obtain rfl : j = 0 := by omega
        simp [World.cell?, h2, hu1]) (fun i x j y hx hy => by
        obtain ⟨y', hy', rfl⟩ := hg i x hx
        obtain ⟨u, hu1, hr⟩ := hvs i y' hy'
        have : j = 0 := by have := (List.getElem?_eq_some_iff.1 hy).1; simpa using this
        subst this
        cases hy
        simpa [hu1] using hr)
    rw [List.length_map, hal] at this
    exact this
end
end Go.Proofs.Ytcpgcenlgihmnaa.Abs
/- The evaluator of one operation tells what it does. -/
set_option linter.unusedVariables false
set_option linter.unusedSimpArgs false
namespace Go.Proofs.Ytcpgcenlgihmnaa.Abs
open Go

/-- What an operation reads. -/
def insOf : Op → List Operand
  | .move x | .assign x | .box _ x | .load _ x | .nilCheck x | .unOp _ _ x | .convert _ _ x | .fieldAddr _ x _ | .extract x _ => [x]
  | .pick c a b => [c, a, b]
  | .build _ ps | .buildSlice _ _ ps => ps.toList.map (·.2)
  | .store _ a x | .binOp _ _ a x _ | .indexAddr _ a x | .index _ a x | .makeSlice _ a x => [a, x]
  | .slice _ x lo hi mx => x :: (lo.toList ++ hi.toList ++ mx.toList)
  | .makeFunc _ first _ => first.toList
  | .lookup _ x y _ => [x, y]
  | .mapUpdate _ x y u => [x, y, u]
  | .range _ x | .next x _ | .entry x => [x]
  | .call c => (match c.callee with | .value f => [f] | _ => []) ++ c.args.toList
  | _ => []
def Agree (o : Oper) (T T' : Nat → Option LV) : Prop := ∀ x ∈ insOf o.op, evF T' x = evF T x
/-- What an operation does wherever the slots that it reads, and the keys that it touches, hold what they hold here. -/
def Does (P : Program) (o : Oper) (T : Nat → Option LV) (H : Nat → Option Res) (e : Eff) : Prop :=
  ∀ T' H', Agree o T T' → (∀ k ∈ e.tk, H' k = H k) → OpOk P o T' H' e

section
variable {P : Program} {o : Oper} {T T' : Nat → Option LV} {H H' : Nat → Option Res} {tab : Tab}

theorem Fill.agree {fs : List (Nat × Nat)} : ∀ {ps : List (Nat × Operand)} {cs cs' : List LV}, (∀ x ∈ ps.map (·.2), evF T' x = evF T x) → Fill tab T fs ps cs cs' → Fill tab T' fs ps cs cs'
  | [], _, _, _, h => h
  | (i, x) :: ps, cs, cs', ha, ⟨f, v, vs, ti, h1, h2, h3, h4, h5, h6, h7⟩ => ⟨f, v, vs, ti, h1, by rw [ha x (by simp)]; exact h2, h3, h4, h5, h6, Fill.agree (fun y hy => ha y (by simp at hy; simp; exact .inr hy)) h7⟩
theorem toAVO_agree {ty : Nat} {x : LV} {a : AV} {ks : List Nat} (h : toAVO tab H ty x = some (a, ks)) (hk : ∀ k ∈ ks, H' k = H k) : toAVO tab H' ty x = some (a, ks) := by
  cases x with
  | rw k m =>
    simp only [toAVO] at h ⊢
    split at h
    · rename_i es xs hr; cases h; rw [hk k (by simp), hr]
    · cases h
  | mr k =>
    simp only [toAVO] at h ⊢
    split at h
    · rename_i m hr; cases h; rw [hk k (by simp), hr]
    · cases h
  | fn f l => cases l <;> exact h
  | _ => exact h
theorem toAVsO_agree : ∀ {tys : List Nat} {xs : List LV} {as : List AV} {ks : List Nat}, toAVsO tab H tys xs = some (as, ks) → (∀ k ∈ ks, H' k = H k) → toAVsO tab H' tys xs = some (as, ks)
  | [], [], _, _, h, _ => h
  | [], _ :: _, _, _, h, _ => by cases h
  | _ :: _, [], _, _, h, _ => by cases h
  | ty :: tys, x :: xs, as, ks, h, hk => by
    obtain ⟨⟨a, k1⟩, h3, h4⟩ := Option.bind_eq_some_iff.1 h
    obtain ⟨⟨r, k2⟩, h5, h6⟩ := Option.map_eq_some_iff.1 h4
    simp only [Prod.mk.injEq] at h6
    obtain ⟨rfl, rfl⟩ := h6
    simp [toAVsO, toAVO_agree h3 (fun k h => hk k (by simp [h])), toAVsO_agree h5 (fun k h => hk k (by simp [h]))]
theorem Elems.agree {te : TI} : ∀ {n : Nat} {ps : List (Nat × Operand)} {xs : List (List AV)} {ks : List Nat}, (∀ x ∈ ps.map (·.2), evF T' x = evF T x) → (∀ k ∈ ks, H' k = H k) → Elems tab T H te n ps xs ks → Elems tab T' H' te n ps xs ks
  | n, [], _, _, _, _, h => h
  | n, (i, x) :: ps, xs, ks, ha, hk, ⟨e0, v, vs, as, k1, r, k2, h1, h2, h3, h4, h5, h6, h7⟩ => by
    subst h7
    exact ⟨e0, v, vs, as, k1, r, k2, by rw [ha x (by simp)]; exact h1, h2, h3, toAVsO_agree h4 (fun k h => hk k (by simp [h])), Elems.agree (fun y hy => ha y (by simp at hy; simp; exact .inr hy)) (fun k h => hk k (by simp [h])) h5, h6, rfl⟩
theorem srcO_agree {es : Nat} {x : LV} {ys : List (List AV)} {ks : List Nat} (h : srcO H es x = some (ys, ks)) (hk : ∀ k ∈ ks, H' k = H k) : srcO H' es x = some (ys, ks) := by
  cases x with
  | rw k m =>
    simp only [srcO] at h ⊢
    split at h
    · rename_i e xs hr
      split at h
      · cases h; rw [hk k (by simp), hr]; simp [*]
      · cases h
    · cases h
  | rv k lo m =>
    simp only [srcO] at h ⊢
    split at h
    · rename_i e xs hr
      split at h
      · cases h; rw [hk k (by simp), hr]; simp [*]
      · cases h
    · cases h
  | pv a => cases a <;> exact h
  | _ => exact h
theorem evsF_agree : ∀ {xs : List Operand}, (∀ x ∈ xs, evF T' x = evF T x) → evsF T' xs = evsF T xs
  | [], _ => rfl
  | x :: xs, h => by simp only [evsF]; rw [h x (by simp), evsF_agree (fun y hy => h y (by simp [hy]))]
theorem und_of {t : Nat} {ti : TI} (h : tiOk P t ti = true) : ∃ d, P.underlying t = some d := by
  obtain ⟨i, z, hf⟩ := tif h
  have hd := hf.d
  unfold dOk at hd
  split at hd <;> split at hd <;> first | exact ⟨_, by assumption⟩ | cases hd
theorem inL_f {n : Nat} : ∀ {l : List Nat}, inL n l = false → n ∉ l
  | [], _ => by simp
  | k :: l, h => by
    simp only [inL] at h
    split at h
    · cases h
    · rename_i hb
      have := beq_f hb
      simp [Ne.symm this, inL_f h]
theorem keqB_eq {k k' : IntKind} (h : keqB k k' = true) : k = k' := by cases k <;> cases k' <;> first | rfl | simp [keqB] at h
theorem binI_iff (op : BinOp) (k : IntKind) (a b : Int) (K : AV → Prop) : binI op k a b K → ∃ v, binO op k a b v ∧ K v := by
  unfold binO binI
  split
  all_goals first
    | (intro h; exact ⟨_, rfl, h⟩)
    | (intro h; unfold ANe0 at h ⊢; exact ⟨_, ⟨h.1, rfl⟩, h.2⟩)
    | exact fun h => h.elim
theorem e0H : lkO ([] : HS) = fun _ => none := by funext k; rfl
theorem toAVO_bare {ty : Nat} {x : LV} {a : AV} {ks : List Nat} (h : toAVO tab (fun _ => none) ty x = some (a, ks)) : ks = [] := by
  cases x with
  | rw k m => simp [toAVO] at h
  | mr k => simp [toAVO] at h
  | pv a => cases h; rfl
  | nl =>
    simp only [toAVO] at h
    split at h
    · split at h
      · obtain ⟨te, _, h4⟩ := Option.map_eq_some_iff.1 h; cases h4; rfl
      · cases h
    · cases h
  | fn f l => cases l <;> simp [toAVO] at h; exact h.2
  | _ => simp [toAVO] at h
theorem toAVsO_bare : ∀ {tys : List Nat} {xs : List LV} {as : List AV} {ks : List Nat}, toAVsO tab (fun _ => none) tys xs = some (as, ks) → ks = []
  | [], [], _, _, h => by cases h; rfl
  | [], _ :: _, _, _, h => by cases h
  | _ :: _, [], _, _, h => by cases h
  | ty :: tys, x :: xs, as, ks, h => by
    obtain ⟨⟨a, k1⟩, h3, h4⟩ := Option.bind_eq_some_iff.1 h
    obtain ⟨⟨r, k2⟩, h5, h6⟩ := Option.map_eq_some_iff.1 h4
    simp only [Prod.mk.injEq] at h6
    obtain ⟨_, rfl⟩ := h6
    rw [toAVO_bare h3, toAVsO_bare h5]
    rfl
theorem bool_of {t : Nat} (h : dOk P t .bool = true) : P.underlying t = some .bool := by
  simp only [dOk] at h
  split at h
  · rename_i hF; rw [hF]
  · cases h
theorem ok_bin_bool (ht : TabOk P tab) {op : BinOp} {t t' : Nat} {x y : Operand} {ti : TI} {a b r : Bool} (ho : o.op = .binOp op t x y t') (hi : lkO tab t = some ti) (hd : ti.d = .bool) (hx : evF T x = some (.pv (.bool a))) (hy : evF T y = some (.pv (.bool b)))
    (hr : (op = .eql ∧ r = (a == b)) ∨ (op = .neq ∧ r = (!(a == b)))) : OpOk P o T H ⟨.pv (.bool r), [], []⟩ :=
  ok_value fun F S γ ac w M => by
    obtain ⟨i, z, hf⟩ := tif (ht _ _ hi)
    have hu := hf.d
    rw [hd] at hu
    have hu := bool_of hu
    have he := run_equalIn_bool' w 9999 t a b hu
    refine ⟨.bool r, ?_, .pv (.bool _)⟩
    rcases hr with ⟨rfl, rfl⟩ | ⟨rfl, rfl⟩ <;> simp [execOp, ho, (M.eval hx).bool_inv, (M.eval hy).bool_inv, eqGuard, binOp, Op.equal, Op.maxDepth, he]

theorem slK_iff (ty : Nat) (K : TI → Prop) : slK tab ty K ↔ ∃ ti e te, lkO tab ty = some ti ∧ ti.d = .sl e ∧ lkO tab e = some te ∧ K te := by
  simp only [slK, lk_iff]
  constructor
  · rintro ⟨ti, h1, h2⟩
    split at h2
    · rename_i e hd; obtain ⟨te, h3, h4⟩ := h2; exact ⟨ti, e, te, h1, hd, h3, h4⟩
    · exact h2.elim
  · rintro ⟨ti, e, te, h1, h2, h3, h4⟩
    refine ⟨ti, h1, ?_⟩
    rw [h2]
    exact ⟨te, h3, h4⟩

/-- A value, nothing touched. -/
theorem does_value {e : Eff} (h : ∀ T' H', Agree o T T' → OpOk P o T' H' e) : Does P o T H e := fun T' H' ha _ => h T' H' ha
end
end Go.Proofs.Ytcpgcenlgihmnaa.Abs
/- The evaluator of one operation tells what it does: all of them. -/
set_option linter.unusedVariables false
set_option linter.unusedSimpArgs false
namespace Go.Proofs.Ytcpgcenlgihmnaa.Abs
open Go

section
variable {P : Program} {o : Oper} {t : TS} {h : HS} {tab : Tab} {K : Eff → Prop}

theorem Agree.one {T T' : Nat → Option LV} (ha : Agree o T T') {x : Operand} (hx : x ∈ insOf o.op) {l : LV} (h : evF T x = some l) : evF T' x = some l := by rw [ha x hx, h]

theorem intL_iff' (x : LV) (K : IntKind → Int → Prop) : intL x K ↔ ∃ k n, x = .pv (.int k n) ∧ K k n := by
  unfold intL
  split
  · rename_i k n; exact ⟨fun h => ⟨k, n, rfl, h⟩, by rintro ⟨k, n, e, h⟩; cases e; exact h⟩
  · rename_i hn
    constructor
    · exact fun h => h.elim
    · rintro ⟨k, n, rfl, _⟩; exact hn k n rfl
/-- Operations that have no slot of their own have none. -/
def dstOk (o : Oper) : Bool := match o.op with
  | .store .. => o.dst.isNone
  | .mapUpdate .. => o.dst.isNone
  | .call c => (match c.callee with | .builtin .clear => o.dst.isNone | _ => true)
  | _ => true
theorem s_call (ht : TabOk P tab) (hdo : dstOk o = true) {c : Call} (ho : o.op = .call c) (hk : callE P tab o.dst t h c K) : ∃ e, Does P o (lkO t) (lkO h) e ∧ K e := by
  unfold callE at hk
  have hin : insOf o.op = (match c.callee with | .value f => [f] | _ => []) ++ c.args.toList := by rw [ho]; rfl
  split at hk
  · -- len
    rename_i hc
    split at hk
    · rename_i x tx e1 e2
      simp only [ev_iff, lk_iff] at hk
      obtain ⟨l, h1, ti, h2, hk⟩ := hk
      have hin' : x ∈ insOf o.op := by rw [hin, e1]; simp
      unfold lenL at hk
      split at hk
      · rename_i e es xs hd; exact ⟨_, does_value fun T' H' ha => ok_len ht ho hc e1 e2 h2 (ha.one hin' h1) (.inl ⟨e, hd, .inl ⟨_, _, rfl, rfl⟩⟩), hk⟩
      · rename_i s hd; exact ⟨_, does_value fun T' H' ha => ok_len ht ho hc e1 e2 h2 (ha.one hin' h1) (.inr ⟨hd, _, rfl, rfl⟩), hk⟩
      · rename_i e k m hd; exact ⟨_, does_value fun T' H' ha => ok_len ht ho hc e1 e2 h2 (ha.one hin' h1) (.inl ⟨e, hd, .inr (.inl ⟨_, _, rfl, rfl⟩)⟩), hk⟩
      · rename_i e k lo m hd; exact ⟨_, does_value fun T' H' ha => ok_len ht ho hc e1 e2 h2 (ha.one hin' h1) (.inl ⟨e, hd, .inr (.inr (.inl ⟨_, _, _, rfl, rfl⟩))⟩), hk⟩
      · rename_i e hd; exact ⟨_, does_value fun T' H' ha => ok_len ht ho hc e1 e2 h2 (ha.one hin' h1) (.inl ⟨e, hd, .inr (.inr (.inr ⟨rfl, rfl⟩))⟩), hk⟩
      · exact hk.elim
    · exact hk.elim
  · -- cap
    rename_i hc
    split at hk
    · rename_i x tx e1 e2
      simp only [ev_iff, lk_iff] at hk
      obtain ⟨l, h1, ti, h2, hk⟩ := hk
      have hin' : x ∈ insOf o.op := by rw [hin, e1]; simp
      unfold capL at hk
      split at hk
      · rename_i e hd; exact ⟨_, does_value fun T' H' ha => ok_cap_nil ht ho hc e1 e2 h2 hd (ha.one hin' h1), hk⟩
      · exact hk.elim
    · exact hk.elim
  · -- append
    rename_i hc
    split at hk
    · rename_i x y tx ty e1 e2
      split at hk
      · rename_i hb
        obtain rfl := beq_t hb
        simp only [ev_iff, slK_iff] at hk
        obtain ⟨l, h1, l', h2, ti, e, te, h3, h4, h5, hk⟩ := hk
        have hx : x ∈ insOf o.op := by rw [hin, e1]; simp
        have hy : y ∈ insOf o.op := by rw [hin, e1]; simp
        unfold appendL at hk
        split at hk
        · exact hk.elim
        · rename_i d hd
          rw [srcL_iff] at hk
          obtain ⟨ys, ks, h6, hk⟩ := hk
          split at hk
          · unfold AFits at hk
            rw [ab_iff] at hk
            obtain ⟨h7, h8, hk⟩ := hk
            exact ⟨_, fun T' H' ha hH => ok_append_nil ht hd ho hc e1 e2 h3 h4 h5 (ha.one hx h1) (ha.one hy h2) (srcO_agree h6 fun k hk => hH k (by simp [hk])) h7 (by rw [hH _ (by simp)]; exact h8), hk⟩
          · rename_i k m
            rw [lk_iff] at hk
            obtain ⟨r, h6', hk⟩ := hk
            split at hk
            · rename_i es xs
              split at hk
              · rename_i hb2
                obtain rfl := beq_t hb2
                unfold AFits at hk
                rw [ab_iff] at hk
                obtain ⟨h7, h8, hk⟩ := hk
                exact ⟨_, fun T' H' ha hH => ok_append_row ht hd ho hc e1 e2 h3 h4 h5 (ha.one hx h1) (by rw [hH _ (by simp)]; exact h6') (ha.one hy h2) (srcO_agree h6 fun k hk => hH k (by simp [hk])) h7 (by rw [hH _ (by simp)]; exact h8), hk⟩
              · exact hk.elim
            · exact hk.elim
          · exact hk.elim
      · simp only [ev_iff, slK_iff, lk_iff] at hk
        obtain ⟨l, h1, l', h2, ti, e, te, h3, h4, h5, tn, h6, hk⟩ := hk
        have hx : x ∈ insOf o.op := by rw [hin, e1]; simp
        have hy : y ∈ insOf o.op := by rw [hin, e1]; simp
        split at hk
        · rename_i kk hdn
          unfold zerosE at hk
          split at hk
          · rename_i d hdst
            simp only [intL_iff'] at hk
            obtain ⟨k, n, rfl, hk⟩ := hk
            split at hk
            · rename_i hb
              obtain rfl := keqB_eq hb
              split at hk
              · rename_i hts
                simp only [toAVs_iff] at hk
                obtain ⟨z, ks, h7, hk⟩ := hk
                unfold ALe AFits at hk
                obtain ⟨h8, h9, h10, hk⟩ := hk
                rw [ab_iff] at hk
                obtain ⟨h11, hk⟩ := hk
                rw [e0H] at h7
                exact ⟨_, fun T' H' ha hH => ok_zeros ht hdst ho hc e1 e2 h3 h4 h5 h6 hdn (ha.one hx h1) (ha.one hy h2) h7 (Nat.le_of_ble_eq_true hts) h8 h9 h10 (by rw [hH _ (by simp)]; exact h11), hk⟩
              · exact hk.elim
            · exact hk.elim
          · exact hk.elim
        · exact hk.elim
    · exact hk.elim
  · -- clear
    rename_i hc
    split at hk
    · rename_i x tx e1 e2
      simp only [ev_iff, slK_iff] at hk
      obtain ⟨l, h1, ti, e, te, h3, h4, h5, hk⟩ := hk
      have hx : x ∈ insOf o.op := by rw [hin, e1]; simp
      unfold clearE at hk
      simp only [toAVs_iff] at hk
      obtain ⟨z, ks, h7, hk⟩ := hk
      rw [e0H] at h7
      have hdst : o.dst = none := by simpa [dstOk, ho, hc] using hdo
      split at hk
      · rename_i k m
        rw [lk_iff] at hk
        obtain ⟨r, h6, hk⟩ := hk
        split at hk
        · split at hk
          · rename_i hb
            obtain rfl := beq_t hb
            exact ⟨⟨.un, [(k, _)], [k]⟩, fun T' H' ha hH => by
              have h6' : H' k = _ := (hH k (by simp)).trans h6
              have := ok_clear (P := P) (lo := 0) (tk := [k]) ht hdst ho hc e1 e2 h3 h4 h5 (ha.one hx h1) (.inr ⟨rfl, rfl⟩) h6' h7
              simpa using this, hk⟩
          · exact hk.elim
        · exact hk.elim
      · rename_i k lo m
        rw [lk_iff] at hk
        obtain ⟨r, h6, hk⟩ := hk
        split at hk
        · split at hk
          · rename_i hb
            obtain rfl := beq_t hb
            exact ⟨_, fun T' H' ha hH => ok_clear ht hdst ho hc e1 e2 h3 h4 h5 (ha.one hx h1) (.inl rfl) (by rw [hH _ (by simp)]; exact h6) h7, hk⟩
          · exact hk.elim
        · exact hk.elim
      · exact hk.elim
    · exact hk.elim
  · rename_i hc
    split at hk
    · rename_i x y e1
      simp only [ev_iff] at hk
      obtain ⟨l, h1, l', h2, hk⟩ := hk
      have hx : x ∈ insOf o.op := by rw [hin, e1]; simp
      have hy : y ∈ insOf o.op := by rw [hin, e1]; simp
      unfold minmaxL at hk
      split at hk
      · split at hk
        · rename_i hb
          obtain rfl := keqB_eq hb
          exact ⟨_, does_value fun T' H' ha => ok_minmax (b := false) ho hc e1 (ha.one hx h1) (ha.one hy h2), hk⟩
        · exact hk.elim
      · exact hk.elim
    · exact hk.elim
  · rename_i hc
    split at hk
    · rename_i x y e1
      simp only [ev_iff] at hk
      obtain ⟨l, h1, l', h2, hk⟩ := hk
      have hx : x ∈ insOf o.op := by rw [hin, e1]; simp
      have hy : y ∈ insOf o.op := by rw [hin, e1]; simp
      unfold minmaxL at hk
      split at hk
      · split at hk
        · rename_i hb
          obtain rfl := keqB_eq hb
          exact ⟨_, does_value fun T' H' ha => ok_minmax (b := true) ho hc e1 (ha.one hx h1) (ha.one hy h2), hk⟩
        · exact hk.elim
      · exact hk.elim
    · exact hk.elim
  · -- a function of the program
    rename_i f hc
    simp only [ev_iff, isFn_iff, evs_iff, appK_iff] at hk
    obtain ⟨l, h1, g, ls, h2, xs, h3, hk⟩ := hk
    have hf : f ∈ insOf o.op := by rw [hin, hc]; simp
    unfold ACall at hk
    obtain ⟨ph, r, ps, c1, c2, c3, c4, c5, c6, c7, hk⟩ := hk
    have mem : ∀ (l : HS) (k : Nat) (x : Res), lkO l k = some x → k ∈ l.map (·.1) := by
      intro l
      induction l with
      | nil => intro k x h; simp [lkO] at h
      | cons y l ih =>
        intro k x h
        simp only [lkO] at h
        cases hc : Nat.beq y.1 k with
        | true => simp [beq_t hc]
        | false => simp only [hc, Bool.false_eq_true, if_false] at h; have := ih k x h; simp at this ⊢; exact .inr this
    refine ⟨_, fun T' H' ha hH => ok_call ho hc (ha.one hf h1) h2 (by rw [evsF_agree (T' := T') (T := lkO t) fun x hx => ha x (by rw [hin]; exact List.mem_append.2 (.inr hx))]; exact h3) c1 c2 c3 (fun k x hx => ?_) c5 (fun k y hy hp => ?_) c7, hk⟩
    · rw [hH k (List.mem_append.2 (.inl (mem ph k x hx)))]; exact c4 k x hx
    · rw [hH k (List.mem_append.2 (.inr (mem ps k y hy)))]; exact c6 k y hy hp
  · exact hk.elim
end
end Go.Proofs.Ytcpgcenlgihmnaa.Abs
/- The evaluator of one operation tells what it does: all of them. -/
set_option linter.unusedVariables false
set_option linter.unusedSimpArgs false
namespace Go.Proofs.Ytcpgcenlgihmnaa.Abs
open Go

section
variable {P : Program} {o : Oper} {t : TS} {h : HS} {tab : Tab} {K : Eff → Prop}

theorem boolL_iff (x : LV) (K : Bool → Prop) : boolL x K ↔ ∃ b, x = .pv (.bool b) ∧ K b := by
  unfold boolL
  split
  · simp
  · rename_i hn
    constructor
    · exact fun h => h.elim
    · rintro ⟨b, rfl, _⟩; exact hn b rfl
theorem intL_iff (x : LV) (K : IntKind → Int → Prop) : intL x K ↔ ∃ k n, x = .pv (.int k n) ∧ K k n := by
  unfold intL
  split
  · rename_i k n; exact ⟨fun h => ⟨k, n, rfl, h⟩, by rintro ⟨k, n, e, h⟩; cases e; exact h⟩
  · rename_i hn
    constructor
    · exact fun h => h.elim
    · rintro ⟨k, n, rfl, _⟩; exact hn k n rfl
theorem evO_iff (t : TS) (x : Option Operand) (K : Option LV → Prop) : evO t x K ↔ (x = none ∧ K none) ∨ ∃ y l, x = some y ∧ evF (lkO t) y = some l ∧ K (some l) := by
  cases x <;> simp [evO, ev_iff]

theorem s_load (ht : TabOk P tab) {ty : Nat} {x : Operand} (ho : o.op = .load ty x) (hk : ev t x fun x => lk ty (fun ti => loadL ti x h K) tab) : ∃ e, Does P o (lkO t) (lkO h) e ∧ K e := by
  simp only [ev_iff, lk_iff] at hk
  obtain ⟨l, h1, ti, h2, hk⟩ := hk
  have hx : x ∈ insOf o.op := by rw [ho]; simp [insOf]
  unfold loadL at hk
  split at hk
  · simp only [sub_iff, mapK_pv, wrapL_iff] at hk
    obtain ⟨h3, l', h4, hk⟩ := hk
    exact ⟨_, does_value fun T' H' ha => ok_load_ep ht ho h2 (ha.one hx h1) h3 h4, hk⟩
  · rw [lk_iff] at hk
    obtain ⟨r, h3, hk⟩ := hk
    split at hk
    · simp only [sub_iff, wrapL_iff] at hk
      obtain ⟨h4, l', h5, hk⟩ := hk
      exact ⟨_, fun T' H' ha hH => ok_load_bx ht ho h2 (ha.one hx h1) (by rw [hH _ (by simp)]; exact h3) h4 h5, hk⟩
    · exact hk.elim
  · rw [lk_iff] at hk
    obtain ⟨r, h3, hk⟩ := hk
    split at hk
    · unfold AGet at hk
      simp only [sub_iff, mapK_pv, wrapL_iff] at hk
      obtain ⟨c, h4, h5, l', h6, hk⟩ := hk
      exact ⟨_, fun T' H' ha hH => ok_load_er ht ho h2 (ha.one hx h1) (by rw [hH _ (by simp)]; exact h3) h4 h5 h6, hk⟩
    · exact hk.elim
  · exact hk.elim

theorem s_store (ht : TabOk P tab) {ty : Nat} {a x : Operand} (ho : o.op = .store ty a x) (hdst : o.dst = none) (hk : ev t a fun a => ev t x fun x => lk ty (fun ti => storeL tab ti a x h K) tab) : ∃ e, Does P o (lkO t) (lkO h) e ∧ K e := by
  simp only [ev_iff, lk_iff] at hk
  obtain ⟨l, h1, l', h2, ti, h3, hk⟩ := hk
  have ha' : a ∈ insOf o.op := by rw [ho]; simp [insOf]
  have hx : x ∈ insOf o.op := by rw [ho]; simp [insOf]
  unfold storeL at hk
  simp only [cellsL_iff, lenEq_iff] at hk
  obtain ⟨vs, h4, h5, hk⟩ := hk
  split at hk
  · rw [lk_iff] at hk
    obtain ⟨r, h6, hk⟩ := hk
    split at hk
    · rw [ins_iff] at hk
      obtain ⟨h7, hk⟩ := hk
      exact ⟨_, fun T' H' ha hH => ok_store_bx ht hdst ho h3 (ha.one ha' h1) (ha.one hx h2) h4 h5 (by rw [hH _ (by simp)]; exact h6) h7, hk⟩
    · exact hk.elim
  · rw [lk_iff] at hk
    obtain ⟨r, h6, hk⟩ := hk
    split at hk
    · unfold AGet at hk
      simp only [toAVs_iff] at hk
      obtain ⟨c, h7, as, ks, h8, hk⟩ := hk
      split at hk
      · exact hk.elim
      · rename_i hin
        simp only [ins_iff, deads_iff] at hk
        obtain ⟨h9, hk⟩ := hk
        exact ⟨_, fun T' H' ha hH => ok_store_er ht hdst ho h3 (ha.one ha' h1) (ha.one hx h2) h4 h5 (by rw [hH _ (by simp)]; exact h6) h7 (toAVsO_agree h8 fun k hk => hH k (by simp [hk])) h9 (inL_f hin), hk⟩
    · exact hk.elim
  · exact hk.elim

theorem s_slice (ht : TabOk P tab) {ty : Nat} {x : Operand} {lo hi : Option Operand} (ho : o.op = .slice ty x lo hi none)
    (hk : ev t x fun x => evO t lo fun lo => evO t hi fun hi => lk ty (fun ti => match ti.d with | .str => sliceS x lo hi K | .sl e => lk e (fun te => sliceL te.size x lo hi h K) tab | _ => False) tab) : ∃ e, Does P o (lkO t) (lkO h) e ∧ K e := by
  simp only [ev_iff] at hk
  obtain ⟨l, h1, hk⟩ := hk
  have hx : x ∈ insOf o.op := by rw [ho]; simp [insOf]
  have hlo : ∀ y, lo = some y → y ∈ insOf o.op := fun y e => by rw [ho, e]; simp [insOf]
  have hhi : ∀ y, hi = some y → y ∈ insOf o.op := fun y e => by rw [ho, e]; simp [insOf]
  -- the bounds, as they are told
  have key : ∃ blo bhi, evO t lo (· = blo) ∧ evO t hi (· = bhi) ∧ lk ty (fun ti => match ti.d with | .str => sliceS l blo bhi K | .sl e => lk e (fun te => sliceL te.size l blo bhi h K) tab | _ => False) tab := by
    cases lo <;> cases hi <;> simp only [evO, ev_iff] at hk ⊢
    · exact ⟨_, _, rfl, rfl, hk⟩
    · obtain ⟨v, e, hk⟩ := hk; exact ⟨_, _, rfl, ⟨v, e, rfl⟩, hk⟩
    · obtain ⟨v, e, hk⟩ := hk; exact ⟨_, _, ⟨v, e, rfl⟩, rfl, hk⟩
    · obtain ⟨v, e, u, e', hk⟩ := hk; exact ⟨_, _, ⟨v, e, rfl⟩, ⟨u, e', rfl⟩, hk⟩
  clear hk
  obtain ⟨blo, bhi, k1, k2, hk⟩ := key
  have none_bd : ∀ {y : Option Operand} {d : Nat} {T' : Nat → Option LV}, evO t y (· = none) → Bd T' y d d := fun {y d T'} h => by
    cases y with
    | none => exact .inl ⟨rfl, rfl⟩
    | some y => simp only [evO, ev_iff] at h; obtain ⟨v, _, e⟩ := h; cases e
  have some_bd : ∀ {y : Option Operand} {d i : Nat} {k : IntKind} {n : Int} {T' : Nat → Option LV}, (∀ z, y = some z → z ∈ insOf o.op) → Agree o (lkO t) T' → evO t y (· = some (.pv (.int k n))) → 0 ≤ n → n.toNat = i → Bd T' y d i := fun {y d i k n T'} hm ha h h0 hi => by
    cases y with
    | none => simp [evO] at h
    | some y =>
      simp only [evO, ev_iff] at h
      obtain ⟨v, e, e2⟩ := h
      cases e2
      exact .inr ⟨y, k, n, rfl, ha.one (hm y rfl) e, h0, hi⟩
  rw [lk_iff] at hk
  obtain ⟨ti, h2, hk⟩ := hk
  split at hk
  · rename_i hd
    unfold sliceS at hk
    split at hk
    · rename_i s
      split at hk
      · exact ⟨_, does_value fun T' H' ha => by
          have := ok_slice_str (P := P) (H := H') ht ho h2 hd (ha.one hx h1) (none_bd k1) (none_bd k2) (Nat.zero_le _) (Nat.le_refl _)
          have e : s.extract 0 s.size = s := by simp
          rw [e] at this
          exact this, hk⟩
      · simp only [intL_iff] at hk
        unfold ALe at hk
        obtain ⟨k, n, rfl, a1, a2, hk⟩ := hk
        exact ⟨_, does_value fun T' H' ha => ok_slice_str ht ho h2 hd (ha.one hx h1) (none_bd k1) (some_bd hhi ha k2 a1 rfl) (Nat.zero_le _) (by omega), hk⟩
      · simp only [intL_iff] at hk
        unfold ALe at hk
        obtain ⟨k, n, rfl, a1, a2, hk⟩ := hk
        exact ⟨_, does_value fun T' H' ha => ok_slice_str ht ho h2 hd (ha.one hx h1) (some_bd hlo ha k1 a1 rfl) (none_bd k2) (by omega) (Nat.le_refl _), hk⟩
      · simp only [intL_iff] at hk
        unfold ALe at hk
        obtain ⟨k, n, rfl, a1, a2, k', n', rfl, b1, b2, hk⟩ := hk
        exact ⟨_, does_value fun T' H' ha => ok_slice_str ht ho h2 hd (ha.one hx h1) (some_bd hlo ha k1 b1 rfl) (some_bd hhi ha k2 a1 rfl) (by omega) (by omega), hk⟩
    · exact hk.elim
  · rename_i e hd
    rw [lk_iff] at hk
    obtain ⟨te, h3, hk⟩ := hk
    unfold sliceL at hk
    split at hk
    · rename_i e' xs
      split at hk
      · rename_i hb
        obtain rfl := beq_t hb
        split at hk
        · exact ⟨_, does_value fun T' H' ha => by
            have := ok_slice_lst (P := P) (H := H') ht ho h2 hd h3 (ha.one hx h1) (none_bd k1) (none_bd k2) (Nat.zero_le _) (Nat.le_refl _)
            simpa using this, hk⟩
        · simp only [intL_iff] at hk
          unfold ALe at hk
          obtain ⟨k, n, rfl, a1, a2, hk⟩ := hk
          exact ⟨_, does_value fun T' H' ha => by
            have := ok_slice_lst (P := P) (H := H') ht ho h2 hd h3 (ha.one hx h1) (none_bd k1) (some_bd hhi ha k2 a1 rfl) (Nat.zero_le _) (by omega)
            simpa using this, hk⟩
        · simp only [intL_iff] at hk
          unfold ALe at hk
          obtain ⟨k, n, rfl, a1, a2, hk⟩ := hk
          exact ⟨_, does_value fun T' H' ha => by
            have := ok_slice_lst (P := P) (H := H') ht ho h2 hd h3 (ha.one hx h1) (some_bd hlo ha k1 a1 rfl) (none_bd k2) (by omega) (Nat.le_refl _)
            simpa using this, hk⟩
        · simp only [intL_iff] at hk
          unfold ALe at hk
          obtain ⟨k, n, rfl, a1, a2, k', n', rfl, b1, b2, hk⟩ := hk
          exact ⟨_, does_value fun T' H' ha => ok_slice_lst ht ho h2 hd h3 (ha.one hx h1) (some_bd hlo ha k1 b1 rfl) (some_bd hhi ha k2 a1 rfl) (by omega) (by omega), hk⟩
      · exact hk.elim
    · rename_i k m
      rw [lk_iff] at hk
      obtain ⟨r, h4, hk⟩ := hk
      split at hk
      · rename_i e' xs
        split at hk
        · rename_i hb
          obtain rfl := beq_t hb
          split at hk
          · simp only [intL_iff] at hk
            unfold ALe at hk
            obtain ⟨k', n, rfl, a1, a2, hk⟩ := hk
            exact ⟨_, fun T' H' ha hH => ok_slice_rw ht ho h2 hd h3 (ha.one hx h1) (by rw [hH _ (by simp)]; exact h4) (none_bd k1) (some_bd hhi ha k2 a1 rfl) (by omega), hk⟩
          · simp only [intL_iff] at hk
            unfold ALe at hk
            obtain ⟨k', n, rfl, a1, a2, hk⟩ := hk
            exact ⟨_, fun T' H' ha hH => ok_slice_rv ht ho h2 hd h3 (ha.one hx h1) (by rw [hH _ (by simp)]; exact h4) (some_bd hlo ha k1 a1 rfl) (none_bd k2) (by omega) (Nat.le_refl _), hk⟩
          · simp only [intL_iff] at hk
            unfold ALe at hk
            obtain ⟨k', n, rfl, a1, a2, k2', n', rfl, b1, b2, hk⟩ := hk
            exact ⟨_, fun T' H' ha hH => ok_slice_rv ht ho h2 hd h3 (ha.one hx h1) (by rw [hH _ (by simp)]; exact h4) (some_bd hlo ha k1 b1 rfl) (some_bd hhi ha k2 a1 rfl) (by omega) (by omega), hk⟩
          · exact ⟨_, fun T' H' ha hH => ok_slice_rw ht ho h2 hd h3 (ha.one hx h1) (by rw [hH _ (by simp)]; exact h4) (none_bd k1) (none_bd k2) (Nat.le_refl _), hk⟩
        · exact hk.elim
      · exact hk.elim
    · split at hk
      · exact ⟨_, does_value fun T' H' ha => ok_slice_nl ht ho h2 hd h3 (ha.one hx h1) (none_bd k1) (none_bd k2), hk⟩
      · simp only [intL_iff] at hk
        obtain ⟨k', n, rfl, hk⟩ := hk
        split at hk
        · exact ⟨_, does_value fun T' H' ha => ok_slice_nl ht ho h2 hd h3 (ha.one hx h1) (none_bd k1) (some_bd hhi ha k2 (by decide) rfl), hk⟩
        · exact hk.elim
      · exact hk.elim
    · exact hk.elim
  · exact hk.elim
end
end Go.Proofs.Ytcpgcenlgihmnaa.Abs
/- The evaluator of one operation tells what it does: the whole. -/
set_option linter.unusedVariables false
set_option linter.unusedSimpArgs false
namespace Go.Proofs.Ytcpgcenlgihmnaa.Abs
open Go

section
variable {P : Program} {tab : Tab} {H H' : Nat → Option Res}
theorem mpK_iff (ty : Nat) (K : Nat → TI → TI → Prop) : mpK tab ty K ↔ ∃ ti kt vt tk te, lkO tab ty = some ti ∧ ti.d = .mp kt vt ∧ lkO tab kt = some tk ∧ lkO tab vt = some te ∧ K kt tk te := by
  simp only [mpK, lk_iff]
  constructor
  · rintro ⟨ti, h1, h2⟩
    split at h2
    · rename_i kt vt hd
      obtain ⟨tk, h3, te, h4, h5⟩ := h2
      exact ⟨ti, kt, vt, tk, te, h1, hd, h3, h4, h5⟩
    · exact h2.elim
  · rintro ⟨ti, kt, vt, tk, te, h1, h2, h3, h4, h5⟩
    refine ⟨ti, h1, ?_⟩
    rw [h2]
    exact ⟨tk, h3, te, h4, h5⟩
theorem moK_sound {x : LV} {h : HS} {A : Nat → Nat → List (List AV × Option (List (List AV))) → Prop} {B : Prop} (hk : moK x h A B) : (∃ k es m, x = .mr k ∧ lkO h k = some (.mo es m) ∧ A k es m) ∨ B := by
  unfold moK at hk
  split at hk
  · rename_i k
    rw [lk_iff] at hk
    obtain ⟨r, h1, hk⟩ := hk
    split at hk
    · exact .inl ⟨k, _, _, rfl, h1, hk⟩
    · exact .inr hk
  · exact .inr hk
theorem mapO_agree {x : LV} {m : List (List AV × List AV)} {ks : List Nat} (h : mapO H x = some (m, ks)) (hk : ∀ k ∈ ks, H' k = H k) : mapO H' x = some (m, ks) := by
  cases x with
  | mr k =>
    simp only [mapO] at h ⊢
    split at h
    · rename_i m' hm; cases h; rw [hk k (by simp), hm]
    · cases h
  | pv a => cases a <;> exact h
  | _ => exact h
theorem lookL_iff (te : TI) (r : Option (List AV)) (K : LV → Prop) : lookL te r K ↔ ∃ l, lookO te r = some l ∧ K l := by
  cases r with
  | some cs => simp [lookL, lookO, cellsK_iff]
  | none => simp [lookL, lookO, zeroO, wrapL_iff]
end

theorem stepE_sound {P : Program} {o : Oper} {t : TS} {h : HS} {tab : Tab} {K : Eff → Prop} (ht : TabOk P tab) (hd : dstOk o = true) (hk : stepE P tab o t h K) : ∃ e, Does P o (lkO t) (lkO h) e ∧ K e := by
  cases ho : o.op <;> simp only [stepE, ho] at hk
  case move x =>
    rw [ev_iff] at hk
    obtain ⟨l, h1, hk⟩ := hk
    have hx : x ∈ insOf o.op := by rw [ho]; simp [insOf]
    exact ⟨_, does_value fun T' H' ha => ok_move ho (ha.one hx h1), hk⟩
  case assign x =>
    rw [ev_iff] at hk
    obtain ⟨l, h1, hk⟩ := hk
    have hx : x ∈ insOf o.op := by rw [ho]; simp [insOf]
    split at hk
    · rename_i d hdst
      simp only [hsK_iff, slK_iff] at hk
      rcases hk with ⟨_, hk⟩ | ⟨h2, ti, e, te, h3, h4, h5, hk⟩
      · exact ⟨_, does_value fun T' H' ha => ok_assign ho (ha.one hx h1), hk⟩
      · exact ⟨_, fun T' H' ha hH => ok_assign_nil hdst ho (ha.one hx h1) (by rw [hH _ (by simp)]; exact h2), hk⟩
    · exact ⟨_, does_value fun T' H' ha => ok_assign ho (ha.one hx h1), hk⟩
  case pick c x y =>
    simp only [ev_iff, boolL_iff] at hk
    obtain ⟨l, h1, b, rfl, hk⟩ := hk
    unfold ASpl at hk
    have hc : c ∈ insOf o.op := by rw [ho]; simp [insOf]
    have hx : x ∈ insOf o.op := by rw [ho]; simp [insOf]
    have hy : y ∈ insOf o.op := by rw [ho]; simp [insOf]
    cases b with
    | true =>
      obtain ⟨l, h2, hk⟩ := hk.1 rfl
      exact ⟨_, does_value fun T' H' ha => ok_pick ho (ha.one hc h1) (by simpa using ha.one hx h2), hk⟩
    | false =>
      obtain ⟨l, h2, hk⟩ := hk.2 rfl
      exact ⟨_, does_value fun T' H' ha => ok_pick ho (ha.one hc h1) (by simpa using ha.one hy h2), hk⟩
  case alloc ty =>
    split at hk
    · rename_i d hdst
      simp only [ab_iff, lk_iff] at hk
      obtain ⟨h1, ti, h2, hk⟩ := hk
      exact ⟨_, fun T' H' ha hH => ok_alloc ht hdst ho h2 (by rw [hH _ (by simp)]; exact h1), hk⟩
    · exact hk.elim
  case box ty x =>
    split at hk
    · rename_i d hdst
      simp only [ev_iff, cellsL_iff, ab_iff] at hk
      obtain ⟨l, h1, cs, h2, h3, hk⟩ := hk
      have hx : x ∈ insOf o.op := by rw [ho]; simp [insOf]
      exact ⟨_, fun T' H' ha hH => ok_box hdst ho (ha.one hx h1) h2 (by rw [hH _ (by simp)]; exact h3), hk⟩
    · exact hk.elim
  case build ty parts =>
    rw [lk_iff] at hk
    obtain ⟨ti, h1, hk⟩ := hk
    have hin : ∀ {T'}, Agree o (lkO t) T' → ∀ x ∈ parts.toList.map (·.2), evF T' x = evF (lkO t) x := fun ha x hx => ha x (by rw [ho]; exact hx)
    split at hk
    · rename_i fs hd
      rw [fillL_iff] at hk
      obtain ⟨cs, h2, hk⟩ := hk
      exact ⟨_, does_value fun T' H' ha => ok_build_st ht ho h1 hd (h2.agree (hin ha)), hk⟩
    · rename_i n e hd
      rw [lk_iff] at hk
      obtain ⟨te, h3, hk⟩ := hk
      rw [fillL_iff] at hk
      obtain ⟨cs, h2, hk⟩ := hk
      exact ⟨_, does_value fun T' H' ha => ok_build_ar ht ho h1 hd h3 (h2.agree (hin ha)), hk⟩
    · exact hk.elim
  case buildSlice ty n parts =>
    split at hk
    · rename_i d hdst
      rw [slK_iff] at hk
      obtain ⟨ti, e, te, h1, h2, h3, hk⟩ := hk
      split at hk
      · rename_i hb
        simp only [elemsL_iff, lenEq_iff, deads_iff, ab_iff] at hk
        obtain ⟨xs, ks, h4, h5, h6, hk⟩ := hk
        exact ⟨_, fun T' H' ha hH => ok_buildSlice ht hdst ho h1 h2 h3 (by have := Nat.le_of_ble_eq_true hb; exact this) (h4.agree (fun x hx => ha x (by rw [ho]; exact hx)) (fun k hk => hH k (by simp [hk]))) h5 (by rw [hH _ (by simp)]; exact h6), hk⟩
      · exact hk.elim
    · exact hk.elim
  case load ty x => exact s_load ht ho hk
  case store ty a x => exact s_store ht ho (by simpa [dstOk, ho] using hd) hk
  case nilCheck x =>
    rw [ev_iff] at hk
    obtain ⟨l, h1, hk⟩ := hk
    have hx : x ∈ insOf o.op := by rw [ho]; simp [insOf]
    unfold nilL at hk
    split at hk
    · exact ⟨_, does_value fun T' H' ha => ok_nilCheck ho (ha.one hx h1) (.inl (.bx _ _)), hk⟩
    · exact ⟨_, does_value fun T' H' ha => ok_nilCheck ho (ha.one hx h1) (.inl (.er _ _ _)), hk⟩
    · exact ⟨_, does_value fun T' H' ha => ok_nilCheck ho (ha.one hx h1) (.inl (.ep _ _)), hk⟩
    · exact ⟨_, does_value fun T' H' ha => ok_nilCheck ho (ha.one hx h1) (.inr ⟨_, _, rfl⟩), hk⟩
    · exact hk.elim
  case binOp op ty x y r =>
    simp only [ev_iff, lk_iff] at hk
    obtain ⟨l, h1, l', h2, ti, h3, hk⟩ := hk
    have hx : x ∈ insOf o.op := by rw [ho]; simp [insOf]
    have hy : y ∈ insOf o.op := by rw [ho]; simp [insOf]
    split at hk
    · rename_i ls
      unfold eqvE at hk
      simp only [kvL_iff, toAVs_iff] at hk
      obtain ⟨cs, g1, cs', g2, a, k1, g3, b, k2, g4, hk⟩ := hk
      rw [e0H] at g3 g4
      obtain rfl := toAVsO_bare g3
      obtain rfl := toAVsO_bare g4
      unfold AEqv at hk
      obtain ⟨sg, r, q1, q2, q3, q4, hk⟩ := hk
      have key := fun (T' : Nat → Option LV) (H' : Nat → Option Res) (ha : Agree o (lkO t) T') => ok_eqv ht ho h3 (ha.one hx h1) ⟨ls, rfl⟩ (ha.one hy h2) g1 g2 (toAVsO_agree (H' := H') g3 (by simp)) (toAVsO_agree (H' := H') g4 (by simp)) q1 q2 q3 q4
      split at hk
      · exact ⟨_, does_value fun T' H' ha => (key T' H' ha).1 rfl, hk⟩
      · exact ⟨_, does_value fun T' H' ha => (key T' H' ha).2 rfl, hk⟩
      · exact hk.elim
    unfold binL at hk
    split at hk
    · split at hk
      · rename_i hb
        obtain rfl := keqB_eq hb
        obtain ⟨v, h4, hk⟩ := binI_iff _ _ _ _ _ hk
        exact ⟨_, does_value fun T' H' ha => ok_bin ho (ha.one hx h1) (ha.one hy h2) h4, hk⟩
      · exact hk.elim
    · split at hk
      · exact ⟨_, does_value fun T' H' ha => ok_bin_str ho (ha.one hx h1) (ha.one hy h2) (.inl ⟨rfl, rfl⟩), hk⟩
      · exact ⟨_, does_value fun T' H' ha => ok_bin_str ho (ha.one hx h1) (ha.one hy h2) (.inr ⟨rfl, rfl⟩), hk⟩
      · exact hk.elim
    · split at hk
      · rename_i hd; exact ⟨_, does_value fun T' H' ha => ok_bin_bool ht ho h3 hd (ha.one hx h1) (ha.one hy h2) (.inl ⟨rfl, rfl⟩), hk⟩
      · rename_i hd; exact ⟨_, does_value fun T' H' ha => ok_bin_bool ht ho h3 hd (ha.one hx h1) (ha.one hy h2) (.inr ⟨rfl, rfl⟩), hk⟩
      · exact hk.elim
    · exact hk.elim
  case unOp op ty x =>
    rw [ev_iff] at hk
    obtain ⟨l, h1, hk⟩ := hk
    have hx : x ∈ insOf o.op := by rw [ho]; simp [insOf]
    unfold unL at hk
    split at hk
    · exact ⟨_, does_value fun T' H' ha => ok_un_not ho (ha.one hx h1), hk⟩
    · exact ⟨_, does_value fun T' H' ha => ok_un_neg ho (ha.one hx h1), hk⟩
    · exact hk.elim
  case convert src dst x =>
    simp only [lk_iff, ev_iff] at hk
    obtain ⟨ts, h0, l, h1, ti, h2, hk⟩ := hk
    have hx : x ∈ insOf o.op := by rw [ho]; simp [insOf]
    unfold convL at hk
    split at hk
    · rename_i hd
      exact ⟨_, does_value fun T' H' ha => ok_conv_int ht ho h2 hd (und_of (ht _ _ h0)) (ha.one hx h1), hk⟩
    · exact hk.elim
  case slice ty x lo hi mx =>
    cases mx with
    | none =>
      cases lo with
      | some lo => exact s_slice ht ho hk
      | none =>
        cases hi with
        | some hi => exact s_slice ht ho hk
        | none =>
          simp only [stepE, ho, ev_iff, lk_iff] at hk
          obtain ⟨l, h1, ti, h2, hk⟩ := hk
          have hx : x ∈ insOf o.op := by rw [ho]; simp [insOf]
          split at hk
          · rename_i hd
            refine s_slice ht ho ?_
            simp only [ev_iff, evO, lk_iff]
            refine ⟨l, h1, ti, h2, ?_⟩
            rw [hd]
            exact hk
          · rename_i e hd
            refine s_slice ht ho ?_
            simp only [ev_iff, evO, lk_iff]
            refine ⟨l, h1, ti, h2, ?_⟩
            rw [hd]
            exact hk
          · rename_i n e hd
            unfold arrE at hk
            split at hk
            · rename_i k
              simp only [lk_iff] at hk
              obtain ⟨te, h3, r, h4, hk⟩ := hk
              split at hk
              · split at hk
                · rename_i hb
                  have hts := beq_t hb
                  simp only [lenEq_iff, toAVs_iff] at hk
                  obtain ⟨h5, as, ks, h6, hk⟩ := hk
                  rw [e0H] at h6
                  exact ⟨_, fun T' H' ha hH => ok_arr ht ho h2 hd h3 hts (ha.one hx h1) (by rw [hH _ (by simp)]; exact h4) h5 h6, hk⟩
                · exact hk.elim
              · exact hk.elim
            · exact hk.elim
          · exact hk.elim
    | some m =>
      cases lo with
      | some lo => exact hk.elim
      | none =>
        cases hi with
        | none => exact hk.elim
        | some hi =>
          simp only [stepE, ho, ev_iff] at hk
          obtain ⟨l, h1, l2, h2, l3, h3, hk⟩ := hk
          have hx : x ∈ insOf o.op := by rw [ho]; simp [insOf]
          have hx2 : hi ∈ insOf o.op := by rw [ho]; simp [insOf]
          have hx3 : m ∈ insOf o.op := by rw [ho]; simp [insOf]
          unfold clipE at hk
          split at hk
          · rename_i k n
            simp only [lk_iff] at hk
            obtain ⟨ti, h4, hk⟩ := hk
            split at hk
            · rename_i e hd
              obtain ⟨te, h5, r, h6, hk⟩ := hk
              split at hk
              · split at hk
                · rename_i hb
                  obtain rfl := beq_t hb
                  simp only [intL_iff] at hk
                  unfold AEq ALe at hk
                  obtain ⟨k1, i, rfl, k2, j, rfl, rfl, h7, h8, hk⟩ := hk
                  exact ⟨_, fun T' H' ha hH => ok_clip ht ho h4 hd h5 (ha.one hx h1) (by rw [hH _ (by simp)]; exact h6) (ha.one hx2 h2) (ha.one hx3 h3) h7 h8, hk⟩
                · exact hk.elim
              · exact hk.elim
            · exact hk.elim
          · exact hk.elim
  case fieldAddr s x f =>
    simp only [ev_iff, lk_iff] at hk
    obtain ⟨l, h1, ti, h2, hk⟩ := hk
    have hx : x ∈ insOf o.op := by rw [ho]; simp [insOf]
    split at hk
    · rename_i fs hd
      rw [nth_iff] at hk
      obtain ⟨fo, h3, hk⟩ := hk
      unfold fldL at hk
      split at hk
      · exact ⟨_, does_value fun T' H' ha => ok_fld ht ho h2 hd h3 (ha.one hx h1) (.bx _ _), hk⟩
      · exact ⟨_, does_value fun T' H' ha => ok_fld ht ho h2 hd h3 (ha.one hx h1) (.er _ _ _), hk⟩
      · exact ⟨_, does_value fun T' H' ha => ok_fld ht ho h2 hd h3 (ha.one hx h1) (.ep _ _), hk⟩
      · exact hk.elim
    · exact hk.elim
  case indexAddr ty x i =>
    simp only [ev_iff, lk_iff] at hk
    obtain ⟨l, h1, l', h2, ti, h3, hk⟩ := hk
    have hx : x ∈ insOf o.op := by rw [ho]; simp [insOf]
    have hi : i ∈ insOf o.op := by rw [ho]; simp [insOf]
    split at hk
    · rename_i e hd
      obtain ⟨te, h4, hk⟩ := hk
      split at hk
      · unfold idxV at hk
        split at hk
        · simp only [lk_iff] at hk
          obtain ⟨r, h5, hk⟩ := hk
          split at hk
          · split at hk
            · rename_i hb
              obtain rfl := beq_t hb
              unfold ARow at hk
              obtain ⟨h6, h7, hk⟩ := hk
              exact ⟨_, fun T' H' ha hH => ok_idx_rv ht ho h3 hd h4 (ha.one hx h1) (by rw [hH _ (by simp)]; exact h5) (ha.one hi h2) h6 h7, hk⟩
            · exact hk.elim
          · exact hk.elim
        · exact hk.elim
      unfold idxL at hk
      split at hk
      · split at hk
        · rename_i hb
          obtain rfl := beq_t hb
          unfold AIdx at hk
          obtain ⟨c, h5, h6, hk⟩ := hk
          exact ⟨_, does_value fun T' H' ha => ok_idx_lst ht ho h3 hd h4 (ha.one hx h1) (ha.one hi h2) h5 h6, hk⟩
        · exact hk.elim
      · rw [lk_iff] at hk
        obtain ⟨r, h5, hk⟩ := hk
        split at hk
        · split at hk
          · rename_i hb
            obtain rfl := beq_t hb
            unfold ARow at hk
            obtain ⟨h6, h7, hk⟩ := hk
            exact ⟨_, fun T' H' ha hH => ok_idx_row ht ho h3 hd h4 (ha.one hx h1) (by rw [hH _ (by simp)]; exact h5) (ha.one hi h2) h6 h7, hk⟩
          · exact hk.elim
        · exact hk.elim
      · exact hk.elim
    · rename_i n e hd
      obtain ⟨te, h4, hk⟩ := hk
      unfold idxA at hk
      split at hk
      · split at hk
        · rename_i hb
          have hlt := Nat.le_of_ble_eq_true hb
          split at hk
          · exact ⟨_, does_value fun T' H' ha => ok_idx_arr ht ho h3 hd h4 (ha.one hx h1) (.bx _ _) (ha.one hi h2) hlt, hk⟩
          · exact ⟨_, does_value fun T' H' ha => ok_idx_arr ht ho h3 hd h4 (ha.one hx h1) (.er _ _ _) (ha.one hi h2) hlt, hk⟩
          · exact ⟨_, does_value fun T' H' ha => ok_idx_arr ht ho h3 hd h4 (ha.one hx h1) (.ep _ _) (ha.one hi h2) hlt, hk⟩
          · exact hk.elim
        · exact hk.elim
      · exact hk.elim
    · exact hk.elim
  case index ty x i =>
    simp only [ev_iff, lk_iff] at hk
    obtain ⟨l, h1, l', h2, ti, h3, hk⟩ := hk
    have hx : x ∈ insOf o.op := by rw [ho]; simp [insOf]
    have hi : i ∈ insOf o.op := by rw [ho]; simp [insOf]
    unfold indexL at hk
    split at hk
    · rename_i hd
      unfold AByte at hk
      obtain ⟨h4, hk⟩ := hk
      exact ⟨_, does_value fun T' H' ha => ok_index_str ht ho h3 hd (ha.one hx h1) (ha.one hi h2) h4, hk⟩
    · exact hk.elim
  case extract x i =>
    rw [ev_iff] at hk
    obtain ⟨l, h1, hk⟩ := hk
    have hx : x ∈ insOf o.op := by rw [ho]; simp [insOf]
    split at hk
    · rw [nth_iff] at hk
      obtain ⟨v, h2, hk⟩ := hk
      exact ⟨_, does_value fun T' H' ha => ok_extract ho (ha.one hx h1) h2, hk⟩
    · exact hk.elim
  case makeFunc fn first captured =>
    split at hk
    · rename_i f hc
      rw [evs_iff] at hk
      obtain ⟨l, h1, hk⟩ := hk
      exact ⟨_, does_value fun T' H' ha => ok_makeFunc ho hc (by rw [evsF_agree (T' := T') (T := lkO t) fun x hx => ha x (by rw [ho]; exact hx)]; exact h1), hk⟩
    · exact hk.elim
  case makeSlice ty n c =>
    split at hk
    · rename_i d hdst
      split at hk
      · rename_i n n'
        split at hk
        · rename_i hb
          obtain rfl := beq_t hb
          simp only [lk_iff, intL_iff, slK_iff, toAVs_iff] at hk
          obtain ⟨l, h1, k, m, rfl, ti, e, te, h2, h3, h4, z, ks, h5, hk⟩ := hk
          unfold ALe AFits at hk
          simp only [ab_iff] at hk
          obtain ⟨h6, h7, h8, h9, hk⟩ := hk
          have hx : Operand.tmp n ∈ insOf o.op := by rw [ho]; simp [insOf]
          have e0 : lkO ([] : HS) = fun _ => none := by funext k; rfl
          rw [e0] at h5
          exact ⟨_, fun T' H' ha hH => ok_makeSlice ht hdst ho h2 h3 h4 h5 (ha.one hx h1) h6 h7 h8 (by rw [hH _ (by simp)]; exact h9), hk⟩
        · exact hk.elim
      · exact hk.elim
    · exact hk.elim
  case call c => exact s_call ht hd ho hk
  case makeMap ty r =>
    cases r with
    | none =>
      simp only [stepE] at hk
      split at hk
      · rename_i d hdst
        rw [ab_iff] at hk
        obtain ⟨h1, hk⟩ := hk
        exact ⟨_, fun T' H' ha hH => ok_makeMap hdst ho (by rw [hH _ (by simp)]; exact h1), hk⟩
      · exact hk.elim
    | some r => exact hk.elim
  case range ty x =>
    split at hk
    · rename_i d hdst
      rw [ev_iff] at hk
      obtain ⟨l, h1, hk⟩ := hk
      have hx : x ∈ insOf o.op := by rw [ho]; simp [insOf]
      split at hk
      · simp only [mpK_iff, ab_iff] at hk
        obtain ⟨ti, kt, vt, tk, te, h2, h3, h4, h5, h6, hk⟩ := hk
        exact ⟨_, fun T' H' ha hH => ok_range ht hdst ho h2 h3 (ha.one hx h1) (by rw [hH _ (by simp)]; exact h6), hk⟩
      · exact hk.elim
    · exact hk.elim
  case entry x =>
    simp only [ev_iff] at hk
    obtain ⟨l, h1, hk⟩ := hk
    have hx : x ∈ insOf o.op := by rw [ho]; simp [insOf]
    split at hk
    · rename_i k
      rw [lk_iff] at hk
      obtain ⟨r, h2, hk⟩ := hk
      split at hk
      · simp only [cellsK_iff] at hk
        exact ⟨_, fun T' H' ha hH => ok_entry ho (ha.one hx h1) (by rw [hH _ (by simp)]; exact h2), hk⟩
      · exact hk.elim
    · exact hk.elim
  case lookup ty x y ok =>
    simp only [ev_iff] at hk
    obtain ⟨lx, h1, ly, h2, hk⟩ := hk
    have hx : x ∈ insOf o.op := by rw [ho]; simp [insOf]
    have hy : y ∈ insOf o.op := by rw [ho]; simp [insOf]
    rcases moK_sound hk with ⟨k, es, m, rfl, hm, hk⟩ | hk
    · have hk : takeE P tab ty o.dst k es m ly ok h K := hk
      cases hdst : o.dst with
      | none => rw [hdst] at hk; cases ok <;> exact hk.elim
      | some d =>
      rw [hdst] at hk
      cases ok with
      | true => exact hk.elim
      | false =>
        unfold takeE at hk
        simp only at hk
        rw [mpK_iff] at hk
        obtain ⟨ti, kt, vt, tk, te, h3, h4, h5, h6, hk⟩ := hk
        split at hk
        · rename_i e hte htz
          simp only [kvL_iff, toAVs_iff] at hk
          obtain ⟨cs, h8, kc, ks', h9, hk⟩ := hk
          unfold ATake at hk
          obtain ⟨sg, xs, m1, g1, g2, g3, g4, hk⟩ := hk
          rw [ab_iff] at hk
          obtain ⟨h10, hk⟩ := hk
          rw [e0H] at h9
          obtain rfl := toAVsO_bare h9
          exact ⟨_, fun T' H' ha hH => ok_take ht hdst ho h3 h4 h5 h6 hte htz (ha.one hx h1) (by rw [hH _ (by simp)]; exact hm) (ha.one hy h2) h8 (toAVsO_agree h9 (by simp)) g1 g2 g3 g4 (by rw [hH _ (by simp)]; exact h10), hk⟩
        · exact hk.elim
    have hk : ev t x fun x => ev t y fun y => lookupE P tab ty x y ok h K := by simp only [ev_iff]; exact ⟨lx, h1, ly, h2, hk⟩
    simp only [ev_iff, lookupE, mpK_iff, mapL_iff, kvL_iff, toAVs_iff] at hk
    obtain ⟨lx, h1, ly, h2, ti, kt, vt, tk, te, h3, h4, h5, h6, m, ks, h7, cs, h8, kc, ks', h9, hk⟩ := hk
    unfold ALook at hk
    obtain ⟨sg, r, g1, g2, g3, g4, hk⟩ := hk
    rw [lookL_iff] at hk
    obtain ⟨l, h10, hk⟩ := hk
    have e0 : lkO ([] : HS) = fun _ => none := by funext k; rfl
    rw [e0] at h9
    obtain rfl := toAVsO_bare h9
    have hx : x ∈ insOf o.op := by rw [ho]; simp [insOf]
    have hy : y ∈ insOf o.op := by rw [ho]; simp [insOf]
    cases ok with
    | true => exact ⟨_, fun T' H' ha hH => ok_lookup (ok := true) ht ho h3 h4 h5 h6 (ha.one hx h1) (ha.one hy h2) (mapO_agree h7 hH) h8 (toAVsO_agree h9 (by simp)) g1 g2 g3 g4 h10, hk⟩
    | false => exact ⟨_, fun T' H' ha hH => ok_lookup (ok := false) ht ho h3 h4 h5 h6 (ha.one hx h1) (ha.one hy h2) (mapO_agree h7 hH) h8 (toAVsO_agree h9 (by simp)) g1 g2 g3 g4 h10, hk⟩
  case mapUpdate ty x y u =>
    simp only [ev_iff] at hk
    obtain ⟨lx, h1, ly, h2, lu, h3, hk⟩ := hk
    have hdst : o.dst = none := by simpa [dstOk, ho] using hd
    have hx : x ∈ insOf o.op := by rw [ho]; simp [insOf]
    have hy : y ∈ insOf o.op := by rw [ho]; simp [insOf]
    have hu : u ∈ insOf o.op := by rw [ho]; simp [insOf]
    rcases moK_sound hk with ⟨k, es, m, rfl, hm, hk⟩ | hk
    · unfold putE at hk
      split at hk
      · rename_i d n
        simp only [mpK_iff, lk_iff] at hk
        obtain ⟨ti, kt, vt, tk, te, h4, h5, h6, h7, r, h8, hk⟩ := hk
        split at hk
        · split at hk
          · rename_i hb
            obtain rfl := beq_t hb
            unfold AEq at hk
            obtain ⟨hn, hk⟩ := hk
            simp only [kvL_iff, toAVs_iff] at hk
            obtain ⟨cs, h9, kc, ks', h10, hk⟩ := hk
            unfold APut at hk
            obtain ⟨sg, m2, g1, g2, g3, g4, hk⟩ := hk
            rw [e0H] at h10
            obtain rfl := toAVsO_bare h10
            exact ⟨_, fun T' H' ha hH => ok_put (te := te) ht hdst ho h4 h5 h6 (ha.one hx h1) (by rw [hH _ (by simp)]; exact hm) (ha.one hy h2) (ha.one hu h3) (by rw [hH _ (by simp)]; exact h8) hn h9 (toAVsO_agree h10 (by simp)) g1 g2 g3 g4, hk⟩
          · exact hk.elim
        · exact hk.elim
      · exact hk.elim
    unfold mapUpdateE at hk
    split at hk
    · rename_i k
      simp only [mpK_iff, lk_iff] at hk
      obtain ⟨ti, kt, vt, tk, te, h4, h5, h6, h7, r, h8, hk⟩ := hk
      split at hk
      · simp only [kvL_iff, toAVs_iff] at hk
        obtain ⟨cs, h9, kc, ks', h10, us, h11, vc, ks, h12, hk⟩ := hk
        split at hk
        · exact hk.elim
        · rename_i hin
          unfold AUpd at hk
          obtain ⟨sg, m', g1, g2, g3, g4, hk⟩ := hk
          rw [deads_iff] at hk
          have e0 : lkO ([] : HS) = fun _ => none := by funext k; rfl
          rw [e0] at h10
          obtain rfl := toAVsO_bare h10
          have hdst : o.dst = none := by simpa [dstOk, ho] using hd
          have hx : x ∈ insOf o.op := by rw [ho]; simp [insOf]
          have hy : y ∈ insOf o.op := by rw [ho]; simp [insOf]
          have hu : u ∈ insOf o.op := by rw [ho]; simp [insOf]
          exact ⟨_, fun T' H' ha hH => ok_mapUpdate ht hdst ho h4 h5 h6 h7 (ha.one hx h1) (by rw [hH _ (by simp)]; exact h8) (ha.one hy h2) (ha.one hu h3) h9 (toAVsO_agree h10 (by simp)) h11 (toAVsO_agree h12 fun k hk => hH k (by simp [hk])) (inL_f hin) g1 g2 g3 g4, hk⟩
      · exact hk.elim
    · exact hk.elim
end Go.Proofs.Ytcpgcenlgihmnaa.Abs
/- A region in the order of its text. -/
set_option linter.unusedVariables false
set_option linter.unusedSimpArgs false
namespace Go.Proofs.Ytcpgcenlgihmnaa.Abs
open Go

section
variable {P : Program} {o : Oper} {t : TS} {h : HS} {tab : Tab}

/-- What one operation does, be it so or so. -/
def OpS (P : Program) (o : Oper) (T : Nat → Option LV) (H : Nat → Option Res) (K : Eff → Prop) : Prop :=
  ∀ (F : Fr) (S : Nat → Prop) (γ : Nat → GV) (a : Act) (w : World) (next : Act → World → Prop) (Q : Exit → Act → World → Prop), (∀ n, o.dst = some n → n < F.N) → ModF F S γ T H a.tmps w →
    (∀ e S' γ' a' w', K e → a'.defers = a.defers → ModF F S' γ' (updT T o.dst e.lv) (updH e.puts H) a'.tmps w' → next a' w') → o.wp P a w next Q
theorem Does.opS {T : Nat → Option LV} {H : Nat → Option Res} {e : Eff} {K : Eff → Prop} (hd : Does P o T H e) (hk : K e) : OpS P o T H K :=
  fun F S γ a w next Q hdst M hn => hd T H (fun _ _ => rfl) (fun _ _ => rfl) F S γ a w next Q hdst M fun S' γ' a' w' h1 h2 => hn e S' γ' a' w' hk h1 h2

theorem run_slNil {ty e : Nat} {w : World} (hu : P.underlying ty = some (.slice e)) (a : Option Addr) (n c : Nat) : (Op.equal ty (.slice a n c) (.slice none 0 0)).run P w = .ok a.isNone w := by
  have key : ∀ d, (Op.equalIn (d + 1) ty (.slice a n c) (.slice none 0 0)).run P w = .ok a.isNone w := fun d => by
    cases a <;> simp [Op.equalIn, run_und hu]
  exact key 9999
theorem opS_nil (ht : TabOk P tab) {op : BinOp} {ty r : Nat} {x : Operand} (ho : o.op = .binOp op ty x (.const (.slice none 0 0)) r) {neg : Bool} (hop : op = if neg then .neq else .eql) {K : Eff → Prop}
    (hk : ev t x fun x => lk ty (fun ti => slQ ti.d (nilQ x fun b => K ⟨.pv (.bool (b != neg)), [], []⟩)) tab) : OpS P o (lkO t) (lkO h) K := by
  simp only [ev_iff, lk_iff] at hk
  obtain ⟨l, h1, ti, h2, hk⟩ := hk
  unfold slQ at hk
  split at hk
  · rename_i e hd
    intro F S γ a w next Q hdst M hn
    obtain ⟨i, z, hti⟩ := tif (ht _ _ h2)
    have hu := hti.d
    rw [hd] at hu
    have hu := sl_of hu
    have hr := M.eval h1
    have : ∃ ad n c, a.eval x = .slice ad n c ∧ K ⟨.pv (.bool (ad.isNone != neg)), [], []⟩ := by
      generalize he : a.eval x = v at hr
      unfold nilQ at hk
      split at hk
      · cases hr; exact ⟨none, 0, 0, rfl, hk⟩
      · rename_i es xs
        unfold ANil at hk
        cases hr with
        | pv hr =>
          cases hr with
          | lst ad c es _ b off vs hc ha he' hcell hrep =>
            refine ⟨ad, _, c, rfl, ?_⟩
            cases xs with
            | nil => cases ad with
              | none => exact hk.1 rfl
              | some _ => exact hk.2
            | cons y ys => rw [(ha (by simp)).1]; exact hk.2
      · rename_i k m
        unfold ANil at hk
        cases hr with
        | rw _ _ es xs h' hm hc hb =>
          refine ⟨_, _, _, rfl, ?_⟩
          cases hg : (γ k).blk with
          | none =>
            cases m with
            | zero => exact hk.1 rfl
            | succ m => obtain ⟨b, hb⟩ := hb (by omega); rw [hg] at hb; cases hb
          | some b => exact hk.2
        | drw _ _ ad c h' hc ha =>
          refine ⟨ad, _, c, rfl, ?_⟩
          cases ad with
          | none =>
            cases m with
            | zero => exact hk.1 rfl
            | succ m => obtain ⟨b, o', hb⟩ := ha (by omega); cases hb
          | some _ => exact hk.2
      · exact hk.elim
    obtain ⟨ad, n, c, he, hK⟩ := this
    have hrun : (execOp a.eval o).run P w = .ok (.value (.bool (ad.isNone != neg))) w := by
      have e2 : a.eval (.const (.slice none 0 0)) = .slice none 0 0 := rfl
      cases neg
      · subst hop; simp [execOp, ho, he, e2, eqGuard, binOp, run_slNil hu]
      · subst hop; simp [execOp, ho, he, e2, eqGuard, binOp, run_slNil hu]
    simp only [Oper.wp, hrun, Oper.upon]
    exact hn _ S γ _ _ hK (by cases o.dst <;> rfl) (M.put o.dst hdst (.pv (.bool _)))
  · exact hk.elim
theorem filter_erase : ∀ (l : List MapEntry) (j : Nat) (h : j < l.length), (l.map (·.born)).Nodup → l.filter (fun x => !(x.born == l[j].born)) = l.eraseIdx j
  | x :: l, 0, h, hn => by
    simp only [List.map_cons, List.nodup_cons] at hn
    simp only [List.getElem_cons_zero, List.filter_cons, beq_self_eq_true, Bool.not_true, Bool.false_eq_true, if_false, List.eraseIdx_cons_zero]
    refine List.filter_eq_self.2 fun y hy => ?_
    simp only [Bool.not_eq_true', beq_eq_false_iff_ne]
    rintro e
    exact hn.1 (by rw [← e]; exact List.mem_map.2 ⟨y, hy, rfl⟩)
  | x :: l, j + 1, h, hn => by
    simp only [List.map_cons, List.nodup_cons] at hn
    have hj : j < l.length := by simpa using h
    have hx : (x.born == l[j].born) = false := by
      simp only [beq_eq_false_iff_ne]
      intro e
      exact hn.1 (by rw [e]; exact List.mem_map.2 ⟨l[j], List.getElem_mem hj, rfl⟩)
    simp only [List.getElem_cons_succ, List.filter_cons, hx, Bool.not_false, if_true, List.eraseIdx_cons_succ]
    rw [filter_erase l j hj hn.2]
theorem leftE_push {es : Array MapEntry} {seen : Array Nat} (hn : (es.toList.map (·.born)).Nodup) {j : Nat} (h : j < (leftE es seen).size) : (leftE es (seen.push (leftE es seen)[j].born)).toList = (leftE es seen).toList.eraseIdx j := by
  have hL : ((leftE es seen).toList.map (·.born)).Nodup := by
    have : (leftE es seen).toList = es.toList.filter fun e => !seen.contains e.born := by simp [leftE]
    rw [this]
    exact hn.sublist (List.Sublist.map _ List.filter_sublist)
  rw [← filter_erase (leftE es seen).toList j (by simpa using h) hL]
  have e1 : (leftE es seen).toList[j]'(by simpa using h) = (leftE es seen)[j] := by simp
  rw [e1]
  generalize (leftE es seen)[j].born = q
  simp only [leftE, Array.toList_filter, List.filter_filter]
  congr 1
  funext x
  rw [Array.contains_push]
  cases hq : x.born == q <;> simp
theorem opS_next {x : Operand} (ho : o.op = .next x false) {K : Eff → Prop}
    (hk : ev t x fun x => match x with
      | .it k => lk k (fun r => match r with
        | .it rem _ => ANext rem (fun x rem' => cellsK x.1 fun a => cellsK x.2 fun b => K ⟨.tu [.pv (.bool true), a, b], [(k, .it rem' (some x))], [k]⟩) (K ⟨.tu [.pv (.bool false)], [], [k]⟩)
        | _ => False) h
      | _ => False) : OpS P o (lkO t) (lkO h) K := by
  rw [ev_iff] at hk
  obtain ⟨l, h1, hk⟩ := hk
  split at hk
  · rename_i k
    rw [lk_iff] at hk
    obtain ⟨r, h2, hk⟩ := hk
    split at hk
    · rename_i rem cur0
      unfold ANext at hk
      obtain ⟨hA, hB⟩ := hk
      simp only [cellsK_iff] at hA
      intro F S γ a w nxt Q hdst M hn
      have hv := M.eval h1
      generalize he : a.eval x = v at hv
      cases hv with
      | dit _ _ h => rw [h2] at h; cases h
      | it _ b _ _ h hb =>
        rw [h2] at h
        cases h
        obtain ⟨b', hb', r, seen, es, clock, rem0, g1, hS, g3, g4, g5, g6, g7, g8⟩ := M.own.rep k _ trivial h2
        rw [hb] at hb'
        cases hb'
        have htest := next_test_false seen es clock clock g4.1 (Nat.le_refl _)
        have e1 : (leftE es seen).filter (fun x => decide (x.born < clock)) = leftE es seen := Array.filter_eq_self.2 (fun x hx => by
          have : x ∈ es := by simp [leftE] at hx; exact hx.1
          simpa using g4.1 x (by simpa using this))
        have e2 : (leftE es seen).filter (fun x => decide (x.born ≥ clock)) = #[] := by
          rw [Array.filter_eq_empty_iff]
          intro x hx
          have : x ∈ es := by simp [leftE] at hx; exact hx.1
          have := g4.1 x (by simpa using this)
          simp
          omega
        by_cases h0 : (leftE es seen).size = 0
        · have hrem : rem = [] := by
            have : rem0 = [] := List.eq_nil_of_length_eq_zero (by omega)
            subst this
            exact List.nil_perm.1 g5
          have hrun : (Instr.next (.pointer (some ⟨b, 0, none⟩)) false o.type).run P w = .ok (.tuple #[.bool false]) w := by
            have hL : leftE es seen = #[] := Array.eq_empty_of_size_eq_zero h0
            have hL' : Array.filter (fun e => !seen.contains e.born) es = #[] := hL
            simp only [Instr.next, Sem.run_bind, run_getObj_iter g1, Result.andThen_ok, MapKept.run_getObj_map g3, htest, Bool.false_eq_true, if_false, hL']
            simp [choose, Sem.run, Question.forced]
          have hrun' : (execOp a.eval o).run P w = .ok (.value (.tuple #[.bool false])) w := by simp [execOp, ho, he, hrun]
          simp only [Oper.wp, hrun', Oper.upon]
          refine hn _ S γ _ _ (hB hrem) (by cases o.dst <;> rfl) (M.put o.dst hdst (.tu _ _ rfl fun i v c hv hc => ?_))
          rcases i with _ | i
          · cases hv; cases hc; exact .pv (.bool _)
          · simp at hc
        · have hch : ∃ (j : Nat) (w1 : World), j < (leftE es seen).size ∧ (w1 = w ∨ w1 = w.drew) ∧ (choose (Question.mapNext (leftE es seen).size)).run P w = .ok j w1 := by
            by_cases hf : (leftE es seen).size ≤ 1
            · exact ⟨0, w, by omega, .inl rfl, by simp [choose, Sem.run, Question.forced, hf]⟩
            · exact ⟨_, w.drew, Nat.mod_lt _ (by omega), .inr rfl, by
                simp only [choose, Sem.run, Question.forced, decide_eq_true_eq, hf, if_false, Question.cut]
                rfl⟩
          obtain ⟨j, w1, hj, hw1, hch⟩ := hch
          have hh1 : w1.heap = w.heap := by rcases hw1 with rfl | rfl <;> rfl
          have g1' : w1.heap[b]? = some (.mapIter (some r) clock seen clock) := by rw [hh1]; exact g1
          have hrun : (Instr.next (.pointer (some ⟨b, 0, none⟩)) false o.type).run P w = .ok (.tuple #[.bool true, (leftE es seen)[j].key, (leftE es seen)[j].val]) { w1 with heap := w1.heap.setIfInBounds b (.mapIter (some r) clock (seen.push (leftE es seen)[j].born) clock) } := by
            have hne : (leftE es seen).isEmpty = false := by simp [Array.isEmpty, h0]
            have hu : Array.filter (fun e => !seen.contains e.born) es = leftE es seen := rfl
            simp only [Instr.next, Sem.run_bind, run_getObj_iter g1, Result.andThen_ok, MapKept.run_getObj_map g3, htest, Bool.false_eq_true, if_false, hu, e1, e2, Array.append_empty, hne, Array.empty_append, Array.size_map, hch, Array.getElem?_map, Array.getElem?_eq_getElem hj, Option.map_some, run_setObj_iter g1', Sem.run_pure]
          have hrun' : (execOp a.eval o).run P w = .ok (.value (.tuple #[.bool true, (leftE es seen)[j].key, (leftE es seen)[j].val])) { w1 with heap := w1.heap.setIfInBounds b (.mapIter (some r) clock (seen.push (leftE es seen)[j].born) clock) } := by simp [execOp, ho, he, hrun]
          have hj0 : j < rem0.length := by omega
          have hx : rem0[j]? = some rem0[j] := by simp [hj0]
          obtain ⟨p1, _⟩ := perm_split (y := rem0[j]) hx
          obtain ⟨q1, q2⟩ := MapKept.heap_set (w := w1) (o' := .mapIter (some r) clock (seen.push (leftE es seen)[j].born) clock) g1'
          have hoth : ∀ c, c ≠ b → (w1.heap.setIfInBounds b (.mapIter (some r) clock (seen.push (leftE es seen)[j].born) clock))[c]? = w.heap[c]? := fun c hc => by rw [q2 c hc, hh1]
          have hSb : ∀ c, S c → c ≠ b := fun c hc e => by subst e; exact M.no h2 (by simp) hb hc
          have hmono : ∀ v a, Rep w S v a → Rep { w1 with heap := w1.heap.setIfInBounds b (.mapIter (some r) clock (seen.push (leftE es seen)[j].born) clock) } S v a := fun v a hr => hr.mono (fun _ h => h) fun c hc => hoth c (hSb c hc)
          have hpush := leftE_push g4.2 hj
          have hnew : RepR { w1 with heap := w1.heap.setIfInBounds b (.mapIter (some r) clock (seen.push (leftE es seen)[j].born) clock) } S γ (upd1 (lkO h) k (.it (rem0.eraseIdx j) (some rem0[j]))) k (.it (rem0.eraseIdx j) (some rem0[j])) := by
            refine ⟨b, hb, r, _, es, clock, rem0.eraseIdx j, q1, hS, by rw [hoth r (hSb r hS)]; exact g3, g4, .refl _, ?_, fun i e x hei hxi => ?_, fun x hx0 => ?_⟩
            · have := congrArg List.length hpush
              rw [List.length_eraseIdx_of_lt (by simpa using hj)] at this
              rw [List.length_eraseIdx_of_lt hj0]
              simp at this
              omega
            · have he' : ((leftE es seen).toList.eraseIdx j)[i]? = some e := by rw [← hpush]; simpa using hei
              rw [List.getElem?_eraseIdx] at he' hxi
              by_cases hij : i < j
              · rw [if_pos hij] at he' hxi
                exact (g7 i e x (by simpa using he') hxi).mono hmono
              · rw [if_neg hij] at he' hxi
                exact (g7 (i + 1) e x (by simpa using he') hxi).mono hmono
            · cases hx0
              refine ⟨(leftE es seen)[j], ?_, by simp, (g7 j (leftE es seen)[j] _ (by simp [hj]) hx).mono hmono⟩
              have : (leftE es seen)[j] ∈ leftE es seen := Array.getElem_mem hj
              have h9 : (leftE es seen)[j] ∈ es := (Array.mem_filter.1 this).1
              simpa using h9
          have hu : w1.os = w.os ∧ w1.tape = w.tape ∧ w1.output = w.output ∧ w.drawn ≤ w1.drawn := by
            rcases hw1 with rfl | rfl
            · exact ⟨rfl, rfl, rfl, Nat.le_refl _⟩
            · exact ⟨rfl, rfl, rfl, Nat.le_succ _⟩
          have M' := M.turn (w' := { w1 with heap := w1.heap.setIfInBounds b (.mapIter (some r) clock (seen.push (leftE es seen)[j].born) clock) }) k b (.it rem _) (.it (rem0.eraseIdx j) (some rem0[j])) h2 (by simp) hb (by simp [Like]) (by simp [hh1]) hu.1 hu.2.1 hu.2.2 hoth hnew
          simp only [Oper.wp, hrun', Oper.upon]
          refine hn _ S γ _ _ (hA rem0[j] (rem0.eraseIdx j) (g5.symm.trans p1)) (by cases o.dst <;> rfl) ?_
          rw [updH_one]
          refine M'.put o.dst hdst (.tu _ _ rfl fun i v c hv hc => ?_)
          have hent := (g7 j (leftE es seen)[j] _ (by simp [hj]) hx).mono hmono
          rcases i with _ | _ | _ | i
          · cases hv; cases hc; exact .pv (.bool _)
          · cases hv; cases hc; exact cellsAV_rep hent.1
          · cases hv; cases hc; exact cellsAV_rep hent.2
          · simp at hc
    · exact hk.elim
  · exact hk.elim
theorem stepD_sound (ht : TabOk P tab) (hd : dstOk o = true) {K : Eff → Prop} (hk : stepD P tab o t h K) : OpS P o (lkO t) (lkO h) K := by
  unfold stepD at hk
  split at hk
  · rename_i ho; exact opS_nil ht ho (neg := false) rfl (by simpa using hk)
  · rename_i ho; exact opS_nil ht ho (neg := true) rfl (by simpa using hk)
  · rename_i ho; exact opS_next ho hk
  · obtain ⟨e, h1, h2⟩ := stepE_sound ht hd hk
    exact h1.opS h2

theorem puts_iff : ∀ (ps : HS) (h : HS) (K : HS → Prop), puts ps h K ↔ ∃ h', lkO h' = updH ps (lkO h) ∧ h' = ps.foldl (fun h x => ptO x.1 x.2 h) h ∧ K h'
  | [], h, K => ⟨fun hk => ⟨h, rfl, rfl, hk⟩, fun ⟨_, _, e, hk⟩ => by subst e; exact hk⟩
  | (k, r) :: ps, h, K => by
    simp only [puts, pt_iff, puts_iff ps, updH, List.foldl_cons]
    have e : lkO (ptO k r h) = fun n => if k = n then some r else lkO h n := by funext n; exact lkO_ptO k r n h
    rw [e]
theorem putD_iff (d : Option Nat) (lv : LV) (t : TS) (K : TS → Prop) : putD d lv t K ↔ ∃ t', lkO t' = updT (lkO t) d lv ∧ t' = (match d with | some d => ptO d lv t | none => t) ∧ K t' := by
  cases d with
  | none => exact ⟨fun hk => ⟨t, (updT_none _ _).symm, rfl, hk⟩, fun ⟨_, _, e, hk⟩ => by subst e; exact hk⟩
  | some d =>
    simp only [putD, pt_iff]
    have e : lkO (ptO d lv t) = updT (lkO t) (some d) lv := by funext n; rw [lkO_ptO]; simp [updT]
    constructor
    · intro h; exact ⟨_, e, rfl, h⟩
    · rintro ⟨_, _, rfl, h⟩; exact h
theorem applyE_iff (t : TS) (h : HS) (L : Log) (d : Option Nat) (e : Eff) (K : TS → HS → Log → Prop) (hk : applyE t h L d e K) : ∃ t' h', lkO t' = updT (lkO t) d e.lv ∧ lkO h' = updH e.puts (lkO h) ∧ K t' h' ((e.tk ++ keysOf e.puts, keysOf e.puts) :: L) := by
  obtain ⟨lv, ps, tk⟩ := e
  simp only [applyE, putD_iff, puts_iff] at hk
  obtain ⟨t', h1, _, h', h2, _, hk⟩ := hk
  exact ⟨t', h', h1, h2, hk⟩

theorem ModF.guard {F : Fr} {S : Nat → Prop} {γ : Nat → GV} {T : Nat → Option LV} {H : Nat → Option Res} {tm : Array Value} {w : World} (M : ModF F S γ T H tm w) {ops : Array Oper} {g d : Nat} {b want : Bool} (hg : o.guard = some (g, want)) (hd : (ops[g]?).bind (·.dst) = some d) (hb : T d = some (.pv (.bool b))) :
    Region.wanted o (yielded ops tm) = (b == want) := by
  obtain ⟨v, hv, hr⟩ := M.slots d _ hb
  have := hr.bool_inv
  subst this
  simp only [Region.wanted, hg, yielded, hd, Option.bind_some, hv]
  cases b <;> cases want <;> rfl

theorem ModF.guardSk {F : Fr} {S : Nat → Prop} {γ : Nat → GV} {T : Nat → Option LV} {H : Nat → Option Res} {tm : Array Value} {w : World} (M : ModF F S γ T H tm w) {ops : Array Oper} {g d : Nat} {want : Bool} (hg : o.guard = some (g, want)) (hd : (ops[g]?).bind (·.dst) = some d) (hb : T d = some .sk) :
    Region.wanted o (yielded ops tm) = false := by
  obtain ⟨v, hv, hr⟩ := M.slots d _ hb
  cases hr
  simp only [Region.wanted, hg, yielded, hd, Option.bind_some, hv]
  rfl

theorem aops_sound (ht : TabOk P tab) {ops : Array Oper} {Q : Exit → Act → World → Prop} : ∀ (rest : List Oper) (t : TS) (h : HS) (K : TS → HS → Prop) (F : Fr) (S : Nat → Prop) (γ : Nat → GV) (a : Act) (w : World), (∀ o ∈ rest, dstOk o = true ∧ ∀ n, o.dst = some n → n < F.N) → aops P tab ops rest t h K → ModF F S γ (lkO t) (lkO h) a.tmps w →
    (∀ t' h' S' γ' a' w', K t' h' → a'.defers = a.defers → ModF F S' γ' (lkO t') (lkO h') a'.tmps w' → Q .normal a' w') → wpList P ops Q rest a w
  | [], t, h, K, F, S, γ, a, w, _, hk, M, hq => hq t h S γ a w hk rfl M
  | o :: rest, t, h, K, F, S, γ, a, w, hs, hk, M, hq => by
    have hs' : ∀ o ∈ rest, dstOk o = true ∧ ∀ n, o.dst = some n → n < F.N := fun o ho => hs o (by simp [ho])
    obtain ⟨hd, hn⟩ := hs o (by simp)
    have go : ∀ (e : Eff) (S' : Nat → Prop) (γ' : Nat → GV) (a' : Act) (w' : World), applyE t h [] o.dst e (fun t' h' _ => aops P tab ops rest t' h' K) → a'.defers = a.defers → ModF F S' γ' (updT (lkO t) o.dst e.lv) (updH e.puts (lkO h)) a'.tmps w' → wpList P ops Q rest a' w' := fun e S' γ' a' w' hk ha M' => by
      obtain ⟨t', h', e1, e2, hk⟩ := applyE_iff _ _ _ _ _ _ hk
      rw [← e1, ← e2] at M'
      exact aops_sound ht rest t' h' K F S' γ' a' w' hs' hk M' fun t2 h2 S2 γ2 a2 w2 k1 k2 k3 => hq t2 h2 S2 γ2 a2 w2 k1 (k2.trans ha) k3
    have skip : applyE t h [] o.dst ⟨.sk, [], []⟩ (fun t' h' _ => aops P tab ops rest t' h' K) → wpList P ops Q rest (a.put o.dst undef) w := fun hk =>
      go _ S γ _ w hk (by cases o.dst <;> rfl) (M.put o.dst hn .sk)
    have step : stepD P tab o t h (fun e => applyE t h [] o.dst e fun t' h' _ => aops P tab ops rest t' h' K) → o.wp P a w (wpList P ops Q rest) Q := fun hk =>
      stepD_sound ht hd hk F S γ a w _ Q hn M fun e S' γ' a' w' k1 k2 k3 => go e S' γ' a' w' k1 k2 k3
    unfold aops at hk
    unfold wpList
    split at hk
    · rename_i hg
      rw [if_pos (by simp [Region.wanted, hg])]
      exact .inl (step hk)
    · rename_i g want hg
      split at hk
      · rename_i d hdd
        rw [lk_iff] at hk
        obtain ⟨l, h1, hk⟩ := hk
        split at hk
        · rename_i b
          rw [M.guard hg hdd h1]
          cases want <;> simp only [ASpl] at hk <;> cases b
          · rw [if_pos (by decide)]; exact .inl (step (hk.2 rfl))
          · rw [if_neg (by decide)]; exact skip (hk.1 rfl)
          · rw [if_neg (by decide)]; exact skip (hk.2 rfl)
          · rw [if_pos (by decide)]; exact .inl (step (hk.1 rfl))
        · rw [M.guardSk hg hdd h1, if_neg (by decide)]
          exact skip hk
        · exact hk.elim
      · exact hk.elim
end
end Go.Proofs.Ytcpgcenlgihmnaa.Abs
