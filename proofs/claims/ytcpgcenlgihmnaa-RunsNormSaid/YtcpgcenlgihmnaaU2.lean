/- A logic of abstract states for the program and what its functions come to: texts 10, 11, 12, 13, 14, 15, 15m. -/
import Derived.Test.YtcpgcenlgihmnaaU1
import Derived.Laws.MakeOwn
import Derived.Laws.Slices
import Derived.MapKept
import Derived.Laws.StructEq
/- Rows: literals, append. -/
set_option linter.unusedVariables false
set_option linter.unusedSimpArgs false
namespace Go.Proofs.Ytcpgcenlgihmnaa.Abs
open Go

def toAVO (tab : Tab) (H : Nat → Option Res) (ty : Nat) : LV → Option (AV × List Nat)
  | .pv a => some (a, [])
  | .fn f [] => some (.fn f, [])
  | .nl => match lkO tab ty with
    | some ti => (match ti.d with | .sl e => (lkO tab e).map fun te => (.lst te.size [], []) | _ => none)
    | none => none
  | .rw k m => match H k with | some (.row es xs) => some (.lst es (xs.take m), [k]) | _ => none
  | .mr k => match H k with | some (.mp m) => some (.mp m, [k]) | _ => none
  | _ => none
theorem ex2 {α β : Type} {a : α} {b : β} {K : α → β → Prop} : (∃ x y, (a = x ∧ b = y) ∧ K x y) ↔ K a b := ⟨fun ⟨_, _, ⟨e1, e2⟩, h⟩ => by subst e1; subst e2; exact h, fun h => ⟨a, b, ⟨rfl, rfl⟩, h⟩⟩
theorem ex2' {α β : Type} {a : α} {b : β} {K : α → β → Prop} : (∃ x y, (x = a ∧ y = b) ∧ K x y) ↔ K a b := ⟨fun ⟨_, _, ⟨e1, e2⟩, h⟩ => by subst e1; subst e2; exact h, fun h => ⟨a, b, ⟨rfl, rfl⟩, h⟩⟩
theorem toAV_iff (tab : Tab) (h : HS) (ty : Nat) (x : LV) (K : AV → List Nat → Prop) : toAV tab h ty x K ↔ ∃ a ks, toAVO tab (lkO h) ty x = some (a, ks) ∧ K a ks := by
  cases x with
  | pv a => exact ⟨fun h => ⟨_, _, rfl, h⟩, fun ⟨_, _, e, h⟩ => by cases e; exact h⟩
  | nl =>
    simp only [toAV, toAVO, lk_iff]
    constructor
    · rintro ⟨ti, h1, h2⟩
      rw [h1]
      split at h2
      · rename_i e hd
        obtain ⟨te, h3, h4⟩ := h2
        exact ⟨_, _, by simp [hd, h3], h4⟩
      · exact h2.elim
    · rintro ⟨a, ks, h1, h2⟩
      split at h1
      · rename_i ti hti
        refine ⟨ti, hti, ?_⟩
        split at h1
        · rename_i e hd
          obtain ⟨te, h3, h4⟩ := Option.map_eq_some_iff.1 h1
          cases h4
          rw [hd]
          simp only [lk_iff]
          exact ⟨te, h3, h2⟩
        · cases h1
      · cases h1
  | fn f l =>
    cases l with
    | nil => exact ⟨fun h => ⟨_, _, rfl, h⟩, fun ⟨_, _, e, h⟩ => by cases e; exact h⟩
    | cons => simp [toAV, toAVO]
  | rw k m =>
    simp only [toAV, toAVO, lk_iff]
    constructor
    · rintro ⟨r, h1, h2⟩
      rw [h1]
      cases r with
      | row es xs => exact ⟨_, _, rfl, h2⟩
      | _ => exact h2.elim
    · rintro ⟨a, ks, h1, h2⟩
      split at h1
      · rename_i es xs hk; cases h1; exact ⟨_, hk, h2⟩
      · cases h1
  | mr k =>
    simp only [toAV, toAVO, lk_iff]
    constructor
    · rintro ⟨r, h1, h2⟩
      rw [h1]
      cases r with
      | mp m => exact ⟨_, _, rfl, h2⟩
      | _ => exact h2.elim
    · rintro ⟨a, ks, h1, h2⟩
      split at h1
      · rename_i m hk; cases h1; exact ⟨_, hk, h2⟩
      · cases h1
  | _ => simp [toAV, toAVO]
def toAVsO (tab : Tab) (H : Nat → Option Res) : List Nat → List LV → Option (List AV × List Nat)
  | [], [] => some ([], [])
  | ty :: tys, x :: xs => (toAVO tab H ty x).bind fun a => (toAVsO tab H tys xs).map fun r => (a.1 :: r.1, a.2 ++ r.2)
  | _, _ => none
theorem toAVs_iff (tab : Tab) (h : HS) : ∀ (tys : List Nat) (xs : List LV) (K : List AV → List Nat → Prop), toAVs tab h tys xs K ↔ ∃ as ks, toAVsO tab (lkO h) tys xs = some (as, ks) ∧ K as ks
  | [], [], K => by simp [toAVs, toAVsO, ex2', ex2]
  | [], x :: xs, K => by simp [toAVs, toAVsO]
  | ty :: tys, [], K => by simp [toAVs, toAVsO]
  | ty :: tys, x :: xs, K => by
    simp only [toAVs, toAVsO, toAV_iff, toAVs_iff tab h tys xs, appK_iff]
    constructor
    · rintro ⟨a, ks, h1, as, ks', h2, h3⟩
      exact ⟨a :: as, ks ++ ks', by simp [h1, h2], h3⟩
    · rintro ⟨as, ks, h1, h2⟩
      obtain ⟨⟨a, k1⟩, h3, h4⟩ := Option.bind_eq_some_iff.1 h1
      obtain ⟨⟨r, k2⟩, h5, h6⟩ := Option.map_eq_some_iff.1 h4
      simp only [Prod.mk.injEq] at h6
      obtain ⟨rfl, rfl⟩ := h6
      exact ⟨a, k1, h3, r, k2, h5, h2⟩

section
variable {P : Program} {o : Oper} {T : Nat → Option LV} {H : Nat → Option Res} {tab : Tab} {F : Fr} {S : Nat → Prop} {γ : Nat → GV} {tm : Array Value} {w : World}

theorem toAV_rep (M : ModF F S γ T H tm w) {v : Value} {l : LV} (hr : RepL w S γ H v l) {ty : Nat} {a : AV} {ks : List Nat} (h : toAVO tab H ty l = some (a, ks)) :
    (∀ k ∈ ks, ∃ r, H k = some r ∧ Rowy r) ∧ ∀ all : List Nat, (∀ k ∈ ks, k ∈ all) → Rep w (fun b => S b ∨ Killed γ all b) v a := by
  have up : ∀ (all : List Nat) {v : Value} {a : AV}, Rep w S v a → Rep w (fun b => S b ∨ Killed γ all b) v a := fun all {v a} h => h.mono (fun _ h => .inl h) (fun _ _ => rfl)
  cases hr with
  | pv h1 => cases h; exact ⟨by simp, fun all _ => up all h1⟩
  | nl =>
    simp only [toAVO] at h
    split at h
    · split at h
      · obtain ⟨te, _, h4⟩ := Option.map_eq_some_iff.1 h
        cases h4
        exact ⟨by simp, fun all _ => .lst none 0 te.size [] 0 0 (fun _ _ => undef) (by simp) (by simp) (by simp) (by simp) (by simp)⟩
      · cases h
    · cases h
  | fn f arr cs hn h1 =>
    cases cs with
    | nil =>
      cases h
      have : arr = #[] := by simpa using hn
      subst this
      exact ⟨by simp, fun all _ => .fn f⟩
    | cons => cases h
  | rw k m es xs hk hm hc hb =>
    simp only [toAVO, hk] at h
    cases h
    refine ⟨fun k' hk' => ⟨.row es xs, by simp at hk'; rw [hk']; exact hk, trivial⟩, fun all hall => ?_⟩
    have hlen : (xs.take m).length = m := by simp; omega
    obtain ⟨hes, h0 | ⟨b, arr, ty, h1, h2, h3, h4, h5⟩⟩ := M.own.rep k _ trivial hk
    · obtain ⟨h0, rfl, _⟩ := h0
      have : m = 0 := by simpa using hm
      subst this
      simpa using Rep.lst (w := w) (S := fun b => S b ∨ Killed γ all b) ((γ k).blk.map fun b => ⟨b, 0, none⟩) (γ k).cap es [] 0 0 (fun _ _ => undef) (by simp) (by simp) (by simp) (by simp) (by simp)
    · have hk2 : Killed γ all b := ⟨k, hall k (by simp), .inl h1⟩
      have hget : ∀ (i : Nat) (x : List AV), (xs.take m)[i]? = some x → xs[i]? = some x := fun i x hx => by
        rw [List.getElem?_take] at hx
        split at hx
        · exact hx
        · cases hx
      have := Rep.lst (w := w) (S := fun b => S b ∨ Killed γ all b) ((γ k).blk.map fun b => ⟨b, 0, none⟩) (γ k).cap es (xs.take m) b 0 (fun i j => (arr[i * es + j]?).getD undef) (by omega) (fun _ => ⟨by rw [h1]; rfl, .inr hk2⟩)
        (fun i x hx => hes i x (hget i x hx)) (fun i x j hx hj => by
          have hl := hes i x (hget i x hx)
          obtain ⟨v, hv, _, _⟩ := h5 i x j x[j] (hget i x hx) (by simp)
          simp [World.cell?, h2, hv]) (fun i x j y hx hy => by
          obtain ⟨v, hv, _, hr⟩ := h5 i x j y (hget i x hx) hy
          simp only [hv, Option.getD_some]
          exact up all hr)
      rw [hlen] at this
      exact this
  | mr k b m hk hb =>
    simp only [toAVO, hk] at h
    cases h
    refine ⟨fun k' hk' => ⟨.mp m, by simp at hk'; rw [hk']; exact hk, trivial⟩, fun all hall => ?_⟩
    obtain ⟨b', h1, _, h2⟩ := M.own.rep k _ trivial hk
    rw [hb] at h1
    cases h1
    exact rep_mp.2 ⟨b, rfl, .inr ⟨k, hall k (by simp), .inl hb⟩, h2.mono rfl fun v a hr => hr.mono (fun _ h => .inl h) (fun _ _ => rfl)⟩
  | drw k m a c hk => simp [toAVO, hk] at h
  | dmr k r hk => simp [toAVO, hk] at h
  | mo k b es m hk hb => simp [toAVO, hk] at h
  | _ => simp [toAVO] at h
theorem toAVs_rep (M : ModF F S γ T H tm w) : ∀ {tys : List Nat} {vs : List Value} {ls : List LV} {as : List AV} {ks : List Nat}, LRep w S γ H vs ls → toAVsO tab H tys ls = some (as, ks) →
    as.length = ls.length ∧ (∀ k ∈ ks, ∃ r, H k = some r ∧ Rowy r) ∧ ∀ all : List Nat, (∀ k ∈ ks, k ∈ all) → ∀ (j : Nat) (y : AV), as[j]? = some y → ∃ v, vs[j]? = some v ∧ one v = true ∧ Rep w (fun b => S b ∨ Killed γ all b) v y
  | [], vs, [], as, ks, hr, h => by cases h; simp
  | [], vs, _ :: _, as, ks, hr, h => by cases h
  | _ :: _, vs, [], as, ks, hr, h => by cases h
  | ty :: tys, [], l :: ls, as, ks, hr, h => by have := hr.1; simp at this
  | ty :: tys, v :: vs, l :: ls, as, ks, hr, h => by
    obtain ⟨⟨a, k1⟩, h3, h4⟩ := Option.bind_eq_some_iff.1 h
    obtain ⟨⟨r, k2⟩, h5, h6⟩ := Option.map_eq_some_iff.1 h4
    simp only [Prod.mk.injEq] at h6
    obtain ⟨rfl, rfl⟩ := h6
    have hv := hr.2 0 v l rfl rfl
    have hr' : LRep w S γ H vs ls := ⟨by have := hr.1; simpa using this, fun i u c hu hc => hr.2 (i + 1) u c hu hc⟩
    obtain ⟨e1, e2⟩ := toAV_rep M hv.2 h3
    obtain ⟨e3, e4, e5⟩ := toAVs_rep M hr' h5
    refine ⟨by simp [e3], fun k hk => (List.mem_append.1 hk).elim (e1 k) (e4 k), fun all hall j y hy => ?_⟩
    cases j with
    | zero => cases hy; exact ⟨v, rfl, hv.1, e2 all fun k hk => hall k (by simp [hk])⟩
    | succ j => exact e5 all (fun k hk => hall k (by simp [hk])) j y hy

/-! A slice's literal. -/
def Elems (tab : Tab) (T : Nat → Option LV) (H : Nat → Option Res) (te : TI) : Nat → List (Nat × Operand) → List (List AV) → List Nat → Prop
  | _, [], xs, ks => xs = [] ∧ ks = []
  | n, (i, x) :: ps, xs, ks => i = n ∧ ∃ v vs as k1 r k2, evF T x = some v ∧ cellsO v = some vs ∧ vs.length = te.size ∧ toAVsO tab H te.cells vs = some (as, k1) ∧ Elems tab T H te (n + 1) ps r k2 ∧ xs = as :: r ∧ ks = k1 ++ k2
theorem elemsL_iff (t : TS) (h : HS) (te : TI) : ∀ (n : Nat) (ps : List (Nat × Operand)) (K : List (List AV) → List Nat → Prop), elemsL tab t h te n ps K ↔ ∃ xs ks, Elems tab (lkO t) (lkO h) te n ps xs ks ∧ K xs ks
  | n, [], K => by simp [elemsL, Elems, ex2', ex2]
  | n, (i, x) :: ps, K => by
    simp only [elemsL, Elems]
    constructor
    · intro hk
      split at hk
      · rename_i hb
        simp only [ev_iff, cellsL_iff, lenEq_iff, toAVs_iff, elemsL_iff t h te (n + 1) ps, appK_iff] at hk
        obtain ⟨v, h1, vs, h2, h3, as, k1, h4, r, k2, h5, h6⟩ := hk
        exact ⟨as :: r, k1 ++ k2, ⟨beq_t hb, v, vs, as, k1, r, k2, h1, h2, h3, h4, h5, rfl, rfl⟩, h6⟩
      · exact hk.elim
    · rintro ⟨xs, ks, ⟨rfl, v, vs, as, k1, r, k2, h1, h2, h3, h4, h5, rfl, rfl⟩, h6⟩
      rw [show Nat.beq i i = true by simp]
      simp only [ev_iff, cellsL_iff, lenEq_iff, toAVs_iff, elemsL_iff t h te (i + 1) ps, appK_iff]
      exact ⟨v, h1, vs, h2, h3, as, k1, h4, r, k2, h5, h6⟩
theorem Elems.keys {te : TI} : ∀ {n : Nat} {ps : List (Nat × Operand)} {xs : List (List AV)} {ks : List Nat} {a : Act}, ModF F S γ T H a.tmps w → Elems tab T H te n ps xs ks → (∀ k ∈ ks, ∃ r, H k = some r ∧ Rowy r) ∧ xs.length = ps.length
  | n, [], xs, ks, a, M, h => by obtain ⟨rfl, rfl⟩ := h; simp
  | n, (i, x) :: ps, xs, ks, a, M, h => by
    obtain ⟨_, v, vs, as, k1, r, k2, h1, h2, h3, h4, h5, rfl, rfl⟩ := h
    obtain ⟨_, e1, _⟩ := toAVs_rep M (LRep.of_cells (M.eval h1) h2) h4
    obtain ⟨e2, e3⟩ := Elems.keys M h5
    exact ⟨fun k hk => (List.mem_append.1 hk).elim (e1 k) (e2 k), by simp [e3]⟩
theorem elems_fill {te : TI} (hcl : te.cells.length = te.size) {all : List Nat} {a : Act} (M : ModF F S γ T H a.tmps w) : ∀ (n : Nat) (ps : List (Nat × Operand)) (xs : List (List AV)) (ks : List Nat) (cells : Array Value), Elems tab T H te n ps xs ks → (∀ k ∈ ks, k ∈ all) →
    (n + ps.length) * te.size ≤ cells.size → ∃ cells', Instr.fill (fun i => some (i * te.size, te.size)) cells (ps.map fun x => (x.1, a.eval x.2)) = some cells' ∧ cells'.size = cells.size ∧ (∀ q, q < n * te.size → cells'[q]? = cells[q]?) ∧
      (∀ (i : Nat) (x : List AV), xs[i]? = some x → x.length = te.size ∧ ∀ (j : Nat) (y : AV), x[j]? = some y → ∃ v, cells'[(n + i) * te.size + j]? = some v ∧ one v = true ∧ Rep w (fun b => S b ∨ Killed γ all b) v y)
  | n, [], xs, ks, cells, h, hall, hs => by
    obtain ⟨rfl, rfl⟩ := h
    exact ⟨cells, rfl, rfl, fun _ _ => rfl, by simp⟩
  | n, (i, x) :: ps, xs, ks, cells, h, hall, hs => by
    obtain ⟨rfl, v, vs, as, k1, r, k2, h1, h2, h3, h4, h5, rfl, rfl⟩ := h
    have hv := LRep.of_cells (M.eval h1) h2
    have hsz : (a.eval x).cells.size = te.size := by have := hv.1; simp at this; omega
    have hs : (i + (ps.length + 1)) * te.size ≤ cells.size := by simpa using hs
    have hmul : (i + (ps.length + 1)) * te.size = i * te.size + (ps.length + 1) * te.size := Nat.add_mul ..
    have hmul2 : (ps.length + 1) * te.size = ps.length * te.size + te.size := Nat.succ_mul ..
    have hfit : i * te.size + te.size ≤ cells.size := by omega
    obtain ⟨cells1, e1, e2, e3⟩ := fill_cons (cells := cells) (place := fun i => some (i * te.size, te.size)) (rest := ps.map fun x => (x.1, a.eval x.2)) rfl hsz hfit
    obtain ⟨cells', f1, f2, f3, f4⟩ := elems_fill hcl M (i + 1) ps r k2 cells1 h5 (fun k hk => hall k (by simp [hk])) (by rw [e3]; rw [show i + 1 + ps.length = i + (ps.length + 1) by omega]; exact hs)
    obtain ⟨t1, t2, t3⟩ := toAVs_rep M hv h4
    have hi1 : (i + 1) * te.size = i * te.size + te.size := Nat.succ_mul ..
    have get1 : ∀ q, cells1[q]? = (cells.toList.take (i * te.size) ++ (a.eval x).cells.toList ++ cells.toList.drop (i * te.size + te.size))[q]? := fun q => by rw [← e2, Array.getElem?_toList]
    have htk : (cells.toList.take (i * te.size)).length = i * te.size := by simp; omega
    refine ⟨cells', by rw [List.map_cons, e1, f1], by omega, fun q hq => ?_, fun m y hy => ?_⟩
    · rw [f3 q (by omega), get1 q, List.append_assoc, List.getElem?_append_left (by omega), List.getElem?_take, if_pos hq, Array.getElem?_toList]
    · cases m with
      | zero =>
        cases hy
        refine ⟨by omega, fun j z hz => ?_⟩
        obtain ⟨u, hu, h1', hr'⟩ := t3 all (fun k hk => hall k (by simp [hk])) j z hz
        have hj : j < te.size := by have := (List.getElem?_eq_some_iff.1 hz).1; omega
        refine ⟨u, ?_, h1', hr'⟩
        rw [Nat.add_zero, f3 _ (by omega), get1, List.append_assoc, List.getElem?_append_right (by omega), htk, List.getElem?_append_left (by simp; omega)]
        rw [show i * te.size + j - i * te.size = j by omega]
        exact hu
      | succ m =>
        obtain ⟨g1, g2⟩ := f4 m y hy
        refine ⟨g1, fun j z hz => ?_⟩
        obtain ⟨u, hu, h1', hr'⟩ := g2 j z hz
        exact ⟨u, by rw [show i + (m + 1) = i + 1 + m by omega]; exact hu, h1', hr'⟩
end
end Go.Proofs.Ytcpgcenlgihmnaa.Abs
/- A slice's literal, stores, append, make. -/
set_option linter.unusedVariables false
set_option linter.unusedSimpArgs false
namespace Go.Proofs.Ytcpgcenlgihmnaa.Abs
open Go

section
variable {P : Program} {o : Oper} {T : Nat → Option LV} {H : Nat → Option Res} {tab : Tab}

def deadH (ks : List Nat) : HS := ks.map fun k => (k, .dead)
theorem updH_dead : ∀ (ks : List Nat) (H : Nat → Option Res), updH (deadH ks) H = killH ks H
  | [], H => by funext k; simp [deadH, updH, killH]
  | k :: ks, H => by
    have ih := updH_dead ks (fun n => if k = n then some .dead else H n)
    simp only [deadH] at ih
    simp only [deadH, List.map_cons, updH, ih]
    funext n
    by_cases h : n ∈ ks
    · simp [killH, h]
    · by_cases h2 : k = n
      · subst h2; simp [killH, h]
      · simp [killH, h, h2, Ne.symm h2]
theorem updH_new (d : Nat) (r : Res) (ks : List Nat) (H : Nat → Option Res) (hd : d ∉ ks) : updH ((d, r) :: deadH ks) H = upd1 (killH ks H) d r := by
  rw [updH, updH_dead]
  funext n
  by_cases h : d = n
  · subst h; simp [killH, upd1, hd]
  · by_cases h2 : n ∈ ks <;> simp [killH, upd1, h, h2]

theorem ok_buildSlice (ht : TabOk P tab) {d t e n : Nat} {parts : Array (Nat × Operand)} {ti te : TI} {xs : List (List AV)} {ks : List Nat} {tk : List Nat} (hdst : o.dst = some d) (ho : o.op = .buildSlice t n parts) (hi : lkO tab t = some ti) (hd : ti.d = .sl e) (hie : lkO tab e = some te)
    (hsmall : n * te.size ≤ 16777216) (hf : Elems tab T H te 0 parts.toList xs ks) (hn : xs.length = n) (hH : H d = none) : OpOk P o T H ⟨.rw d n, (d, .row te.size xs) :: deadH ks, tk⟩ := by
  intro F S γ a w next Q hdst' M hnext
  obtain ⟨i, z, hti⟩ := tif (ht _ _ hi)
  obtain ⟨ie, ze, hte⟩ := tif (ht _ _ hie)
  have hu := hti.d
  rw [hd] at hu
  have hu := sl_of hu
  obtain ⟨hks, hlen⟩ := Elems.keys M hf
  have hdk : d ∉ ks := fun h => by obtain ⟨r, hr, _⟩ := hks d h; rw [hH] at hr; cases hr
  let zero : Array Value := if n * te.size = 0 then #[] else ze.cells
  let cells0 : Array Value := (Array.range (n * te.size)).map (zero[· % zero.size]!)
  have hsz0 : cells0.size = n * te.size := by simp [cells0]
  obtain ⟨cells, e1, e2, _, e4⟩ := elems_fill hte.cl (all := ks) M 0 parts.toList xs ks cells0 hf (fun _ h => h) (by rw [Nat.zero_add, ← hlen, hn, hsz0]; omega)
  have hrun : (execOp a.eval o).run P w = .ok (.value (.slice (some ⟨w.heap.size, 0, none⟩) n n)) (w.alloc (.cells cells e)) := by
    have hns : ¬ (2 ^ 24 < n * te.size) := by omega
    by_cases h0 : n * te.size = 0
    · have hz : zero = #[] := by simp [zero, h0]
      simp only [cells0, hz] at e1
      simp [execOp, ho, Instr.buildSlice, run_und hu, run_size hte.info, hte.size, h0, e1, newRow]
      simp [h0] at e1
      simp [e1]
    · have hz : zero = ze.cells := by simp [zero, h0]
      simp only [cells0, hz] at e1
      simp [execOp, ho, Instr.buildSlice, run_und hu, run_size hte.info, hte.size, hns, h0, run_zero hte.info hte.zero, e1, newRow]
  have M1 := M.kill ks hks
  have hH1 : killH ks H d = none := by simp [killH, hdk, hH]
  have hr : RepR (w.alloc (.cells cells e)) (fun b => S b ∨ Killed γ ks b) (updG γ d (gv (some w.heap.size) n)) (upd1 (killH ks H) d (.row te.size xs)) d (.row te.size xs) := by
    refine ⟨fun j x hx => (e4 j x hx).1, .inr ⟨w.heap.size, cells, e, by simp [updG], heap_alloc_new w _, by simp [updG, e2, hsz0], by simp [updG, hn], fun j x q y hx hy => ?_⟩⟩
    obtain ⟨v, hv, h1, hr⟩ := (e4 j x hx).2 q y hy
    exact ⟨v, by simpa using hv, h1, hr.mono (fun _ h => h) (fun b hb => heap_alloc_old w _ _ (M1.stay b hb))⟩
  have M2 := M1.new d n (.cells cells e) (.row te.size xs) hH1 (w' := w.alloc (.cells cells e)) rfl rfl rfl ⟨rfl, Nat.le_refl _⟩ hr
  simp only [Oper.wp, hrun, Oper.upon]
  refine hnext (fun b => S b ∨ Killed γ ks b) (updG γ d (gv (some w.heap.size) n)) _ _ (by cases o.dst <;> rfl) ?_
  rw [updH_new d _ ks H hdk]
  refine M2.put o.dst hdst' ?_
  have := RepL.rw (w := w.alloc (.cells cells e)) (S := fun b => S b ∨ Killed γ ks b) (γ := updG γ d (gv (some w.heap.size) n)) (H := upd1 (killH ks H) d (.row te.size xs)) d n te.size xs (by simp [upd1]) (by omega) (by simp [updG]) (fun _ => ⟨w.heap.size, by simp [updG]⟩)
  simpa [updG] using this

/-! Stores. -/
theorem upd_nodst {e : LV} (hdst : o.dst = none) (T : Nat → Option LV) : updT T o.dst e = T := by rw [hdst, updT_none]
theorem run_store {t : Nat} {ti : TI} (ht : tiOk P t ti = true) {w : World} {b p : Nat} {v : Value} {arr : Array Value} {ty : Nat} (hw : w.heap[b]? = some (.cells arr ty (0, 0))) (hs : v.cells.size = ti.size) (hf : p + ti.size ≤ arr.size) (h1 : ∀ u ∈ v.cells.toList, one u = true) :
    (storeVar t ⟨b, p, none⟩ v).run P w = .ok () (w.setRow b (arr.toList.take p ++ v.cells.toList ++ arr.toList.drop (p + ti.size)).toArray) := by
  obtain ⟨i, z, hti⟩ := tif ht
  have := run_storeCells_at P b p ty v.cells.toList 0 arr w hw (by simp; omega) h1
  simp only [Nat.add_zero] at this
  simp [storeVar, run_size hti.info, hti.size, hs, this]
theorem LRep.ones {w : World} {S : Nat → Prop} {γ : Nat → GV} {vs : List Value} {cs : List LV} (h : LRep w S γ H vs cs) : ∀ u ∈ vs, one u = true := fun u hu => by
  obtain ⟨i, hi, rfl⟩ := List.mem_iff_getElem.1 hu
  exact (h.2 i vs[i] (cs[i]'(by have := h.1; omega)) (by simp) (by simp)).1
theorem ok_store_bx (ht : TabOk P tab) {t : Nat} {x y : Operand} {ti : TI} {k p : Nat} {cs vs : List LV} {l : LV} {tk : List Nat} (hdst : o.dst = none) (ho : o.op = .store t x y) (hi : lkO tab t = some ti) (hx : evF T x = some (.bx k p)) (hy : evF T y = some l) (hc : cellsO l = some vs)
    (hl : vs.length = ti.size) (hk : H k = some (.box cs)) (hn : p + vs.length ≤ cs.length) : OpOk P o T H ⟨.un, [(k, .box (cs.take p ++ vs ++ cs.drop (p + vs.length)))], tk⟩ := by
  intro F S γ a w next Q hdst' M hnext
  have h := M.eval hx
  generalize he : a.eval x = v at h
  cases h with
  | dbx _ _ _ _ h => rw [hk] at h; cases h
  | bx _ _ b cs' h hb =>
    rw [hk] at h
    cases h
    have hv := LRep.of_cells (M.eval hy) hc
    obtain ⟨b', arr, ty, h1, h2, h3, h4⟩ := M.own.rep k _ trivial hk
    rw [hb] at h1
    cases h1
    have hsz : (a.eval y).cells.size = ti.size := by have := hv.1; simp at this; omega
    have hst := run_store (P := P) (ht _ _ hi) h2 hsz (by omega) hv.ones (p := p)
    generalize harr : (arr.toList.take p ++ (a.eval y).cells.toList ++ arr.toList.drop (p + ti.size)).toArray = arr' at hst
    have hrun : (execOp a.eval o).run P w = .ok .skip (w.setRow b arr') := by simp [execOp, ho, he, Instr.storeAt, Instr.sureAddr, hst]
    have hold : LRep w S γ H arr.toList cs := ⟨by simpa using h3, fun i v c hv hc => h4 i v c (by simpa using hv) hc⟩
    have hkp : Keeps γ γ H (upd1 H k (.box (cs.take p ++ vs ++ cs.drop (p + vs.length)))) := ⟨fun k' r1 h => by
      by_cases e : k = k'
      · subst e
        rw [hk] at h
        cases h
        exact ⟨.box (cs.take p ++ vs ++ cs.drop (p + vs.length)), by simp [upd1], by simp [Like], fun _ => .rfl'⟩
      · exact ⟨r1, by simp [upd1, e, h], Like.refl r1, fun _ => .rfl'⟩⟩
    have hnew : LRep (w.setRow b arr') S γ (upd1 H k (.box (cs.take p ++ vs ++ cs.drop (p + vs.length)))) arr'.toList (cs.take p ++ vs ++ cs.drop (p + vs.length)) := by
      have h0 : LRep w S γ H arr'.toList (cs.take p ++ vs ++ cs.drop (p + vs.length)) := by
        rw [← harr, ← hl]
        exact ((hold.take p).append hv).append (hold.drop _)
      exact h0.mono (fun _ h => h) (fun c hc => setRow_other w b c _ (by rintro rfl; exact M.no hk (by simp) hb hc)) hkp
    have M' := M.turn (w' := w.setRow b arr') k b (.box cs) (.box (cs.take p ++ vs ++ cs.drop (p + vs.length))) hk (by simp) hb (by simp [Like]) (by simp) rfl rfl ⟨rfl, Nat.le_refl _⟩ (fun c hc => setRow_other w b c _ hc) (LRep.box hb (setRow_heap w b arr arr' ty (0, 0) h2) hnew)
    simp only [Oper.wp, hrun, Oper.upon]
    refine hnext S γ _ _ (by cases o.dst <;> rfl) ?_
    rw [updH_one, upd_nodst hdst, hdst]
    exact M'
theorem ok_store_er (ht : TabOk P tab) {t : Nat} {x y : Operand} {ti : TI} {k i p es : Nat} {xs : List (List AV)} {c : List AV} {as : List AV} {ks : List Nat} {vs : List LV} {l : LV} {tk : List Nat} (hdst : o.dst = none) (ho : o.op = .store t x y) (hi : lkO tab t = some ti) (hx : evF T x = some (.er k i p)) (hy : evF T y = some l) (hc : cellsO l = some vs)
    (hl : vs.length = ti.size) (hk : H k = some (.row es xs)) (hci : xs[i]? = some c) (has : toAVsO tab H ti.cells vs = some (as, ks)) (hn : p + as.length ≤ c.length) (hkn : k ∉ ks) : OpOk P o T H ⟨.un, (k, .row es (xs.set i (c.take p ++ as ++ c.drop (p + as.length)))) :: deadH ks, tk⟩ := by
  intro F S γ a w next Q hdst' M hnext
  have h := M.eval hx
  generalize he : a.eval x = v at h
  cases h with
  | der _ _ _ b p h => rw [hk] at h; cases h
  | er _ _ _ es' b xs' h hb =>
    rw [hk] at h
    cases h
    have hv := LRep.of_cells (M.eval hy) hc
    obtain ⟨g1, hks, g3⟩ := toAVs_rep M hv has
    obtain ⟨hes, h0 | ⟨b', arr, ty, h1, h2, h3, h4, h5⟩⟩ := M.own.rep k _ trivial hk
    · rw [h0.2.1] at hci; simp at hci
    · rw [hb] at h1
      cases h1
      have hlc := hes i c hci
      have hix : i < xs.length := (List.getElem?_eq_some_iff.1 hci).1
      have hfit : i * es + es ≤ arr.size := by
        rw [h3]
        have : (i + 1) * es ≤ (γ k).cap * es := Nat.mul_le_mul_right _ (by omega)
        rwa [Nat.succ_mul] at this
      have hsz : (a.eval y).cells.size = ti.size := by have := hv.1; simp at this; omega
      have hst := run_store (P := P) (ht _ _ hi) h2 hsz (by omega) hv.ones (p := i * es + p)
      generalize harr : (arr.toList.take (i * es + p) ++ (a.eval y).cells.toList ++ arr.toList.drop (i * es + p + ti.size)).toArray = arr' at hst
      have hrun : (execOp a.eval o).run P w = .ok .skip (w.setRow b arr') := by simp [execOp, ho, he, Instr.storeAt, Instr.sureAddr, hst]
      have M1 := M.kill ks hks
      have hk1 : killH ks H k = some (.row es xs) := by simp [killH, hkn, hk]
      have hnS := M1.no hk1 (by simp) hb
      have hasz : arr'.size = arr.size := by rw [← harr]; simp; omega
      have get : ∀ q, arr'[q]? = if q < i * es + p then arr[q]? else if q < i * es + p + ti.size then (a.eval y).cells[q - (i * es + p)]? else arr[q]? := fun q => by
        rw [← harr]
        simp only [List.getElem?_toArray, List.append_assoc]
        have hta : (arr.toList.take (i * es + p)).length = i * es + p := by simp; omega
        by_cases q1 : q < i * es + p
        · rw [List.getElem?_append_left (by omega), if_pos q1, List.getElem?_take, if_pos q1, Array.getElem?_toList]
        · rw [List.getElem?_append_right (by omega), if_neg q1, hta]
          by_cases q2 : q < i * es + p + ti.size
          · rw [List.getElem?_append_left (by simp; omega), if_pos q2, Array.getElem?_toList]
          · rw [List.getElem?_append_right (by simp; omega), if_neg q2, List.getElem?_drop, Array.getElem?_toList]
            congr 1
            simp
            omega
      have hla : as.length = ti.size := by omega
      have hmono : ∀ {v : Value} {y : AV}, Rep w (fun b => S b ∨ Killed γ ks b) v y → Rep (w.setRow b arr') (fun b => S b ∨ Killed γ ks b) v y := fun h => h.mono (fun _ h => h) (fun c hc => setRow_other w b c _ (by rintro rfl; exact hnS hc))
      have M' := M1.turn (w' := w.setRow b arr') k b (.row es xs) (.row es (xs.set i (c.take p ++ as ++ c.drop (p + as.length)))) hk1 (by simp) hb (by simp [Like]) (by simp) rfl rfl ⟨rfl, Nat.le_refl _⟩ (fun c hc => setRow_other w b c _ hc) ⟨fun j x hx => by
        by_cases hj : i = j
        · subst hj
          simp [hix] at hx
          subst hx
          simp
          omega
        · rw [List.getElem?_set_ne hj] at hx; exact hes j x hx, .inr ⟨b, arr', ty, hb, setRow_heap w b arr arr' ty (0, 0) h2, by rw [hasz, h3], by simpa using h4, fun j x q y hx hy => ?_⟩⟩
      · simp only [Oper.wp, hrun, Oper.upon]
        refine hnext (fun b => S b ∨ Killed γ ks b) γ _ _ (by cases o.dst <;> rfl) ?_
        rw [updH_new k _ ks H hkn, upd_nodst hdst, hdst]
        exact M'
      · by_cases hj : i = j
        · subst hj
          simp [hix] at hx
          subst hx
          by_cases q1 : q < p
          · have hy' : c[q]? = some y := by
              rw [List.getElem?_append_left (by simp; omega), List.getElem?_take, if_pos q1] at hy
              exact hy
            obtain ⟨u, hu, k1, k2⟩ := h5 i c q y hci hy'
            exact ⟨u, by rw [get, if_pos (by omega)]; exact hu, k1, hmono (k2.mono (fun _ h => .inl h) (fun _ _ => rfl))⟩
          · by_cases q2 : q < p + as.length
            · have hy' : as[q - p]? = some y := by
                rw [List.getElem?_append_right (by simp; omega), List.getElem?_append_left (by simp; omega)] at hy
                rw [← hy]
                congr 1
                simp
                omega
              obtain ⟨u, hu, k1, k2⟩ := g3 ks (fun _ h => h) (q - p) y hy'
              refine ⟨u, ?_, k1, hmono k2⟩
              rw [get, if_neg (by omega), if_pos (by omega), show i * es + q - (i * es + p) = q - p by omega]
              simpa using hu
            · have hy' : c[q]? = some y := by
                rw [List.getElem?_append_right (by simp; omega), List.getElem?_append_right (by simp; omega), List.getElem?_drop] at hy
                rw [← hy]
                congr 1
                simp
                omega
              obtain ⟨u, hu, k1, k2⟩ := h5 i c q y hci hy'
              exact ⟨u, by rw [get, if_neg (by omega), if_neg (by omega)]; exact hu, k1, hmono (k2.mono (fun _ h => .inl h) (fun _ _ => rfl))⟩
        · rw [List.getElem?_set_ne hj] at hx
          obtain ⟨u, hu, k1, k2⟩ := h5 j x q y hx hy
          refine ⟨u, ?_, k1, hmono (k2.mono (fun _ h => .inl h) (fun _ _ => rfl))⟩
          have hq : q < es := by have := (List.getElem?_eq_some_iff.1 hy).1; have := hes j x hx; omega
          rw [get]
          rcases Nat.lt_or_gt_of_ne hj with hj | hj
          · have : (i + 1) * es ≤ j * es := Nat.mul_le_mul_right _ hj
            rw [Nat.succ_mul] at this
            rw [if_neg (by omega), if_neg (by omega)]
            exact hu
          · have : (j + 1) * es ≤ i * es := Nat.mul_le_mul_right _ hj
            rw [Nat.succ_mul] at this
            rw [if_pos (by omega)]
            exact hu
end
end Go.Proofs.Ytcpgcenlgihmnaa.Abs
/- append. -/
set_option linter.unusedVariables false
set_option linter.unusedSimpArgs false
namespace Go.Proofs.Ytcpgcenlgihmnaa.Abs
open Go

def SrcOk (w : World) (S : Nat → Prop) (v : Value) (es : Nat) (ys : List (List AV)) : Prop :=
  ∃ a c, v = .slice a ys.length c ∧ (∀ (i : Nat) (y : List AV), ys[i]? = some y → y.length = es) ∧
    (ys ≠ [] → ∃ (b off : Nat) (f : Nat → Value), a = some ⟨b, off, none⟩ ∧ (∀ q, q < ys.length * es → w.cell? ⟨b, off + q, none⟩ = some (f q) ∧ one (f q) = true) ∧
      ∀ (i : Nat) (y : List AV) (j : Nat) (u : AV), ys[i]? = some y → y[j]? = some u → Rep w S (f (i * es + j)) u)
def srcO (H : Nat → Option Res) (es : Nat) : LV → Option (List (List AV) × List Nat)
  | .pv (.lst e xs) => if e = es then some (xs, []) else none
  | .nl => some ([], [])
  | .rw k m => match H k with | some (.row e xs) => (if e = es then some (xs.take m, [k]) else none) | _ => none
  | .rv k lo m => match H k with | some (.row e xs) => (if e = es then some ((xs.take m).drop lo, [k]) else none) | _ => none
  | _ => none
theorem beq_iff {a b : Nat} : Nat.beq a b = true ↔ a = b := ⟨beq_t, fun h => by subst h; exact Nat.beq_refl a⟩
theorem srcL_iff (es : Nat) (x : LV) (h : HS) (K : List (List AV) → List Nat → Prop) : srcL es x h K ↔ ∃ ys ks, srcO (lkO h) es x = some (ys, ks) ∧ K ys ks := by
  cases x with
  | pv a =>
    cases a with
    | lst e xs =>
      simp only [srcL, srcO]
      cases hb : Nat.beq e es with
      | true =>
        obtain rfl := beq_t hb
        exact ⟨fun h => ⟨_, _, if_pos rfl, h⟩, fun ⟨_, _, e1, h⟩ => by rw [if_pos rfl] at e1; cases e1; exact h⟩
      | false => simp [beq_f hb]
    | _ => simp [srcL, srcO]
  | nl => exact ⟨fun h => ⟨_, _, rfl, h⟩, fun ⟨_, _, e, h⟩ => by cases e; exact h⟩
  | rw k m =>
    simp only [srcL, srcO, lk_iff]
    cases hk : lkO h k with
    | none => simp
    | some r =>
      cases r with
      | row e xs =>
        simp only [Option.some.injEq, exists_eq_left']
        cases hb : Nat.beq e es with
        | true =>
          obtain rfl := beq_t hb
          exact ⟨fun h => ⟨_, _, if_pos rfl, h⟩, fun ⟨_, _, e1, h⟩ => by rw [if_pos rfl] at e1; cases e1; exact h⟩
        | false => simp [beq_f hb]
      | _ => simp
  | rv k lo m =>
    simp only [srcL, srcO, lk_iff]
    cases hk : lkO h k with
    | none => simp
    | some r =>
      cases r with
      | row e xs =>
        simp only [Option.some.injEq, exists_eq_left']
        cases hb : Nat.beq e es with
        | true =>
          obtain rfl := beq_t hb
          exact ⟨fun h => ⟨_, _, if_pos rfl, h⟩, fun ⟨_, _, e1, h⟩ => by rw [if_pos rfl] at e1; cases e1; exact h⟩
        | false => simp [beq_f hb]
      | _ => simp
  | _ => simp [srcL, srcO]

theorem divmod {q n es : Nat} (h : q < n * es) : q / es < n ∧ q % es < es ∧ (q / es) * es + q % es = q := by
  have he : 0 < es := by
    rcases Nat.eq_zero_or_pos es with h0 | h0
    · subst h0; simp at h
    · exact h0
  refine ⟨Nat.div_lt_of_lt_mul (by rwa [Nat.mul_comm]), Nat.mod_lt _ he, ?_⟩
  rw [Nat.mul_comm]; exact Nat.div_add_mod q es

section
variable {P : Program} {o : Oper} {T : Nat → Option LV} {H : Nat → Option Res} {tab : Tab} {F : Fr} {S : Nat → Prop} {γ : Nat → GV} {tm : Array Value} {w : World}

/-- A row's cells from element lo on. -/
theorem row_src (M : ModF F S γ T H tm w) {k es lo m : Nat} {xs : List (List AV)} (hk : H k = some (.row es xs)) (hm : m ≤ xs.length) {b : Nat} (hb : (γ k).blk = some b) :
    ∃ f : Nat → Value, (∀ q, q < ((xs.take m).drop lo).length * es → w.cell? ⟨b, lo * es + q, none⟩ = some (f q) ∧ one (f q) = true) ∧
      ∀ (i : Nat) (y : List AV) (j : Nat) (u : AV), ((xs.take m).drop lo)[i]? = some y → y[j]? = some u → Rep w S (f (i * es + j)) u := by
  obtain ⟨hes, h0 | ⟨b', arr, ty, h1, h2, h3, h4, h5⟩⟩ := M.own.rep k _ trivial hk
  · rw [h0.1] at hb; cases hb
  · rw [hb] at h1
    cases h1
    have hget : ∀ (i : Nat) (x : List AV), ((xs.take m).drop lo)[i]? = some x → xs[lo + i]? = some x := fun i x hx => by
      rw [List.getElem?_drop, List.getElem?_take] at hx
      split at hx
      · exact hx
      · cases hx
    refine ⟨fun q => (arr[lo * es + q]?).getD undef, fun q hq => ?_, fun i y j u hy hu => ?_⟩
    · obtain ⟨d1, d2, d3⟩ := divmod hq
      have hx := hget (q / es) _ (List.getElem?_eq_getElem d1)
      have hl := hes _ _ hx
      obtain ⟨v, hv, h1, _⟩ := h5 _ _ (q % es) _ hx (List.getElem?_eq_getElem (by rw [hl]; exact d2))
      rw [show (lo + q / es) * es + q % es = lo * es + q by rw [Nat.add_mul]; omega] at hv
      simp [World.cell?, h2, hv, h1]
    · obtain ⟨v, hv, _, hr⟩ := h5 _ _ j u (hget i y hy) hu
      rw [show (lo + i) * es + j = lo * es + (i * es + j) by rw [Nat.add_mul]; omega] at hv
      simp only [hv, Option.getD_some]
      exact hr
theorem src_rep (M : ModF F S γ T H tm w) {v : Value} {l : LV} (hr : RepL w S γ H v l) {es : Nat} {ys : List (List AV)} {ks : List Nat} (h : srcO H es l = some (ys, ks)) : SrcOk w S v es ys := by
  cases hr with
  | pv h1 =>
    cases h1 with
    | lst a c e xs b off vs hc ha he hcell hrep =>
      simp only [srcO] at h
      split at h
      · rename_i hes
        cases h
        subst hes
        refine ⟨a, c, rfl, he, fun hne => ⟨b, off, fun q => vs (q / e) (q % e), (ha hne).1, fun q hq => ?_, fun i y j u hy hu => ?_⟩⟩
        · obtain ⟨d1, d2, d3⟩ := divmod hq
          have hx := List.getElem?_eq_getElem d1
          have hl := he _ _ hx
          have := hcell _ _ (q % e) hx d2
          rw [show off + q / e * e + q % e = off + q by omega] at this
          exact ⟨this, (hrep _ _ (q % e) _ hx (List.getElem?_eq_getElem (by rw [hl]; exact d2))).one⟩
        · have hl := he _ _ hy
          have hj : j < e := by have := (List.getElem?_eq_some_iff.1 hu).1; omega
          have h1 : (i * e + j) / e = i := by rw [Nat.mul_comm, Nat.mul_add_div (by omega), Nat.div_eq_of_lt hj]; simp
          have h2 : (i * e + j) % e = j := by rw [Nat.mul_comm, Nat.mul_add_mod, Nat.mod_eq_of_lt hj]
          show Rep w S (vs ((i * e + j) / e) ((i * e + j) % e)) u
          rw [h1, h2]
          exact hrep i y j u hy hu
      · cases h
    | _ => simp [srcO] at h
  | nl => cases h; exact ⟨none, 0, rfl, by simp, by simp⟩
  | rw k m es' xs hk hm hc hb =>
    simp only [srcO, hk] at h
    split at h
    · rename_i he
      cases h
      subst he
      have hlen : (xs.take m).length = m := by simp; omega
      refine ⟨(γ k).blk.map fun b => ⟨b, 0, none⟩, (γ k).cap, by rw [hlen], fun i y hy => ?_, fun hne => ?_⟩
      · rw [List.getElem?_take] at hy
        split at hy
        · exact (M.own.rep k _ trivial hk).1 i y hy
        · cases hy
      · obtain ⟨b, hb⟩ := hb (by rcases Nat.eq_zero_or_pos m with h0 | h0; subst h0; simp at hne; exact h0)
        obtain ⟨f, f1, f2⟩ := row_src M (lo := 0) hk hm hb
        simp only [List.drop_zero, Nat.zero_mul] at f1 f2
        exact ⟨b, 0, f, by rw [hb]; rfl, f1, f2⟩
    · cases h
  | rv k lo m es' xs a c hk hl hm hc ha =>
    simp only [srcO, hk] at h
    split at h
    · rename_i he
      cases h
      subst he
      have hlen : ((xs.take m).drop lo).length = m - lo := by simp; omega
      refine ⟨a, c, by rw [hlen], fun i y hy => ?_, fun hne => ?_⟩
      · rw [List.getElem?_drop, List.getElem?_take] at hy
        split at hy
        · exact (M.own.rep k _ trivial hk).1 _ y hy
        · cases hy
      · have hlt : lo < m := by
          rcases Nat.lt_or_ge lo m with h0 | h0
          · exact h0
          · exact absurd (List.eq_nil_of_length_eq_zero (by rw [hlen]; omega)) hne
        obtain ⟨b, hb, rfl⟩ := ha hlt
        obtain ⟨f, f1, f2⟩ := row_src M (lo := lo) hk hm hb
        exact ⟨b, _, f, rfl, f1, f2⟩
    · cases h
  | drw k m a c hk => simp [srcO, hk] at h
  | drv k lo m a c hk => simp [srcO, hk] at h
  | _ => simp [srcO] at h

/-- Behind an append in place: the row's block is the new key's. -/
theorem ModF.move (M : ModF F S γ T H tm w) {w' : World} (k d b : Nat) (r : Res) {es : Nat} {xs : List (List AV)} (hk : H k = some (.row es xs)) (hd : H d = none) (hb : (γ k).blk = some b) (hn : r ≠ .dead) (hsz : w'.heap.size = w.heap.size) (ho : w'.os = w.os) (ht : w'.tape = w.tape) (hu : w'.output = w.output ∧ w.drawn ≤ w'.drawn)
    (hoth : ∀ c, c ≠ b → w'.heap[c]? = w.heap[c]?) (hr : RepR w' S (updG γ d (γ k)) (upd1 (upd1 H k .dead) d r) d r) : ModF F S (updG γ d (γ k)) T (upd1 (upd1 H k .dead) d r) tm w' := by
  have hkd : d ≠ k := by rintro rfl; rw [hd] at hk; cases hk
  have nrow : (Res.row es xs) ≠ .dead := by simp
  have hkp : Keeps γ (updG γ d (γ k)) H (upd1 (upd1 H k .dead) d r) := ⟨fun k' r1 h => by
    have hdk : d ≠ k' := by rintro rfl; rw [hd] at h; cases h
    by_cases he : k = k'
    · subst he
      rw [hk] at h
      cases h
      exact ⟨.dead, by simp [upd1, hdk], by simp [Like], fun h => (h rfl).elim⟩
    · exact ⟨r1, by simp [upd1, hdk, he, h], Like.refl r1, fun _ => .of_eq (by simp [updG, hdk])⟩⟩
  have same : ∀ k' r1, upd1 (upd1 H k .dead) d r k' = some r1 → r1 ≠ .dead → d ≠ k' → k ≠ k' ∧ H k' = some r1 ∧ updG γ d (γ k) k' = γ k' := fun k' r1 h h1 h2 => by
    by_cases he : k = k'
    · subst he; simp [upd1, h2] at h; exact (h1 h.symm).elim
    · exact ⟨he, by simpa [upd1, h2, he] using h, by simp [updG, h2]⟩
  have gd : updG γ d (γ k) d = γ k := by simp [updG]
  refine M.step (E := fun c => c = b) ⟨ho, ht, hu, by omega, fun c _ hc => hoth c hc, fun _ h => h, fun c hc => ⟨by have := M.stay c hc; omega, .inl hc⟩⟩ (fun c hc => by subst hc; exact ⟨M.own' hk nrow hb, M.no hk nrow hb⟩) hkp ⟨fun k' r1 _ h => ?_, fun k' r1 c _ h h1 hc => ?_, fun k1 k2 r1 r2 c _ _ h1 h2 hn1 hn2 hne hc hc' => ?_⟩ ?_
  · by_cases hdk : d = k'
    · subst hdk; simp [upd1] at h; subst h; exact hr
    · by_cases h1 : r1 = .dead
      · subst h1; trivial
      · obtain ⟨he, h2, h3⟩ := same k' r1 h h1 hdk
        exact (M.own.rep k' r1 trivial h2).mono (fun _ h => h) (fun c hc => hoth c (by rintro rfl; exact M.no hk nrow hb hc)) hkp h3
          (fun c hn1 hc => hoth c (by rintro rfl; exact M.own.apart k k' _ r1 c trivial trivial hk h2 nrow hn1 he (.inl hb) hc))
  · by_cases hdk : d = k'
    · subst hdk
      rw [gd] at hc
      exact ⟨by have := M.ltH hk nrow hc; omega, M.noH hk nrow hc⟩
    · obtain ⟨he, h2, h3⟩ := same k' r1 h h1 hdk
      rw [h3] at hc
      exact ⟨by have := M.ltH h2 h1 hc; omega, M.noH h2 h1 hc⟩
  · by_cases hd1 : d = k1
    · subst hd1
      obtain ⟨he, h3, h4⟩ := same k2 r2 h2 hn2 hne
      rw [gd] at hc
      rw [h4] at hc'
      exact M.own.apart k k2 _ r2 c trivial trivial hk h3 nrow hn2 he hc hc'
    · obtain ⟨he, h3, h4⟩ := same k1 r1 h1 hn1 hd1
      rw [h4] at hc
      by_cases hd2 : d = k2
      · subst hd2
        rw [gd] at hc'
        exact M.own.apart k k1 _ r1 c trivial trivial hk h3 nrow hn1 he hc' hc
      · obtain ⟨he2, h5, h6⟩ := same k2 r2 h2 hn2 hd2
        rw [h6] at hc'
        exact M.own.apart k1 k2 r1 r2 c trivial trivial h3 h5 hn1 hn2 hne hc hc'
  · rintro c ⟨k', r1, _, h, h1, hc⟩
    by_cases hdk : d = k'
    · subst hdk
      rw [gd] at hc
      exact M.ownH hk nrow hc
    · obtain ⟨he, h2, h3⟩ := same k' r1 h h1 hdk
      rw [h3] at hc
      exact M.ownH h2 h1 hc
end
end Go.Proofs.Ytcpgcenlgihmnaa.Abs
/- append, to its end. -/
set_option linter.unusedVariables false
set_option linter.unusedSimpArgs false
namespace Go.Proofs.Ytcpgcenlgihmnaa.Abs
open Go

section
variable {P : Program} {o : Oper} {T : Nat → Option LV} {H : Nat → Option Res} {tab : Tab} {F : Fr} {S : Nat → Prop} {γ : Nat → GV} {tm : Array Value} {w : World}

/-- The source's cells as a list. -/
theorem src_news {v : Value} {es : Nat} {ys : List (List AV)} (h : SrcOk w S v es ys) (hne : ys ≠ []) :
    ∃ (b off c : Nat) (news : List Value), v = .slice (some ⟨b, off, none⟩) ys.length c ∧ news.length = ys.length * es ∧ (∀ j u, news[j]? = some u → w.cell? ((⟨b, off, none⟩ : Addr).add j) = some u) ∧ (∀ u ∈ news, one u = true) ∧
      ∀ (i : Nat) (y : List AV) (j : Nat) (u : AV), ys[i]? = some y → y[j]? = some u → ∃ z, news[i * es + j]? = some z ∧ one z = true ∧ Rep w S z u := by
  obtain ⟨a, c, rfl, hlen, h⟩ := h
  obtain ⟨b, off, f, rfl, h1, h2⟩ := h hne
  refine ⟨b, off, c, (List.range (ys.length * es)).map f, rfl, by simp, fun j u hu => ?_, fun u hu => ?_, fun i y j u hy hu => ?_⟩
  · have hj : j < ys.length * es := by have := (List.getElem?_eq_some_iff.1 hu).1; simpa using this
    have : u = f j := by simpa [hj] using hu.symm
    rw [add_none, (h1 j hj).1, this]
  · obtain ⟨q, hq, rfl⟩ := List.mem_map.1 hu
    exact (h1 q (List.mem_range.1 hq)).2
  · have hi : i < ys.length := (List.getElem?_eq_some_iff.1 hy).1
    have hj : j < es := by have := (List.getElem?_eq_some_iff.1 hu).1; have := hlen i y hy; omega
    have hq : i * es + j < ys.length * es := by
      have : (i + 1) * es ≤ ys.length * es := Nat.mul_le_mul_right _ hi
      rw [Nat.succ_mul] at this
      omega
    exact ⟨f (i * es + j), by simp [hq], (h1 _ hq).2, h2 i y j u hy hu⟩

theorem rw_new {w' : World} {d cap m es : Nat} {xs : List (List AV)} {b : Nat} (hm : m ≤ xs.length) (hc : m ≤ cap) : RepL w' S (updG γ d (gv (some b) cap)) (upd1 H d (.row es xs)) (.slice (some ⟨b, 0, none⟩) m cap) (.rw d m) := by
  have := RepL.rw (w := w') (S := S) (γ := updG γ d (gv (some b) cap)) (H := upd1 H d (.row es xs)) d m es xs (by simp [upd1]) hm (by simpa [updG] using hc) (fun _ => ⟨b, by simp [updG]⟩)
  simpa [updG] using this
theorem rw_at {w' : World} {d m es : Nat} {g : GV} {xs : List (List AV)} {b : Nat} (hb : g.blk = some b) (hm : m ≤ xs.length) (hc : m ≤ g.cap) : RepL w' S (updG γ d g) (upd1 H d (.row es xs)) (.slice (some ⟨b, 0, none⟩) m g.cap) (.rw d m) := by
  have := RepL.rw (w := w') (S := S) (γ := updG γ d g) (H := upd1 H d (.row es xs)) d m es xs (by simp [upd1]) hm (by simpa [updG] using hc) (fun _ => ⟨b, by simpa [updG] using hb⟩)
  simpa [updG, hb] using this
theorem rw_nil {w' : World} {d es : Nat} : RepL w' S (updG γ d (gv none 0)) (upd1 H d (.row es [])) (.slice none 0 0) (.rw d 0) := by
  have := RepL.rw (w := w') (S := S) (γ := updG γ d (gv none 0)) (H := upd1 H d (.row es [])) d 0 es [] (by simp [upd1]) (by simp) (by simp) (by omega)
  simpa [updG] using this

theorem app_nil (ht : TabOk P tab) (M : ModF F S γ T H tm w) {d t e ty : Nat} {ti te : TI} (hi : lkO tab t = some ti) (hd : ti.d = .sl e) (hie : lkO tab e = some te) {x : Value} {ys : List (List AV)} (hs : SrcOk w S x te.size ys) (hb : ys.length * te.bytes ≤ 140737488355328) (hH : H d = none) :
    ∃ v w' γ', (Builtin.append_ #[t, t] ty #[.slice none 0 0, x]).run P w = .ok v w' ∧ ModF F S γ' T (upd1 H d (.row te.size ys)) tm w' ∧ RepL w' S γ' (upd1 H d (.row te.size ys)) v (.rw d ys.length) := by
  obtain ⟨i, z, hti⟩ := tif (ht _ _ hi)
  obtain ⟨ie, ze, hte⟩ := tif (ht _ _ hie)
  have hu := hti.d
  rw [hd] at hu
  have hu := sl_of hu
  have hylen := hs.choose_spec.choose_spec.2.1
  by_cases hne : ys = []
  · subst hne
    obtain ⟨a, c, rfl, _, _⟩ := hs
    refine ⟨.slice none 0 0, w, updG γ d (gv none 0), ?_, M.newNil d te.size hH, rw_nil⟩
    cases a <;> simp [Builtin.append_, run_und hu, run_size hte.info, Builtin.lenOf, Builtin.firstCells, loadCells, loadCellsFrom]
  · obtain ⟨b, off, c, news, rfl, hnl, hcell, h1, hrep⟩ := src_news hs hne
    have hpos : 0 < ys.length := List.length_pos_iff.2 hne
    have hbp := hte.bp
    have hle : ys.length ≤ ys.length * te.bytes := Nat.le_mul_of_pos_right _ hbp
    have hrun := run_append_nil (P := P) w t ty e ie ze hu hte.info hte.zero ⟨b, off, none⟩ ys.length c news (by rw [hte.size]; exact hnl) hcell hpos (by omega) (by rw [hte.bytes]; omega)
    generalize hcap : grownCap w ys.length 0 e = cap at hrun
    have hge : ys.length ≤ cap := by rw [← hcap]; exact grownCap_ge w _ _ _
    generalize harr : (news.toArray ++ Builtin.zeroCells ze.cells (cap - ys.length)) = arr at hrun
    have hzs : ze.cells.size = te.size := by have := (zsOk_get _ _ hte.zs).1; have := hte.zl; simp at *; omega
    have hasz : arr.size = cap * te.size := by
      rw [← harr]
      simp [hnl, size_zeroCells, hzs, ← Nat.add_mul]
      congr 1
      omega
    have hpush : (w.drew.alloc (.cells arr e)).heap = w.heap.push (.cells arr e) := rfl
    have hr : RepR (w.drew.alloc (.cells arr e)) S (updG γ d (gv (some w.heap.size) cap)) (upd1 H d (.row te.size ys)) d (.row te.size ys) := by
      refine ⟨hylen, .inr ⟨w.heap.size, arr, e, by simp [updG], by rw [hpush]; simp, by simpa [updG] using hasz, by simpa [updG] using hge, fun q y j u hy hu' => ?_⟩⟩
      obtain ⟨zv, hz, ho1, hr⟩ := hrep q y j u hy hu'
      refine ⟨zv, ?_, ho1, hr.mono (fun _ h => h) (fun c hc => by rw [hpush, Array.getElem?_push, if_neg (by have := M.stay c hc; omega)])⟩
      have hlt := (List.getElem?_eq_some_iff.1 hz).1
      rw [← harr, Array.getElem?_append_left (by simpa using hlt)]
      simpa using hz
    exact ⟨_, _, _, hrun, M.new d cap _ _ hH hpush rfl rfl ⟨rfl, Nat.le_succ _⟩ hr, rw_new (by omega) hge⟩
theorem upd1_kill (H : Nat → Option Res) (k : Nat) : killH [k] H = upd1 H k .dead := by
  funext n
  by_cases h : k = n
  · subst h; simp [killH, upd1]
  · simp [killH, upd1, h, Ne.symm h]
theorem app_row (ht : TabOk P tab) (M : ModF F S γ T H tm w) {d t e ty k m : Nat} {ti te : TI} (hi : lkO tab t = some ti) (hd : ti.d = .sl e) (hie : lkO tab e = some te) {x s : Value} {xs ys : List (List AV)} (hk : H k = some (.row te.size xs)) (hs0 : RepL w S γ H s (.rw k m)) (hs : SrcOk w S x te.size ys) (hb : (m + ys.length) * te.bytes ≤ 140737488355328) (hH : H d = none) :
    ∃ v w' S' γ', (Builtin.append_ #[t, t] ty #[s, x]).run P w = .ok v w' ∧ ModF F S' γ' T (upd1 (upd1 H k .dead) d (.row te.size (xs.take m ++ ys))) tm w' ∧ RepL w' S' γ' (upd1 (upd1 H k .dead) d (.row te.size (xs.take m ++ ys))) v (.rw d (m + ys.length)) := by
  have hkd : d ≠ k := by rintro rfl; rw [hH] at hk; cases hk
  have M1 := M.kill [k] (by simp [hk, Rowy])
  have hH1 : killH [k] H d = none := by simp [killH, hkd, hH]
  have up : ∀ {v : Value} {a : AV}, Rep w S v a → Rep w (fun b => S b ∨ Killed γ [k] b) v a := fun h => h.mono (fun _ h => .inl h) (fun _ _ => rfl)
  obtain ⟨i, z, hti⟩ := tif (ht _ _ hi)
  obtain ⟨ie, ze, hte⟩ := tif (ht _ _ hie)
  have hu := hti.d
  rw [hd] at hu
  have hu := sl_of hu
  have hylen := hs.choose_spec.choose_spec.2.1
  cases hs0 with
  | drw _ _ _ _ h => rw [hk] at h; cases h
  | rw _ _ es' xs' h hm hc hb0 =>
    rw [hk] at h
    cases h
    have htl : (xs.take m).length = m := by simp; omega
    obtain ⟨hes, h0 | ⟨b, cur, ty0, h1, h2, h3, h4, h5⟩⟩ := M.own.rep k _ trivial hk
    · obtain ⟨g0, rfl, g2⟩ := h0
      have hm0 : m = 0 := by simpa using hm
      subst hm0
      have hs1 : SrcOk w (fun b => S b ∨ Killed γ [k] b) x te.size ys := by
        obtain ⟨a, c, e1, e2, e3⟩ := hs
        exact ⟨a, c, e1, e2, fun hne => by
          obtain ⟨b, off, f, e4, e5, e6⟩ := e3 hne
          exact ⟨b, off, f, e4, e5, fun i y j u hy hu => up (e6 i y j u hy hu)⟩⟩
      obtain ⟨v, w', γ', r1, r2, r3⟩ := app_nil (ty := ty) ht M1 hi hd hie hs1 (by simpa using hb) hH1
      rw [upd1_kill] at r2 r3
      refine ⟨v, w', _, γ', by rw [g0, g2]; exact r1, by simpa using r2, by simpa using r3⟩
    · have hrow : ∀ (i : Nat) (y : List AV) (j : Nat) (u : AV), (xs.take m)[i]? = some y → y[j]? = some u → ∃ v, cur[i * te.size + j]? = some v ∧ one v = true ∧ Rep w S v u := fun i y j u hy hu => by
        rw [List.getElem?_take] at hy
        split at hy
        · exact h5 i y j u hy hu
        · cases hy
      have hlen' : ∀ (i : Nat) (y : List AV), (xs.take m ++ ys)[i]? = some y → y.length = te.size := fun i y hy => by
        by_cases him : i < m
        · rw [List.getElem?_append_left (by omega), List.getElem?_take, if_pos him] at hy
          exact hes i y hy
        · rw [List.getElem?_append_right (by omega)] at hy
          exact hylen _ y hy
      have hcapm : m * te.size ≤ cur.size := by rw [h3]; exact Nat.mul_le_mul_right _ hc
      -- the new cells of elements, in whatever array begins with the old ones and the news
      have fin : ∀ (arr : Array Value) (news : List Value), news.length = ys.length * te.size → (∀ q, q < m * te.size → arr[q]? = cur[q]?) → (∀ q, q < news.length → arr[m * te.size + q]? = news[q]?) →
          (∀ (i : Nat) (y : List AV) (j : Nat) (u : AV), ys[i]? = some y → y[j]? = some u → ∃ z, news[i * te.size + j]? = some z ∧ one z = true ∧ Rep w S z u) →
          ∀ (i : Nat) (y : List AV) (j : Nat) (u : AV), (xs.take m ++ ys)[i]? = some y → y[j]? = some u → ∃ v, arr[i * te.size + j]? = some v ∧ one v = true ∧ Rep w S v u := fun arr news hnl ha hb hrep i y j u hy hu => by
        have hj : j < te.size := by have := (List.getElem?_eq_some_iff.1 hu).1; have := hlen' i y hy; omega
        by_cases him : i < m
        · rw [List.getElem?_append_left (by omega)] at hy
          have : (i + 1) * te.size ≤ m * te.size := Nat.mul_le_mul_right _ him
          rw [Nat.succ_mul] at this
          rw [ha _ (by omega)]
          exact hrow i y j u hy hu
        · rw [List.getElem?_append_right (by omega), htl] at hy
          obtain ⟨zv, hz, ho1, hr⟩ := hrep _ y j u hy hu
          have hlt := (List.getElem?_eq_some_iff.1 hz).1
          have hq : i * te.size + j = m * te.size + ((i - m) * te.size + j) := by
            rw [← Nat.add_assoc, ← Nat.add_mul]
            congr 2
            omega
          exact ⟨zv, by rw [hq, hb _ hlt]; exact hz, ho1, hr⟩
      by_cases hne : ys = []
      · subst hne
        obtain ⟨a, c, rfl, _, _⟩ := hs
        have hr : RepR w S (updG γ d (γ k)) (upd1 (upd1 H k .dead) d (.row te.size (xs.take m ++ []))) d (.row te.size (xs.take m ++ [])) := by
          refine ⟨hlen', .inr ⟨b, cur, ty0, by simp [updG, h1], h2, by simp [updG, h3], by simp [updG]; omega, fin cur [] (by simp) (fun _ _ => rfl) (by simp) (by simp)⟩⟩
        have M' := M.move k d b _ hk hH h1 (by simp) rfl rfl rfl ⟨rfl, Nat.le_refl _⟩ (fun _ _ => rfl) hr
        refine ⟨.slice ((γ k).blk.map fun b => ⟨b, 0, none⟩) m (γ k).cap, w, S, _, ?_, M', ?_⟩
        · rw [h1]
          cases a <;> simp [Builtin.append_, run_und hu, run_size hte.info, Builtin.lenOf, Builtin.firstCells, loadCells, loadCellsFrom, hc, storeCells]
        · rw [h1]
          exact rw_at h1 (by simp; omega) hc
      · obtain ⟨sb, off, c, news, rfl, hnl, hcell, hn1, hrep⟩ := src_news hs hne
        have hpos : 0 < ys.length := List.length_pos_iff.2 hne
        have hbp := hte.bp
        have hle : m + ys.length ≤ (m + ys.length) * te.bytes := Nat.le_mul_of_pos_right _ hbp
        by_cases hroom : m + ys.length ≤ (γ k).cap
        · have hfit : m * te.size + news.length ≤ cur.size := by rw [hnl, h3, ← Nat.add_mul]; exact Nat.mul_le_mul_right _ hroom
          -- room: the news are stored behind
          have hf := run_firstCells_some (P := P) w te.size ys.length ⟨sb, off, none⟩ ys.length c news hnl hcell
          have hst := run_storeCells_at P b (m * te.size) ty0 news 0 cur w h2 (by simpa using hfit) hn1
          simp only [Nat.add_zero] at hst
          generalize harr : (cur.toList.take (m * te.size) ++ news ++ cur.toList.drop (m * te.size + news.length)).toArray = arr at hst
          have hrun : (Builtin.append_ #[t, t] ty #[.slice ((γ k).blk.map fun b => ⟨b, 0, none⟩) m (γ k).cap, .slice (some ⟨sb, off, none⟩) ys.length c]).run P w = .ok (.slice (some ⟨b, 0, none⟩) (m + ys.length) (γ k).cap) (w.setRow b arr) := by
            rw [h1]
            simp [Builtin.append_, run_und hu, run_size hte.info, hte.size, Builtin.lenOf, hroom, hf, add_none, hst]
          have hta : (cur.toList.take (m * te.size)).length = m * te.size := by simp; omega
          have hasz : arr.size = cur.size := by rw [← harr]; simp; omega
          have a1 : ∀ q, q < m * te.size → arr[q]? = cur[q]? := fun q hq => by
            rw [← harr, List.getElem?_toArray, List.append_assoc, List.getElem?_append_left (by omega), List.getElem?_take, if_pos hq, Array.getElem?_toList]
          have a2 : ∀ q, q < news.length → arr[m * te.size + q]? = news[q]? := fun q hq => by
            rw [← harr, List.getElem?_toArray, List.append_assoc, List.getElem?_append_right (by omega), hta, List.getElem?_append_left (by omega)]
            congr 1
            omega
          have hnS := M.no hk (by simp) h1
          have hr : RepR (w.setRow b arr) S (updG γ d (γ k)) (upd1 (upd1 H k .dead) d (.row te.size (xs.take m ++ ys))) d (.row te.size (xs.take m ++ ys)) := by
            refine ⟨hlen', .inr ⟨b, arr, ty0, by simp [updG, h1], setRow_heap w b cur arr ty0 (0, 0) h2, by simp [updG, hasz, h3], by simp [updG]; omega, fun q y j u hy hu' => ?_⟩⟩
            obtain ⟨v, hv, ho1, hr⟩ := fin arr news hnl a1 a2 hrep q y j u hy hu'
            exact ⟨v, hv, ho1, hr.mono (fun _ h => h) (fun c hc => setRow_other w b c _ (by rintro rfl; exact hnS hc))⟩
          have M' := M.move (w' := w.setRow b arr) k d b _ hk hH h1 (by simp) (by simp) rfl rfl ⟨rfl, Nat.le_refl _⟩ (fun c hc => setRow_other w b c _ hc) hr
          refine ⟨_, _, S, _, hrun, M', ?_⟩
          exact rw_at h1 (by simp; omega) hroom
        · -- it grows
          have holds : ∀ j v, (cur.toList.take (m * te.size))[j]? = some v → w.cell? ((⟨b, 0, none⟩ : Addr).add j) = some v := fun j v hv => by
            rw [List.getElem?_take] at hv
            split at hv
            · rw [add_none]; simpa [World.cell?, h2] using hv
            · cases hv
          have hta : (cur.toList.take (m * te.size)).length = m * te.size := by simp; omega
          have hrun := run_append_grow (P := P) w t ty e ie ze hu hte.info hte.zero ⟨b, 0, none⟩ m (γ k).cap (cur.toList.take (m * te.size)) (by rw [hte.size]; exact hta) holds ⟨sb, off, none⟩ ys.length c news (by rw [hte.size]; exact hnl) hcell (by omega) (by omega) (by rw [hte.bytes]; exact growslice_fits (by omega) hb)
          generalize hcap : grownCap w (m + ys.length) (γ k).cap e = cap at hrun
          have hge : m + ys.length ≤ cap := by rw [← hcap]; exact grownCap_ge w _ _ _
          generalize harr : ((cur.toList.take (m * te.size)).toArray ++ news.toArray ++ Builtin.zeroCells ze.cells (cap - (m + ys.length))) = arr at hrun
          have hzs : ze.cells.size = te.size := by have := (zsOk_get _ _ hte.zs).1; have := hte.zl; simp at *; omega
          have hasz : arr.size = cap * te.size := by
            rw [← harr]
            simp only [Array.size_append, List.size_toArray, hta, hnl, size_zeroCells, hzs, ← Nat.add_mul]
            congr 1
            omega
          have a1 : ∀ q, q < m * te.size → arr[q]? = cur[q]? := fun q hq => by
            rw [← harr, Array.append_assoc, Array.getElem?_append_left (by simpa [hta] using by omega), List.getElem?_toArray, List.getElem?_take, if_pos hq, Array.getElem?_toList]
          have a2 : ∀ q, q < news.length → arr[m * te.size + q]? = news[q]? := fun q hq => by
            rw [← harr, Array.append_assoc, Array.getElem?_append_right (by rw [List.size_toArray, hta]; omega), List.size_toArray, hta, Array.getElem?_append_left (by rw [List.size_toArray]; omega), List.getElem?_toArray]
            congr 1
            omega
          have hpush : (w.drew.alloc (.cells arr e)).heap = w.heap.push (.cells arr e) := rfl
          have hr : RepR (w.drew.alloc (.cells arr e)) (fun b => S b ∨ Killed γ [k] b) (updG γ d (gv (some w.heap.size) cap)) (upd1 (killH [k] H) d (.row te.size (xs.take m ++ ys))) d (.row te.size (xs.take m ++ ys)) := by
            refine ⟨hlen', .inr ⟨w.heap.size, arr, e, by simp [updG], by rw [hpush]; simp, by simpa [updG] using hasz, by simp [updG]; omega, fun q y j u hy hu' => ?_⟩⟩
            obtain ⟨zv, hz, ho1, hr⟩ := fin arr news hnl a1 a2 hrep q y j u hy hu'
            exact ⟨zv, hz, ho1, (up hr).mono (fun _ h => h) (fun c hc => by rw [hpush, Array.getElem?_push, if_neg (by have := M1.stay c hc; omega)])⟩
          have M2 := M1.new d cap _ _ hH1 (w' := w.drew.alloc (.cells arr e)) hpush rfl rfl ⟨rfl, Nat.le_succ _⟩ hr
          rw [upd1_kill] at M2
          refine ⟨_, _, _, _, by rw [h1]; exact hrun, M2, rw_new (by simp; omega) hge⟩

theorem run_builtin {a : Act} {b : Builtin} {c : Call} (ho : o.op = .call c) (hc : c.callee = .builtin b) : execOp a.eval o = builtin b c.argTypes o.type (c.args.map fun | .const _ => true | _ => false) (c.args.map a.eval) := by
  simp [execOp, ho, resolve, hc, invoke]
  rfl
theorem ok_append_nil (ht : TabOk P tab) {d t e : Nat} {c : Call} {x y : Operand} {ti te : TI} {l : LV} {ys : List (List AV)} {ks tk : List Nat} (hdst : o.dst = some d) (ho : o.op = .call c) (hc : c.callee = .builtin .append) (hargs : c.args.toList = [x, y]) (hty : c.argTypes.toList = [t, t])
    (hi : lkO tab t = some ti) (hd : ti.d = .sl e) (hie : lkO tab e = some te) (hx : evF T x = some .nl) (hy : evF T y = some l) (hs : srcO H te.size l = some (ys, ks)) (hb : ys.length * te.bytes ≤ 140737488355328) (hH : H d = none) : OpOk P o T H ⟨.rw d ys.length, [(d, .row te.size ys)], tk⟩ := by
  intro F S γ a w next Q hd' M hn
  have h := M.eval hx
  generalize he : a.eval x = v at h
  cases h
  obtain ⟨v, w', γ', r1, r2, r3⟩ := app_nil (ty := o.type) ht M hi hd hie (src_rep M (M.eval hy) hs) hb hH
  have e1 : c.args.map a.eval = #[.slice none 0 0, a.eval y] := by apply Array.ext'; simp [hargs, he]
  have e2 : c.argTypes = #[t, t] := by apply Array.ext'; simp [hty]
  have hrun : (execOp a.eval o).run P w = .ok (.value v) w' := by rw [run_builtin ho hc, e1, e2]; simp [builtin, r1]
  simp only [Oper.wp, hrun, Oper.upon]
  refine hn S γ' _ _ (by cases o.dst <;> rfl) ?_
  rw [updH_one]
  exact r2.put o.dst hd' r3
theorem updH_two (H : Nat → Option Res) (k d : Nat) (r : Res) : updH [(k, .dead), (d, r)] H = upd1 (upd1 H k .dead) d r := by funext n; simp [updH, upd1]
theorem ok_append_row (ht : TabOk P tab) {d t e k m : Nat} {c : Call} {x y : Operand} {ti te : TI} {l : LV} {xs ys : List (List AV)} {ks tk : List Nat} (hdst : o.dst = some d) (ho : o.op = .call c) (hc : c.callee = .builtin .append) (hargs : c.args.toList = [x, y]) (hty : c.argTypes.toList = [t, t])
    (hi : lkO tab t = some ti) (hd : ti.d = .sl e) (hie : lkO tab e = some te) (hx : evF T x = some (.rw k m)) (hk : H k = some (.row te.size xs)) (hy : evF T y = some l) (hs : srcO H te.size l = some (ys, ks)) (hb : (m + ys.length) * te.bytes ≤ 140737488355328) (hH : H d = none) :
    OpOk P o T H ⟨.rw d (m + ys.length), [(k, .dead), (d, .row te.size (xs.take m ++ ys))], tk⟩ := by
  intro F S γ a w next Q hd' M hn
  obtain ⟨v, w', S', γ', r1, r2, r3⟩ := app_row (ty := o.type) ht M hi hd hie hk (M.eval hx) (src_rep M (M.eval hy) hs) hb hH
  have e1 : c.args.map a.eval = #[a.eval x, a.eval y] := by apply Array.ext'; simp [hargs]
  have e2 : c.argTypes = #[t, t] := by apply Array.ext'; simp [hty]
  have hrun : (execOp a.eval o).run P w = .ok (.value v) w' := by rw [run_builtin ho hc, e1, e2]; simp [builtin, r1]
  simp only [Oper.wp, hrun, Oper.upon]
  refine hn S' γ' _ _ (by cases o.dst <;> rfl) ?_
  rw [updH_two]
  exact r2.put o.dst hd' r3
end
end Go.Proofs.Ytcpgcenlgihmnaa.Abs
/- Operations that only reckon, more; make. -/
set_option linter.unusedVariables false
set_option linter.unusedSimpArgs false
namespace Go.Proofs.Ytcpgcenlgihmnaa.Abs
open Go

section
variable {P : Program} {o : Oper} {T : Nat → Option LV} {H : Nat → Option Res} {tab : Tab}

/-! Built-in functions. -/
theorem ok_len (ht : TabOk P tab) {t : Nat} {c : Call} {x : Operand} {ti : TI} {l : LV} {n : Int} (ho : o.op = .call c) (hc : c.callee = .builtin .len) (hargs : c.args.toList = [x]) (hty : c.argTypes.toList = [t]) (hi : lkO tab t = some ti) (hx : evF T x = some l)
    (hl : (∃ e, ti.d = .sl e ∧ ((∃ es xs, l = .pv (.lst es xs) ∧ n = xs.length) ∨ (∃ k m, l = .rw k m ∧ n = m) ∨ (∃ k lo m, l = .rv k lo m ∧ n = ((m - lo : Nat) : Int)) ∨ (l = .nl ∧ n = 0))) ∨ (ti.d = .str ∧ ∃ s, l = .pv (.str s) ∧ n = s.size)) : OpOk P o T H ⟨.pv (.int .i64 n), [], []⟩ :=
  ok_value fun F S γ a w M => by
    refine ⟨.int .i64 n, ?_, .pv (.int _ _)⟩
    have h := M.eval hx
    have e1 : c.args.map a.eval = #[a.eval x] := by apply Array.ext'; simp [hargs]
    have e2 : c.argTypes = #[t] := by apply Array.ext'; simp [hty]
    rw [run_builtin ho hc, e1, e2]
    obtain ⟨i, z, hti⟩ := tif (ht _ _ hi)
    have hu := hti.d
    rcases hl with ⟨e, hd, hl⟩ | ⟨hd, s, rfl, rfl⟩
    · rw [hd] at hu
      have hu := sl_of hu
      generalize he : a.eval x = v at h
      have : ∃ ad cp m, v = .slice ad m cp ∧ (m : Int) = n := by
        rcases hl with ⟨es, xs, rfl, rfl⟩ | ⟨k, m, rfl, rfl⟩ | ⟨k, lo, m, rfl, rfl⟩ | ⟨rfl, rfl⟩
        · cases h with | pv h => cases h; exact ⟨_, _, _, rfl, rfl⟩
        · cases h <;> exact ⟨_, _, _, rfl, rfl⟩
        · cases h <;> exact ⟨_, _, _, rfl, rfl⟩
        · cases h; exact ⟨_, _, _, rfl, rfl⟩
      obtain ⟨ad, cp, m, rfl, rfl⟩ := this
      simp [builtin, Builtin.len_, run_und hu, goInt]
    · rw [hd] at hu
      have hu := str_of hu
      simp [builtin, Builtin.len_, run_und hu, goInt, h.str_inv]
theorem ok_cap_nil (ht : TabOk P tab) {t : Nat} {c : Call} {x : Operand} {ti : TI} {e : Nat} (ho : o.op = .call c) (hc : c.callee = .builtin .cap) (hargs : c.args.toList = [x]) (hty : c.argTypes.toList = [t]) (hi : lkO tab t = some ti) (hd : ti.d = .sl e) (hx : evF T x = some .nl) : OpOk P o T H ⟨.pv (.int .i64 0), [], []⟩ :=
  ok_value fun F S γ a w M => by
    refine ⟨.int .i64 0, ?_, .pv (.int _ _)⟩
    have h := M.eval hx
    have e1 : c.args.map a.eval = #[a.eval x] := by apply Array.ext'; simp [hargs]
    have e2 : c.argTypes = #[t] := by apply Array.ext'; simp [hty]
    rw [run_builtin ho hc, e1, e2]
    obtain ⟨i, z, hti⟩ := tif (ht _ _ hi)
    have hu := hti.d
    rw [hd] at hu
    have hu := sl_of hu
    generalize he : a.eval x = v at h
    cases h
    simp [builtin, Builtin.cap_, run_und hu, goInt]
theorem ok_minmax {b : Bool} {c : Call} {x y : Operand} {k : IntKind} {m n : Int} (ho : o.op = .call c) (hc : c.callee = .builtin (if b then .max else .min)) (hargs : c.args.toList = [x, y]) (hx : evF T x = some (.pv (.int k m))) (hy : evF T y = some (.pv (.int k n))) :
    OpOk P o T H ⟨.pv (.int k (if b then max m n else min m n)), [], []⟩ :=
  ok_value fun F S γ a w M => by
    refine ⟨.int k (if b then max m n else min m n), ?_, .pv (.int _ _)⟩
    have e1 : c.args.map a.eval = #[.int k m, .int k n] := by apply Array.ext'; simp [hargs, (M.eval hx).int_inv, (M.eval hy).int_inv]
    rw [run_builtin ho hc, e1]
    cases b
    · simp [builtin, Builtin.min_, Builtin.min2]
      omega
    · simp [builtin, Builtin.max_, Builtin.max2]
      omega

theorem ok_extract {x : Operand} {i : Nat} {cs : List LV} {l : LV} (ho : o.op = .extract x i) (hx : evF T x = some (.tu cs)) (hi : cs[i]? = some l) : OpOk P o T H ⟨l, [], []⟩ :=
  ok_value fun F S γ a w M => by
    have h := M.eval hx
    generalize he : a.eval x = v at h
    cases h with
    | tu arr cs hn h =>
      have hlt : i < arr.size := by have := (List.getElem?_eq_some_iff.1 hi).1; omega
      exact ⟨arr[i], by simp [execOp, ho, he, Instr.extract, hlt], h i _ _ (by simp [hlt]) hi⟩
def evsF (T : Nat → Option LV) : List Operand → Option (List LV)
  | [] => some []
  | x :: l => (evF T x).bind fun v => (evsF T l).map fun r => v :: r
theorem evs_iff (t : TS) : ∀ (xs : List Operand) (K : List LV → Prop), evs t xs K ↔ ∃ l, evsF (lkO t) xs = some l ∧ K l
  | [], K => by simp [evs, evsF]
  | x :: xs, K => by
    simp only [evs, evsF, ev_iff, evs_iff t xs]
    constructor
    · rintro ⟨v, h1, r, h2, h3⟩
      exact ⟨v :: r, by simp [h1, h2], h3⟩
    · rintro ⟨l, h1, h2⟩
      obtain ⟨v, h3, h4⟩ := Option.bind_eq_some_iff.1 h1
      obtain ⟨r, h5, rfl⟩ := Option.map_eq_some_iff.1 h4
      exact ⟨v, h3, r, h5, h2⟩
theorem ModF.evals {F : Fr} {S : Nat → Prop} {γ : Nat → GV} {a : Act} {w : World} (M : ModF F S γ T H a.tmps w) : ∀ {xs : List Operand} {ls : List LV}, evsF T xs = some ls → (xs.map a.eval).length = ls.length ∧ ∀ (i : Nat) (v : Value) (l : LV), (xs.map a.eval)[i]? = some v → ls[i]? = some l → RepL w S γ H v l
  | [], ls, h => by cases h; simp
  | x :: xs, ls, h => by
    obtain ⟨v, h3, h4⟩ := Option.bind_eq_some_iff.1 h
    obtain ⟨r, h5, rfl⟩ := Option.map_eq_some_iff.1 h4
    obtain ⟨e1, e2⟩ := ModF.evals M h5
    refine ⟨by simpa using e1, fun i u l hu hl => ?_⟩
    cases i with
    | zero => cases hu; cases hl; exact M.eval h3
    | succ i => exact e2 i u l hu hl
theorem ok_makeFunc {f : Nat} {first captured : Array Operand} {ls : List LV} (ho : o.op = .makeFunc (.func f) first captured) (hcap : captured.toList = []) (hf : evsF T first.toList = some ls) : OpOk P o T H ⟨.fn f ls, [], []⟩ :=
  ok_value fun F S γ a w M => by
    obtain ⟨e1, e2⟩ := M.evals hf
    have hcap : captured = #[] := by simpa using hcap
    refine ⟨.func (.func f) (first.map a.eval) #[], by simp [execOp, ho, Instr.makeFunc, hcap], .fn f _ ls (by simpa using e1) (fun i v c hv hc => e2 i v c (by simpa using hv) hc)⟩

/-! Slices. -/
/-- A bound: it is i. -/
def Bd (T : Nat → Option LV) (x : Option Operand) (d i : Nat) : Prop := (x = none ∧ i = d) ∨ ∃ y k n, x = some y ∧ evF T y = some (.pv (.int k n)) ∧ 0 ≤ n ∧ n.toNat = i
theorem Bd.eval {F : Fr} {S : Nat → Prop} {γ : Nat → GV} {a : Act} {w : World} (M : ModF F S γ T H a.tmps w) {x : Option Operand} {d i : Nat} (h : Bd T x d i) : (x.map a.eval = none ∧ i = d) ∨ ∃ k, x.map a.eval = some (.int k i) := by
  rcases h with ⟨rfl, rfl⟩ | ⟨y, k, n, rfl, hy, h0, rfl⟩
  · exact .inl ⟨rfl, rfl⟩
  · refine .inr ⟨k, ?_⟩
    simp [(M.eval hy).int_inv]
    omega
theorem run_slices {t e i j len cap sz : Nat} {ie : TypeInfo} {a : Option Addr} {lo hi : Option Value} {w : World} (hu : P.underlying t = some (.slice e)) (hie : P.info? e = some ie) (hsz : ie.size = sz)
    (hlo : (lo = none ∧ i = 0) ∨ ∃ k, lo = some (.int k (i : Int))) (hhi : (hi = none ∧ j = len) ∨ ∃ k, hi = some (.int k (j : Int))) (hij : i ≤ j) (hj : j ≤ cap) : (Instr.sliceAt t (.slice a len cap) lo hi none).run P w = .ok (sliced a i j cap sz) w := by
  have hue : P.elem t = e := by simp [Program.elem, hu]
  have hu' : P.underlying t = some (.slice (P.elem t)) := by rw [hue]; exact hu
  rw [run_sliceAt_slice w t _ _ _ _ hu']
  rcases hlo with ⟨rfl, rfl⟩ | ⟨kl, rfl⟩ <;> rcases hhi with ⟨rfl, rfl⟩ | ⟨kh, rfl⟩
  · rw [run_slice_all w t a j cap hu', hue, run_size hie, hsz]; rfl
  · rw [run_slice_h w t a len cap hu' kh j (by omega) (by omega), hue, run_size hie, hsz]; simp
  · rw [run_slice_l w t a j cap hu' kl i (by omega) (by omega), hue, run_size hie, hsz]; simp
  · rw [run_slice_lh w t a len cap hu' kl kh i j (by omega) (by omega) (by omega), hue, run_size hie, hsz]; simp
theorem sliced_addr {a : Option Addr} {b off i j cap s : Nat} (h : i < j) (hj : j ≤ cap) (ha : a = some ⟨b, off, none⟩) : sliced a i j cap s = .slice (some ⟨b, off + i * s, none⟩) (j - i) (cap - i) := by
  have : ¬ cap = i := by omega
  simp [sliced, this, ha, add_none]
theorem Rep.sliced {w : World} {S : Nat → Prop} {a : Option Addr} {len cap es i j : Nat} {xs : List (List AV)} (h : Rep w S (.slice a len cap) (.lst es xs)) (hij : i ≤ j) (hj : j ≤ xs.length) : Rep w S (Go.sliced a i j cap es) (.lst es ((xs.take j).drop i)) := by
  cases h with
  | lst _ _ _ _ b off vs hc ha he hcell hrep =>
    have hlen : ((xs.take j).drop i).length = j - i := by simp; omega
    have hget : ∀ (q : Nat) (x : List AV), ((xs.take j).drop i)[q]? = some x → xs[i + q]? = some x := fun q x hx => by
      rw [List.getElem?_drop, List.getElem?_take] at hx
      split at hx
      · exact hx
      · cases hx
    have := Rep.lst (w := w) (S := S) (if cap = i then a else a.map (·.add (i * es))) (cap - i) es ((xs.take j).drop i) b (off + i * es) (fun q r => vs (i + q) r) (by omega) (fun hne => by
        have hlt : i < j := by
          rcases Nat.lt_or_ge i j with h | h
          · exact h
          · exact absurd (List.eq_nil_of_length_eq_zero (by omega)) hne
        obtain ⟨rfl, hS⟩ := ha (by rintro rfl; simp at hj; omega)
        refine ⟨?_, hS⟩
        rw [if_neg (by omega)]
        simp [add_none]) (fun q x hx => he _ x (hget q x hx)) (fun q x r hx hr => by
        have := hcell (i + q) x r (hget q x hx) hr
        rw [show off + i * es + q * es + r = off + (i + q) * es + r by rw [Nat.add_mul]; omega]
        exact this) (fun q x r y hx hy => hrep (i + q) x r y (hget q x hx) hy)
    rw [hlen] at this
    exact this
theorem run_slice_op {lo hi : Option Operand} {t : Nat} {x : Operand} {a : Act} {w : World} {v : Value} (ho : o.op = .slice t x lo hi none) (h : (Instr.sliceAt t (a.eval x) (lo.map a.eval) (hi.map a.eval) none).run P w = .ok v w) : (execOp a.eval o).run P w = .ok (.value v) w := by
  simp only [execOp, ho]
  simp [h]
theorem ok_slice_lst (ht : TabOk P tab) {t e i j : Nat} {x : Operand} {lo hi : Option Operand} {ti te : TI} {xs : List (List AV)} (ho : o.op = .slice t x lo hi none) (hi' : lkO tab t = some ti) (hd : ti.d = .sl e) (hie : lkO tab e = some te) (hx : evF T x = some (.pv (.lst te.size xs)))
    (hlo : Bd T lo 0 i) (hhi : Bd T hi xs.length j) (hij : i ≤ j) (hj : j ≤ xs.length) : OpOk P o T H ⟨.pv (.lst te.size ((xs.take j).drop i)), [], []⟩ :=
  ok_value fun F S γ a w M => by
    have h := M.eval hx
    obtain ⟨ii, z, hf⟩ := tif (ht _ _ hi')
    have hu := hf.d
    rw [hd] at hu
    have hu := sl_of hu
    obtain ⟨ie, ze, hfe⟩ := tif (ht _ _ hie)
    generalize he : a.eval x = v at h
    cases h with
    | pv h =>
      have hh : ∃ ad cp, v = .slice ad xs.length cp ∧ xs.length ≤ cp := by cases h; exact ⟨_, _, rfl, by assumption⟩
      obtain ⟨ad, cp, rfl, hcp⟩ := hh
      exact ⟨_, run_slice_op ho (by rw [he]; exact run_slices hu hfe.info hfe.size (hlo.eval M) (hhi.eval M) hij (by omega)), .pv (h.sliced hij hj)⟩
theorem ok_slice_rw (ht : TabOk P tab) {t e k m j : Nat} {x : Operand} {lo hi : Option Operand} {ti te : TI} {xs : List (List AV)} {tk : List Nat} (ho : o.op = .slice t x lo hi none) (hi' : lkO tab t = some ti) (hd : ti.d = .sl e) (hie : lkO tab e = some te) (hx : evF T x = some (.rw k m)) (hk : H k = some (.row te.size xs))
    (hlo : Bd T lo 0 0) (hhi : Bd T hi m j) (hj : j ≤ m) : OpOk P o T H ⟨.rw k j, [], tk⟩ :=
  ok_value fun F S γ a w M => by
    have h := M.eval hx
    obtain ⟨ii, z, hf⟩ := tif (ht _ _ hi')
    have hu := hf.d
    rw [hd] at hu
    have hu := sl_of hu
    obtain ⟨ie, ze, hfe⟩ := tif (ht _ _ hie)
    generalize he : a.eval x = v at h
    cases h with
    | drw _ _ _ _ h => rw [hk] at h; cases h
    | rw _ _ es' xs' h hm hc hb =>
      rw [hk] at h
      cases h
      refine ⟨_, run_slice_op ho (by rw [he]; exact run_slices hu hfe.info hfe.size (hlo.eval M) (hhi.eval M) (Nat.zero_le _) (by omega)), ?_⟩
      have := RepL.rw (w := w) (S := S) (γ := γ) (H := H) k j te.size xs hk (by omega) (by omega) (fun h0 => hb (by omega))
      have e1 : sliced ((γ k).blk.map fun b => ⟨b, 0, none⟩) 0 j (γ k).cap te.size = .slice ((γ k).blk.map fun b => ⟨b, 0, none⟩) j (γ k).cap := by
        unfold sliced
        split
        · simp
        · cases (γ k).blk <;> simp [add_none]
      rw [e1]
      exact this
theorem ok_slice_rv (ht : TabOk P tab) {t e k m i j : Nat} {x : Operand} {lo hi : Option Operand} {ti te : TI} {xs : List (List AV)} {tk : List Nat} (ho : o.op = .slice t x lo hi none) (hi' : lkO tab t = some ti) (hd : ti.d = .sl e) (hie : lkO tab e = some te) (hx : evF T x = some (.rw k m)) (hk : H k = some (.row te.size xs))
    (hlo : Bd T lo 0 i) (hhi : Bd T hi m j) (hij : i ≤ j) (hj : j ≤ m) : OpOk P o T H ⟨.rv k i j, [], tk⟩ :=
  ok_value fun F S γ a w M => by
    have h := M.eval hx
    obtain ⟨ii, z, hf⟩ := tif (ht _ _ hi')
    have hu := hf.d
    rw [hd] at hu
    have hu := sl_of hu
    obtain ⟨ie, ze, hfe⟩ := tif (ht _ _ hie)
    generalize he : a.eval x = v at h
    cases h with
    | drw _ _ _ _ h => rw [hk] at h; cases h
    | rw _ _ es' xs' h hm hc hb =>
      rw [hk] at h
      cases h
      refine ⟨_, run_slice_op ho (by rw [he]; exact run_slices hu hfe.info hfe.size (hlo.eval M) (hhi.eval M) hij (by omega)), ?_⟩
      refine RepL.rv (w := w) (S := S) (γ := γ) (H := H) k i j te.size xs _ _ hk hij (by omega) (by omega) (fun h0 => ?_)
      obtain ⟨b, hb⟩ := hb (by omega)
      refine ⟨b, hb, ?_⟩
      rw [if_neg (by omega), hb]
      simp [add_none]
theorem ok_slice_nl (ht : TabOk P tab) {t e : Nat} {x : Operand} {lo hi : Option Operand} {ti te : TI} (ho : o.op = .slice t x lo hi none) (hi' : lkO tab t = some ti) (hd : ti.d = .sl e) (hie : lkO tab e = some te) (hx : evF T x = some .nl)
    (hlo : Bd T lo 0 0) (hhi : Bd T hi 0 0) : OpOk P o T H ⟨.nl, [], []⟩ :=
  ok_value fun F S γ a w M => by
    have h := M.eval hx
    obtain ⟨ii, z, hf⟩ := tif (ht _ _ hi')
    have hu := hf.d
    rw [hd] at hu
    have hu := sl_of hu
    obtain ⟨ie, ze, hfe⟩ := tif (ht _ _ hie)
    generalize he : a.eval x = v at h
    cases h
    refine ⟨_, run_slice_op ho (by rw [he]; exact run_slices hu hfe.info hfe.size (hlo.eval M) (hhi.eval M) (Nat.zero_le _) (Nat.le_refl 0)), ?_⟩
    exact .nl
theorem ok_slice_str (ht : TabOk P tab) {t i j : Nat} {x : Operand} {lo hi : Option Operand} {ti : TI} {s : ByteArray} (ho : o.op = .slice t x lo hi none) (hi' : lkO tab t = some ti) (hd : ti.d = .str) (hx : evF T x = some (.pv (.str s)))
    (hlo : Bd T lo 0 i) (hhi : Bd T hi s.size j) (hij : i ≤ j) (hj : j ≤ s.size) : OpOk P o T H ⟨.pv (.str (s.extract i j)), [], []⟩ :=
  ok_value fun F S γ a w M => by
    obtain ⟨ii, z, hf⟩ := tif (ht _ _ hi')
    have hu := hf.d
    rw [hd] at hu
    have hu := str_of hu
    refine ⟨_, run_slice_op ho ?_, .pv (.str _)⟩
    rw [(M.eval hx).str_inv, run_sliceAt_string w t _ _ _ _ hu]
    have e1 : (j : Int).toNat = j := by simp
    rcases hlo.eval M with ⟨h1, rfl⟩ | ⟨kl, h1⟩ <;> rcases hhi.eval M with ⟨h2, rfl⟩ | ⟨kh, h2⟩ <;> rw [h1, h2] <;>
      simp [Instr.slice, run_und hu, Instr.sliceBounds, Instr.sliceBound, asIntOf, hij, hj]
theorem ok_index_str (ht : TabOk P tab) {t : Nat} {x y : Operand} {ti : TI} {s : ByteArray} {k : IntKind} {n : Int} (ho : o.op = .index t x y) (hi : lkO tab t = some ti) (hd : ti.d = .str) (hx : evF T x = some (.pv (.str s))) (hy : evF T y = some (.pv (.int k n))) (h : 0 ≤ n ∧ n.toNat < s.size) :
    OpOk P o T H ⟨.pv (.int .u8 ((s[n.toNat]'h.2).toNat : Int)), [], []⟩ :=
  ok_value fun F S γ a w M => by
    refine ⟨_, ?_, .pv (.int _ _)⟩
    obtain ⟨ii, z, hf⟩ := tif (ht _ _ hi)
    have hu := hf.d
    rw [hd] at hu
    have hu := str_of hu
    have hg : s[n.toNat]? = some (s[n.toNat]'h.2) := getElem?_pos s n.toNat h.2
    simp [execOp, ho, (M.eval hx).str_inv, (M.eval hy).int_inv, Instr.index, asIntOf, run_und hu, h.1, hg]

/-! make. -/
theorem ModF.bare {F : Fr} {S : Nat → Prop} {γ : Nat → GV} {tm : Array Value} {w : World} (M : ModF F S γ T H tm w) : ModF { F with G0 := fun _ => none } S γ (fun _ => none) (fun _ => none) tm w where
  aft := M.aft
  siz := M.siz
  slots n l h := by cases h
  own := ⟨fun k r _ h => (by cases h), fun k r b _ h => (by cases h), fun k k' r r' b _ _ h => (by cases h)⟩
  blk := by rintro b ⟨k, r, _, h, _⟩; cases h
  g0 k g h := by cases h
theorem get_made (z : Array Value) (n q : Nat) (hq : q < n) (hz : 0 < z.size) : ∃ h : q % z.size < z.size, (madeCells z n)[q]? = some z[q % z.size] := by
  have h := Nat.mod_lt q hz
  refine ⟨h, ?_⟩
  simp [madeCells, hq, getElem!_pos z (q % z.size) h]
theorem ok_makeSlice (ht : TabOk P tab) {d t e : Nat} {x : Operand} {ti te : TI} {k : IntKind} {z : List AV} {ks tk : List Nat} {m : Int} (hdst : o.dst = some d) (ho : o.op = .makeSlice t x x) (hi : lkO tab t = some ti) (hd : ti.d = .sl e) (hie : lkO tab e = some te)
    (hz : toAVsO tab (fun _ => none) te.cells te.zero = some (z, ks)) (hx : evF T x = some (.pv (.int k m))) (h0 : 0 ≤ m) (hm : m ≤ 140737488355328) (hfit : m.toNat * te.bytes ≤ 140737488355328) (hH : H d = none) :
    OpOk P o T H ⟨.rw d m.toNat, [(d, .row te.size (List.replicate m.toNat z))], tk⟩ :=
  ok_new hdst hH fun F S γ a w M => by
    obtain ⟨i, zz, hti⟩ := tif (ht _ _ hi)
    obtain ⟨ie, ze, hte⟩ := tif (ht _ _ hie)
    have hu := hti.d
    rw [hd] at hu
    have hu := sl_of hu
    have hb : (ie.bytes : Int) * m ≤ 281474976710656 := by
      have h1 : (ie.bytes : Int) * m = ((m.toNat * te.bytes : Nat) : Int) := by
        rw [hte.bytes, Int.natCast_mul, Int.toNat_of_nonneg h0, Int.mul_comm]
      omega
    have hrun := run_make (P := P) w t e ie ze hu hte.info hte.zero k k m m h0 (Int.le_refl _) hb (by omega)
    obtain ⟨g1, _, g3⟩ := toAVs_rep (w := w) M.bare (LRep.of_zs (w := w) (S := S) (γ := γ) (H := fun _ => none) hte.zs) hz
    have hzs : ze.cells.size = te.size := by have := (zsOk_get _ _ hte.zs).1; have := hte.zl; simp at *; omega
    rw [hte.size] at hrun
    have hpush : (w.alloc (.cells (madeCells ze.cells (m.toNat * te.size)) e)).heap = w.heap.push (.cells (madeCells ze.cells (m.toNat * te.size)) e) := rfl
    have hks : ks = [] := by
      have hall : ∀ k ∈ ks, False := fun k hk => by
        obtain ⟨_, h2, _⟩ := toAVs_rep (w := w) M.bare (LRep.of_zs (w := w) (S := S) (γ := γ) (H := fun _ => none) hte.zs) hz
        obtain ⟨r, hr, _⟩ := h2 k hk
        cases hr
      cases ks with
      | nil => rfl
      | cons k ks => exact (hall k (by simp)).elim
    refine ⟨.slice (some ⟨w.heap.size, 0, none⟩) m.toNat m.toNat, w.alloc (.cells (madeCells ze.cells (m.toNat * te.size)) e), .cells (madeCells ze.cells (m.toNat * te.size)) e, m.toNat, by simp only [execOp, ho]; simp only [(M.eval hx).int_inv]; simp [hrun], hpush, rfl, rfl, ⟨rfl, Nat.le_refl _⟩, ⟨fun q x hx => ?_, .inr ⟨w.heap.size, _, e, by simp [updG], heap_alloc_new w _, by simp [updG, size_madeCells], by simp [updG], fun q x j y hx hy => ?_⟩⟩, ?_⟩
    · have := (List.getElem?_replicate ▸ hx : (if q < m.toNat then some z else none) = some x)
      split at this
      · cases this; rw [g1]; exact hte.zl
      · cases this
    · have hq := (List.getElem?_replicate ▸ hx : (if q < m.toNat then some z else none) = some x)
      split at hq
      · rename_i hlt
        cases hq
        obtain ⟨u, hu1, hu2, hu3⟩ := g3 [] (by rw [hks]; simp) j y hy
        have hj : j < te.size := by have := (List.getElem?_eq_some_iff.1 hy).1; have := hte.zl; omega
        have hlt2 : q * te.size + j < m.toNat * te.size := by
          have : (q + 1) * te.size ≤ m.toNat * te.size := Nat.mul_le_mul_right _ hlt
          rw [Nat.succ_mul] at this
          omega
        obtain ⟨hmod, hget⟩ := get_made ze.cells (m.toNat * te.size) (q * te.size + j) hlt2 (by omega)
        have hjj : (q * te.size + j) % ze.cells.size = j := by rw [hzs, Nat.mul_comm, Nat.mul_add_mod, Nat.mod_eq_of_lt hj]
        refine ⟨u, ?_, hu2, hu3.mono (fun b hb => hb.elim id fun ⟨k, hk, _⟩ => by cases hk) (fun b hb => heap_alloc_old w _ _ (M.stay b (hb.elim id fun ⟨k, hk, _⟩ => by cases hk)))⟩
        rw [hget]
        simp only [hjj]
        rw [Array.getElem?_toList] at hu1
        rw [← hu1, Array.getElem?_eq_getElem]
      · cases hq
    · exact rw_new (by simp) (Nat.le_refl _)
end
end Go.Proofs.Ytcpgcenlgihmnaa.Abs
/- A call. -/
set_option linter.unusedVariables false
set_option linter.unusedSimpArgs false
namespace Go.Proofs.Ytcpgcenlgihmnaa.Abs
open Go

section
variable {P : Program} {o : Oper} {T : Nat → Option LV} {H : Nat → Option Res} {tab : Tab}

theorem pvs_get : ∀ {cs : List LV}, pvs cs = true → ∀ (i : Nat) (c : LV), cs[i]? = some c → (∃ a, c = .pv a) ∨ c = .nl
  | [], _, i, c, h => by simp at h
  | x :: l, hp, i, c, h => by
    have : ((∃ a, x = .pv a) ∨ x = .nl) ∧ pvs l = true := by
      cases x <;> simp [pvs] at hp <;> simp [hp]
    cases i with
    | zero => cases h; exact this.1
    | succ i => exact pvs_get this.2 i c h
theorem RepL.re {w : World} {S : Nat → Prop} {γ : Nat → GV} {H' : Nat → Option Res} {v : Value} {l : LV} (h : RepL w S γ H v l) (hk : kin H' l) (hs : ∀ k r, H' k = some r → H k = some r) : RepL w S γ H' v l := by
  have pn : ∀ {v : Value} {c : LV}, ((∃ a, c = .pv a) ∨ c = .nl) → RepL w S γ H v c → RepL w S γ H' v c := by
    rintro v c (⟨a, rfl⟩ | rfl) h
    · cases h with | pv h => exact .pv h
    · cases h; exact .nl
  cases h with
  | pv h => exact .pv h
  | nl => exact .nl
  | bx k o b cs h hb => obtain ⟨r, hr⟩ := hk; have := hs k r hr; rw [h] at this; cases this; exact .bx k o b cs hr hb
  | rw k m es xs h hm hc hb => obtain ⟨r, hr⟩ := hk; have := hs k r hr; rw [h] at this; cases this; exact .rw k m es xs hr hm hc hb
  | rv k lo m es xs a c h hl hm hc ha => obtain ⟨r, hr⟩ := hk; have := hs k r hr; rw [h] at this; cases this; exact .rv k lo m es xs a c hr hl hm hc ha
  | er k i o es b xs h hb => obtain ⟨r, hr⟩ := hk; have := hs k r hr; rw [h] at this; cases this; exact .er k i o es b xs hr hb
  | ep c o b off vs h1 h2 h3 => exact .ep c o b off vs h1 h2 h3
  | ag arr cs hn h1 h => exact .ag arr cs hn h1 (fun i v c hv hc => pn (pvs_get hk i c hc) (h i v c hv hc))
  | tu => exact hk.elim
  | fn f arr cs hn h => exact .fn f arr cs hn (fun i v c hv hc => pn (pvs_get hk i c hc) (h i v c hv hc))
  | mr k b m h hb => obtain ⟨r, hr⟩ := hk; have := hs k r hr; rw [h] at this; cases this; exact .mr k b m hr hb
  | it k b m cur h hb => obtain ⟨r, hr⟩ := hk; have := hs k r hr; rw [h] at this; cases this; exact .it k b m cur hr hb
  | mo k b es m h hb => obtain ⟨r, hr⟩ := hk; have := hs k r hr; rw [h] at this; cases this; exact .mo k b es m hr hb
  | drw k m a c h hc ha => obtain ⟨r, hr⟩ := hk; have := hs k r hr; rw [h] at this; cases this; exact .drw k m a c hr hc ha
  | drv k lo m a c h hl hc ha => obtain ⟨r, hr⟩ := hk; have := hs k r hr; rw [h] at this; cases this; exact .drv k lo m a c hr hl hc ha
  | der k i o b p h => obtain ⟨r, hr⟩ := hk; have := hs k r hr; rw [h] at this; cases this; exact .der k i o b p hr
  | dbx k o b p h => obtain ⟨r, hr⟩ := hk; have := hs k r hr; rw [h] at this; cases this; exact .dbx k o b p hr
  | dmr k r h => obtain ⟨r, hr⟩ := hk; have := hs k r hr; rw [h] at this; cases this; exact .dmr k _ hr
  | dit k b h => obtain ⟨r, hr⟩ := hk; have := hs k r hr; rw [h] at this; cases this; exact .dit k b hr
  | un v => exact .un v
  | sk => exact .sk

theorem updH_ps : ∀ (ps : HS) (H : Nat → Option Res), (ps.map (·.1)).Nodup → ∀ k, updH ps H k = match lkO ps k with | some r => some r | none => H k
  | [], H, _, k => rfl
  | (j, r) :: ps, H, hn, k => by
    simp only [List.map_cons, List.nodup_cons] at hn
    rw [updH, updH_ps ps _ hn.2 k]
    simp only [lkO]
    cases hb : Nat.beq j k with
    | true =>
      obtain rfl := beq_t hb
      have : lkO ps j = none := by
        cases h : lkO ps j with
        | none => rfl
        | some x =>
          have mem : ∀ (l : HS) (x : Res), lkO l j = some x → j ∈ l.map (·.1) := by
            intro l
            induction l with
            | nil => intro x h; simp [lkO] at h
            | cons y l ih =>
              intro x h
              simp only [lkO] at h
              cases hc : Nat.beq y.1 j with
              | true => simp [beq_t hc]
              | false => simp only [hc, Bool.false_eq_true, if_false] at h; simp [ih x h]
          exact (hn.1 (mem ps x h)).elim
      simp [this]
    | false =>
      cases lkO ps k <;> simp [beq_f hb]

theorem ModF.call {F : Fr} {S : Nat → Prop} {γ : Nat → GV} {tm : Array Value} {w : World} (M : ModF F S γ T H tm w) {ph ps : HS} (h1 : ∀ k x, lkO ph k = some x → H k = some x) (h2 : ∀ k x, lkO ph k = some x → ∃ y, lkO ps k = some y ∧ Like x y) (h3 : ∀ k y, lkO ps k = some y → lkO ph k = none → H k = none) (h4 : (ps.map (·.1)).Nodup)
    {w' : World} {S' : Nat → Prop} {γ' : Nat → GV} (ha : After w S (Blk γ (lkO ph) (fun _ => True)) w' S') (ho : Owns w' S' γ' (lkO ps) (fun _ => True)) (hb : ∀ b, Blk γ' (lkO ps) (fun _ => True) b → Blk γ (lkO ph) (fun _ => True) b ∨ w.heap.size ≤ b)
    (hg : ∀ k r r', lkO ph k = some r → lkO ps k = some r' → r' ≠ .dead → (γ' k).Same (γ k)) : ∃ γ'', Keeps γ' γ'' (lkO ps) (updH ps H) ∧ ModF F S' γ'' T (updH ps H) tm w' := by
  let γ2 : Nat → GV := fun k => match lkO ps k with | some _ => γ' k | none => γ k
  have e := updH_ps ps H h4
  have inp : ∀ {k r}, lkO ps k = some r → updH ps H k = some r ∧ γ2 k = γ' k := fun {k r} h => by rw [e]; simp [h, γ2]
  have out : ∀ {k}, lkO ps k = none → updH ps H k = H k ∧ γ2 k = γ k ∧ lkO ph k = none := fun {k} h => by
    refine ⟨by rw [e]; simp [h], by simp [γ2, h], ?_⟩
    cases hp : lkO ph k with
    | none => rfl
    | some x => obtain ⟨y, hy, _⟩ := h2 k x hp; rw [h] at hy; cases hy
  have kp : Keeps γ' γ2 (lkO ps) (updH ps H) := ⟨fun k r h => ⟨r, (inp h).1, Like.refl r, fun _ => .of_eq (inp h).2⟩⟩
  have kp2 : Keeps γ γ2 H (updH ps H) := ⟨fun k r h => by
    cases hp : lkO ps k with
    | none => obtain ⟨o1, o2, o3⟩ := out hp; exact ⟨r, by rw [o1, h], Like.refl r, fun _ => .of_eq o2⟩
    | some y =>
      obtain ⟨i1, i2⟩ := inp hp
      cases hph : lkO ph k with
      | none => have := h3 k y hp hph; rw [h] at this; cases this
      | some x =>
        have := h1 k x hph
        rw [h] at this
        cases this
        obtain ⟨y', hy', hl⟩ := h2 k r hph
        rw [hp] at hy'
        cases hy'
        exact ⟨y, i1, hl, fun hn => by rw [i2]; exact hg k r y hph hp hn⟩⟩
  have blkE : ∀ b, Blk γ (lkO ph) (fun _ => True) b → (F.E0 b ∨ F.W0.heap.size ≤ b) ∧ ¬ S b := by
    rintro b ⟨k, r, _, hk, hn, hb⟩
    exact ⟨M.ownH (h1 k r hk) hn hb, M.noH (h1 k r hk) hn hb⟩
  -- a resource of the caller's own is none of those passed
  have sep : ∀ {k r b}, lkO ps k = none → H k = some r → r ≠ .dead → (γ k).has b → ¬ Blk γ (lkO ph) (fun _ => True) b := by
    rintro k r b hp hk hn hb ⟨k2, r2, _, hk2, hn2, hb2⟩
    obtain ⟨_, _, o3⟩ := out hp
    exact M.own.apart k k2 r r2 b trivial trivial hk (h1 k2 r2 hk2) hn hn2 (by rintro rfl; rw [o3] at hk2; cases hk2) hb hb2
  have notS : ∀ {k r b}, lkO ps k = none → H k = some r → r ≠ .dead → (γ k).has b → ¬ S' b := by
    intro k r b hp hk hn hb hs
    obtain ⟨_, h⟩ := ha.sup b hs
    rcases h with h | h | h
    · exact M.noH hk hn hb h
    · exact sep hp hk hn hb h
    · have := M.ltH hk hn hb; omega
  refine ⟨γ2, kp, M.step ha blkE kp2 ⟨fun k r _ h => ?_, fun k r b _ h hn hb' => ?_, fun k k' r r' b _ _ h h' hn hn' hne hb1 hb2 => ?_⟩ ?_⟩
  · cases hp : lkO ps k with
    | none =>
      obtain ⟨o1, o2, o3⟩ := out hp
      rw [o1] at h
      exact (M.own.rep k r trivial h).mono ha.sub (fun b hb => ha.kept b (M.stay b hb) fun he => (blkE b he).2 hb) kp2 o2 (fun b hn hb => ha.kept b (M.ltH h hn hb) (sep hp h hn hb))
    | some y =>
      obtain ⟨i1, i2⟩ := inp hp
      rw [i1] at h
      cases h
      exact (ho.rep k r trivial hp).mono (fun _ h => h) (fun _ _ => rfl) kp i2 (fun _ _ _ => rfl)
  · cases hp : lkO ps k with
    | none =>
      obtain ⟨o1, o2, o3⟩ := out hp
      rw [o1] at h
      rw [o2] at hb'
      exact ⟨by have := M.ltH h hn hb'; have := ha.size; omega, notS hp h hn hb'⟩
    | some y =>
      obtain ⟨i1, i2⟩ := inp hp
      rw [i1] at h
      cases h
      rw [i2] at hb'
      exact ho.out k r b trivial hp hn hb'
  · have mix : ∀ {k k' r b}, lkO ps k = none → H k = some r → r ≠ .dead → (γ k).has b → ∀ y, lkO ps k' = some y → y ≠ .dead → ¬ (γ' k').has b := by
      intro k k' r b hp hk hn hb0 y hy hyn hb'
      rcases hb b ⟨k', y, trivial, hy, hyn, hb'⟩ with h | h
      · exact sep hp hk hn hb0 h
      · have := M.ltH hk hn hb0; omega
    cases hp : lkO ps k with
    | none =>
      obtain ⟨o1, o2, o3⟩ := out hp
      rw [o1] at h
      rw [o2] at hb1
      cases hp' : lkO ps k' with
      | none =>
        obtain ⟨p1, p2, p3⟩ := out hp'
        rw [p1] at h'
        rw [p2] at hb2
        exact M.own.apart k k' r r' b trivial trivial h h' hn hn' hne hb1 hb2
      | some y =>
        obtain ⟨i1, i2⟩ := inp hp'
        rw [i1] at h'
        cases h'
        rw [i2] at hb2
        exact mix hp h hn hb1 r' hp' hn' hb2
    | some y =>
      obtain ⟨i1, i2⟩ := inp hp
      rw [i1] at h
      cases h
      rw [i2] at hb1
      cases hp' : lkO ps k' with
      | none =>
        obtain ⟨p1, p2, p3⟩ := out hp'
        rw [p1] at h'
        rw [p2] at hb2
        exact mix hp' h' hn' hb2 r hp hn hb1
      | some y' =>
        obtain ⟨j1, j2⟩ := inp hp'
        rw [j1] at h'
        cases h'
        rw [j2] at hb2
        exact ho.apart k k' r r' b trivial trivial hp hp' hn hn' hne hb1 hb2
  · rintro b ⟨k, r, _, h, hn, hb'⟩
    cases hp : lkO ps k with
    | none =>
      obtain ⟨o1, o2, o3⟩ := out hp
      rw [o1] at h
      rw [o2] at hb'
      exact M.ownH h hn hb'
    | some y =>
      obtain ⟨i1, i2⟩ := inp hp
      rw [i1] at h
      cases h
      rw [i2] at hb'
      rcases hb b ⟨k, r, trivial, hp, hn, hb'⟩ with h | h
      · exact (blkE b h).1
      · exact .inr (Nat.le_trans M.aft.size h)

/-- Which function, with which arguments ahead. -/
def IsFn (l : LV) (g : Nat) (ls : List LV) : Prop := l = .fn g ls ∨ (l = .pv (.fn g) ∧ ls = [])
theorem isFn_iff (l : LV) (K : Nat → List LV → Prop) : isFn l K ↔ ∃ g ls, IsFn l g ls ∧ K g ls := by
  unfold isFn IsFn
  split
  · rename_i f l
    constructor
    · intro h; exact ⟨f, l, .inl rfl, h⟩
    · rintro ⟨g, ls, h | h, hk⟩
      · cases h; exact hk
      · cases h.1
  · rename_i f
    constructor
    · intro h; exact ⟨f, [], .inr ⟨rfl, rfl⟩, h⟩
    · rintro ⟨g, ls, h | ⟨h, rfl⟩, hk⟩
      · cases h
      · cases h; exact hk
  · rename_i h1 h2
    constructor
    · exact fun h => h.elim
    · rintro ⟨g, ls, h | ⟨h, rfl⟩, hk⟩
      · exact h1 _ _ h
      · exact h2 _ h
theorem ok_call {c : Call} {f : Operand} {g : Nat} {l : LV} {ls xs : List LV} {ph ps : HS} {r : LV} {tk : List Nat} (ho : o.op = .call c) (hc : c.callee = .value f) (hf : evF T f = some l) (hl : IsFn l g ls) (hargs : evsF T c.args.toList = some xs) (hct : CallsTo P g (ls ++ xs) ph r ps)
    (h0 : ∀ l ∈ ls ++ xs, kin (lkO ph) l) (h0' : ∀ k cs, lkO ph k = some (.box cs) → ∀ c ∈ cs, kin (lkO ph) c) (h1 : ∀ k x, lkO ph k = some x → H k = some x) (h2 : ∀ k x, lkO ph k = some x → ∃ y, lkO ps k = some y ∧ Like x y) (h3 : ∀ k y, lkO ps k = some y → lkO ph k = none → H k = none) (h4 : (ps.map (·.1)).Nodup) : OpOk P o T H ⟨r, ps, tk⟩ := by
  intro F S γ a w next Q hd M hn
  obtain ⟨⟨fn, f1, f2, f3⟩, hct⟩ := hct
  -- the function's value
  have hfv : ∃ arr : Array Value, a.eval f = .func (.func g) arr #[] ∧ arr.size = ls.length ∧ ∀ (i : Nat) (v : Value) (c : LV), arr[i]? = some v → ls[i]? = some c → RepL w S γ H v c := by
    have h := M.eval hf
    generalize he : a.eval f = v at h
    rcases hl with rfl | ⟨rfl, rfl⟩
    · cases h with | fn _ arr _ hn h => exact ⟨arr, rfl, hn, h⟩
    · cases h with | pv h => cases h; exact ⟨#[], rfl, rfl, by simp⟩
  obtain ⟨arr, g1, g2, g3⟩ := hfv
  obtain ⟨a1, a2⟩ := M.evals hargs
  let vs : Array Value := arr ++ c.args.map a.eval
  have hrun : (execOp a.eval o).run P w = .ok (.enter g vs) w := by
    simp [execOp, ho, resolve, hc, g1, Deferred.ofValue, invoke, callFunc, f1, vs]
    simp at f2
    simp [f2]
    cases hb : fn.body with
    | none => simp [hb] at f3
    | some b => simp [vs]
  have hsz : vs.size = (ls ++ xs).length := by
    have e1 : (c.args.map a.eval).size = xs.length := by simpa using a1
    rw [Array.size_append, List.length_append, e1, g2]
  have hrep : ∀ (i : Nat) (v : Value) (l : LV), vs[i]? = some v → (ls ++ xs)[i]? = some l → RepL w S γ (lkO ph) v l := fun i v l hv hl => by
    refine RepL.re (H := H) ?_ (h0 l (List.mem_of_getElem? hl)) h1
    by_cases hi : i < ls.length
    · rw [Array.getElem?_append_left (by omega)] at hv
      rw [List.getElem?_append_left hi] at hl
      exact g3 i v l hv hl
    · rw [Array.getElem?_append_right (by omega), g2] at hv
      rw [List.getElem?_append_right (by omega)] at hl
      exact a2 _ v l (by simpa using hv) hl
  have hown : Owns w S γ (lkO ph) (fun _ => True) := ⟨fun k r _ h => ?_, fun k r b _ h hn hb => M.own.out k r b trivial (h1 k r h) hn hb, fun k k' r r' b _ _ h h' => M.own.apart k k' r r' b trivial trivial (h1 k r h) (h1 k' r' h')⟩
  · have hcalls := hct w S γ vs M.stay hown hsz hrep
    simp only [Oper.wp, hrun, Oper.upon]
    intro cs
    obtain ⟨e, w', fr, ⟨v, S', γ', rfl, b1, b2, b3, b4, b5⟩, hcomes, hfr, hleave⟩ := hcalls cs
    refine ⟨_, w', fr, ?_, hcomes, hfr, hleave⟩
    obtain ⟨γ2, kp, M'⟩ := M.call h1 h2 h3 h4 b1 b2 b3 b4
    exact hn S' γ2 _ _ (by cases o.dst <;> rfl) (M'.put o.dst hd (b5.mono (fun _ h => h) (fun _ _ => rfl) kp))
  · have h' := M.own.rep k r trivial (h1 k r h)
    cases r with
    | box cs =>
      obtain ⟨b, arr, ty, e1, e2, e3, e4⟩ := h'
      exact ⟨b, arr, ty, e1, e2, e3, fun i v c hv hc => ⟨(e4 i v c hv hc).1, (e4 i v c hv hc).2.re (h0' k cs h c (List.mem_of_getElem? hc)) h1⟩⟩
    | _ => exact h'
end
end Go.Proofs.Ytcpgcenlgihmnaa.Abs
/- Maps: their keys, what an operation on them does. -/
set_option linter.unusedVariables false
set_option linter.unusedSimpArgs false
namespace Go.Proofs.Ytcpgcenlgihmnaa.Abs
open Go

section
variable {P : Program} {w : World}

theorem CR.kv {S : Nat → Prop} {v : Value} {sg : List KD} {cs : List AV} (h : CR (Rep w S) v cs) (hf : kfit sg cs = true) : v = kval cs := by
  obtain ⟨f, h1, h2⟩ := h
  have flat : ∀ (sg : List KD) (cs : List AV), kfit sg cs = true → ∀ (u : Value) (c : AV), c ∈ cs → Rep w S u c → u = valOf c := fun sg cs => by
    induction cs generalizing sg with
    | nil => intro _ u c hc; cases hc
    | cons x cs ih =>
      intro hf u c hc hr
      cases sg with
      | nil => simp [kfit] at hf
      | cons d sg =>
        have hx : kfit sg cs = true ∧ ∀ u, Rep w S u x → u = valOf x := by
          cases x <;> cases d <;> simp only [kfit, Bool.and_eq_true] at hf
          all_goals first
            | (refine ⟨hf.2, fun u hr => ?_⟩; cases hr; rfl)
            | (refine ⟨hf, fun u hr => ?_⟩; cases hr; rfl)
            | cases hf
        rcases List.mem_cons.1 hc with rfl | hc
        · exact hx.2 u hr
        · exact ih sg hx.1 u c hc hr
  rcases h1 with ⟨h1, rfl⟩ | ⟨h1, rfl⟩
  · match cs, h1 with
    | [c], _ => exact flat sg [c] hf _ c (by simp) (h2 0 c rfl)
  · have e : kval cs = .agg (cs.map valOf).toArray := by
      match cs, h1 with
      | [], _ => rfl
      | _ :: _ :: _, _ => rfl
    rw [e]
    congr 1
    apply Array.toList_inj.1
    apply List.ext_getElem (by simp)
    intro i g1 g2
    simp only [List.getElem_map, List.getElem_range]
    have hi : i < cs.length := by simpa using g2
    exact flat sg cs hf _ cs[i] (List.getElem_mem hi) (h2 i _ (by simp [hi]))

theorem kval_bits (sg : List KD) : ∀ {cs : List AV}, kfit sg cs = true → ∀ n, 2 ≤ n → Instr.sameBits n (kval cs) (kval cs) = true := by
  have flat : ∀ (sg : List KD) (cs : List AV), kfit sg cs = true → ∀ c ∈ cs, ∀ n, Instr.sameBits n (valOf c) (valOf c) = true := fun sg cs => by
    induction cs generalizing sg with
    | nil => intro _ c hc; cases hc
    | cons x cs ih =>
      intro hf c hc n
      cases sg with
      | nil => simp [kfit] at hf
      | cons d sg =>
        have hx : kfit sg cs = true ∧ ∀ n, Instr.sameBits n (valOf x) (valOf x) = true := by
          cases x <;> cases d <;> simp only [kfit, Bool.and_eq_true] at hf
          all_goals first
            | (refine ⟨hf.2, fun n => ?_⟩; cases n <;> simp [valOf, Instr.sameBits]; done)
            | (refine ⟨hf, fun n => ?_⟩; cases n <;> simp [valOf, Instr.sameBits, MapKept.bytes_beq]; done)
            | cases hf
        rcases List.mem_cons.1 hc with rfl | hc
        · exact hx.2 n
        · exact ih sg hx.1 c hc n
  intro cs hf n hn
  obtain ⟨n, rfl⟩ : ∃ m, n = m + 1 := ⟨n - 1, by omega⟩
  match cs with
  | [c] => exact flat sg [c] hf c (by simp) _
  | [] => simp [kval, Instr.sameBits]
  | a :: b :: cs =>
    have := flat sg (a :: b :: cs) hf
    simp only [kval, Instr.sameBits, Bool.and_eq_true, beq_self_eq_true, true_and, List.all_eq_true]
    rintro ⟨x, y⟩ hxy
    have hz : x = y ∧ x ∈ (a :: b :: cs).map valOf := by
      have : ∀ (l : List Value) (p : Value × Value), p ∈ l.zip l → p.1 = p.2 ∧ p.1 ∈ l := fun l => by
        induction l with
        | nil => simp
        | cons z l ih =>
          intro p hp
          simp only [List.zip_cons_cons, List.mem_cons] at hp
          rcases hp with rfl | hp
          · simp
          · have := ih p hp; exact ⟨this.1, by simp [this.2]⟩
      have hxy' : (x, y) ∈ ((a :: b :: cs).map valOf).zip ((a :: b :: cs).map valOf) := hxy
      exact this _ _ hxy'
    obtain ⟨rfl, hx⟩ := hz
    obtain ⟨c, hc, rfl⟩ := List.mem_map.1 hx
    exact this c hc n
theorem kval_keep {sg : List KD} {cs : List AV} (hf : kfit sg cs = true) : (Instr.keyThatStays (kval cs) (kval cs)).run P w = .ok (kval cs) w := by
  simp [Instr.keyThatStays, kval_bits sg hf]

/-- What is found among a map's entries. -/
def FindR (es : List MapEntry) (xs : List (List AV × List AV)) (kc : List AV) (i0 : Nat) (r : Option (Nat × Value)) : Prop :=
  (r = none ∧ ∀ x ∈ xs, x.1 ≠ kc) ∨ ∃ i e x, r = some (i0 + i, e.val) ∧ es[i]? = some e ∧ xs[i]? = some x ∧ x.1 = kc
theorem FindR.cons {e : MapEntry} {es : List MapEntry} {x : List AV × List AV} {xs : List (List AV × List AV)} {kc : List AV} {i0 : Nat} {r : Option (Nat × Value)} (hx : x.1 ≠ kc) (h : FindR es xs kc (i0 + 1) r) : FindR (e :: es) (x :: xs) kc i0 r := by
  rcases h with ⟨h1, h2⟩ | ⟨i, e', x', h1, h2, h3, h4⟩
  · exact .inl ⟨h1, fun y hy => (List.mem_cons.1 hy).elim (fun e => e ▸ hx) (h2 y)⟩
  · exact .inr ⟨i + 1, e', x', by rw [h1]; simp; omega, by simpa using h2, by simpa using h3, h4⟩
theorem run_findAsking {kt : Nat} {sg : List KD} (hk : KeyOk P kt sg) {kc : List AV} (hf : kfit sg kc = true) : ∀ (es : List MapEntry) (xs : List (List AV × List AV)) (i0 : Nat), es.length = xs.length →
    (∀ (i : Nat) (e : MapEntry) (x : List AV × List AV), es[i]? = some e → xs[i]? = some x → e.key = kval x.1 ∧ kfit sg x.1 = true) → ∃ r, (Instr.findAsking kt (kval kc) es i0).run P w = .ok r w ∧ FindR es xs kc i0 r
  | [], [], i0, _, _ => ⟨none, by simp [Instr.findAsking], .inl ⟨rfl, by simp⟩⟩
  | [], _ :: _, _, h, _ => by simp at h
  | _ :: _, [], _, h, _ => by simp at h
  | e :: es, x :: xs, i0, hl, ha => by
    obtain ⟨h1, h2⟩ := ha 0 e x rfl rfl
    obtain ⟨r, h3, h4⟩ := hk.eq w kc x.1 hf h2
    cases r with
    | true =>
      exact ⟨some (i0, e.val), by simp [Instr.findAsking, h1, h3], .inr ⟨0, e, x, rfl, rfl, rfl, (h4.1 rfl).symm⟩⟩
    | false =>
      obtain ⟨r, h5, h6⟩ := run_findAsking hk hf es xs (i0 + 1) (by simpa using hl) (fun i e x he hx => ha (i + 1) e x (by simpa using he) (by simpa using hx))
      exact ⟨r, by simp [Instr.findAsking, h1, h3, h5], .cons (fun e => by have := h4.2 e.symm; cases this) h6⟩
theorem findNow_some {d : TypeDesc} {sg : List KD} (hd : ∀ a b, kfit sg a = true → kfit sg b = true → Instr.sameNow d (kval a) (kval b) = none ∨ ∃ r, Instr.sameNow d (kval a) (kval b) = some r ∧ (r = true ↔ a = b)) {kc : List AV} (hf : kfit sg kc = true) : ∀ (es : List MapEntry) (xs : List (List AV × List AV)) (i0 : Nat), es.length = xs.length →
    (∀ (i : Nat) (e : MapEntry) (x : List AV × List AV), es[i]? = some e → xs[i]? = some x → e.key = kval x.1 ∧ kfit sg x.1 = true) → ∀ r, Instr.findNow d (kval kc) es i0 = some r → FindR es xs kc i0 r
  | [], [], i0, _, _, r, h => by simp [Instr.findNow] at h; exact .inl ⟨h.symm, by simp⟩
  | [], _ :: _, _, h, _, _, _ => by simp at h
  | _ :: _, [], _, h, _, _, _ => by simp at h
  | e :: es, x :: xs, i0, hl, ha, r, h => by
    obtain ⟨h1, h2⟩ := ha 0 e x rfl rfl
    simp only [Instr.findNow, h1] at h
    rcases hd kc x.1 hf h2 with h3 | ⟨b, h3, h4⟩
    · rw [h3] at h; simp at h
    · rw [h3] at h
      cases b with
      | true => simp at h; exact .inr ⟨0, e, x, h.symm, rfl, rfl, (h4.1 rfl).symm⟩
      | false =>
        simp at h
        exact .cons (fun e => by have := h4.2 e.symm; cases this) (findNow_some hd hf es xs (i0 + 1) (by simpa using hl) (fun i e x he hx => ha (i + 1) e x (by simpa using he) (by simpa using hx)) r h)
theorem run_findKey {kt : Nat} {sg : List KD} (hk : KeyOk P kt sg) {kc : List AV} (hf : kfit sg kc = true) (es : List MapEntry) (xs : List (List AV × List AV)) (hl : es.length = xs.length)
    (ha : ∀ (i : Nat) (e : MapEntry) (x : List AV × List AV), es[i]? = some e → xs[i]? = some x → e.key = kval x.1 ∧ kfit sg x.1 = true) : ∃ r, (Instr.findKey kt (kval kc) es).run P w = .ok r w ∧ FindR es xs kc 0 r := by
  obtain ⟨d, hd, hn⟩ := hk.und
  cases h : Instr.findNow d (kval kc) es 0 with
  | some r => exact ⟨r, by simp [Instr.findKey, run_und hd, h], findNow_some hn hf es xs 0 hl ha r h⟩
  | none =>
    obtain ⟨r, h1, h2⟩ := run_findAsking (w := w) hk hf es xs 0 hl ha
    exact ⟨r, by simp [Instr.findKey, run_und hd, h, h1], h2⟩

/-- A map's entries, by their keys. -/
theorem ents {S : Nat → Prop} {sg : List KD} {m m0 : List (List AV × List AV)} {es : Array MapEntry} (hp : List.Perm m0 m) (hall : ∀ x ∈ m, kfit sg x.1 = true) (hk : ∀ (i : Nat) (e : MapEntry) (x : List AV × List AV), es[i]? = some e → m0[i]? = some x → EntR (Rep w S) e x) :
    ∀ (i : Nat) (e : MapEntry) (x : List AV × List AV), es.toList[i]? = some e → m0[i]? = some x → e.key = kval x.1 ∧ kfit sg x.1 = true := fun i e x he hx => by
  have hf := hall x (hp.mem_iff.1 (List.mem_of_getElem? hx))
  exact ⟨(hk i e x (by simpa using he) hx).1.kv hf, hf⟩
end

/-! What a map is, what a key is. -/
def mapO (H : Nat → Option Res) : LV → Option (List (List AV × List AV) × List Nat)
  | .pv (.mp m) => some (m, [])
  | .mr k => match H k with | some (.mp m) => some (m, [k]) | _ => none
  | _ => none
theorem mapL_iff (x : LV) (h : HS) (K : List (List AV × List AV) → List Nat → Prop) : mapL x h K ↔ ∃ m ks, mapO (lkO h) x = some (m, ks) ∧ K m ks := by
  cases x with
  | pv a =>
    cases a with
    | mp m => exact ⟨fun h => ⟨_, _, rfl, h⟩, fun ⟨_, _, e, h⟩ => by cases e; exact h⟩
    | _ => simp [mapL, mapO]
  | mr k =>
    simp only [mapL, mapO, lk_iff]
    constructor
    · rintro ⟨r, h1, h2⟩
      rw [h1]
      cases r with
      | mp m => exact ⟨_, _, rfl, h2⟩
      | _ => exact h2.elim
    · rintro ⟨m, ks, h1, h2⟩
      split at h1
      · rename_i m' hk; cases h1; exact ⟨_, hk, h2⟩
      · cases h1
  | _ => simp [mapL, mapO]
def kvO : LV → Option (List LV)
  | .ag [_] => none
  | .ag cs => some cs
  | .tu _ => none
  | .un => none
  | .sk => none
  | x => some [x]
theorem kvL_iff (x : LV) (K : List LV → Prop) : kvL x K ↔ ∃ cs, kvO x = some cs ∧ K cs := by
  cases x with
  | ag cs =>
    match cs with
    | [] => exact ⟨fun h => ⟨_, rfl, h⟩, fun ⟨_, e, h⟩ => by cases e; exact h⟩
    | [c] => simp [kvL, kvO]
    | a :: b :: cs => exact ⟨fun h => ⟨_, rfl, h⟩, fun ⟨_, e, h⟩ => by cases e; exact h⟩
  | tu | un | sk => simp [kvL, kvO]
  | _ => exact ⟨fun h => ⟨_, rfl, h⟩, fun ⟨_, e, h⟩ => by cases e; exact h⟩
theorem kvO_cells {x : LV} {cs : List LV} (h : kvO x = some cs) : cellsO x = some cs ∧ ((cs.length = 1 ∧ (∀ l, x ≠ .ag l)) ∨ (cs.length ≠ 1 ∧ x = .ag cs)) := by
  cases x with
  | ag l =>
    match l, h with
    | [], h => cases h; exact ⟨rfl, .inr ⟨by simp, rfl⟩⟩
    | a :: b :: l, h => cases h; exact ⟨rfl, .inr ⟨by simp, rfl⟩⟩
  | tu | un | sk => cases h
  | _ => cases h; exact ⟨rfl, .inl ⟨rfl, by simp⟩⟩

section
variable {F : Fr} {S : Nat → Prop} {γ : Nat → GV} {T : Nat → Option LV} {H : Nat → Option Res} {tm : Array Value} {w : World} {tab : Tab}

theorem mapO_at (M : ModF F S γ T H tm w) {v : Value} {l : LV} (hr : RepL w S γ H v l) {m : List (List AV × List AV)} {ks : List Nat} (h : mapO H l = some (m, ks)) : ∃ r, v = .map (some r) ∧ MapAt w (Rep w S) r m := by
  cases l with
  | pv a =>
    cases a with
    | mp m' =>
      cases h
      cases hr with
      | pv hr => obtain ⟨r, h1, _, h2⟩ := rep_mp.1 hr; exact ⟨r, h1, h2⟩
    | _ => cases h
  | mr k =>
    simp only [mapO] at h
    split at h
    · rename_i m' hk
      cases h
      cases hr with
      | mr _ b _ h' hb =>
        obtain ⟨b', h1, _, h2⟩ := M.own.rep k _ trivial hk
        rw [hb] at h1
        cases h1
        exact ⟨b, rfl, h2⟩
      | dmr _ _ h' => rw [hk] at h'; cases h'
      | mo _ _ _ _ h' => rw [hk] at h'; cases h'
    · cases h
  | _ => cases h
/-- A value's cells, that stay from now on. -/
theorem cr_of (M : ModF F S γ T H tm w) {v : Value} {l : LV} (hr : RepL w S γ H v l) {cs : List LV} (hc : kvO l = some cs) {tys : List Nat} {as : List AV} {ks : List Nat} (h : toAVsO tab H tys cs = some (as, ks)) :
    (∀ k ∈ ks, ∃ r, H k = some r ∧ Rowy r) ∧ ∀ all : List Nat, (∀ k ∈ ks, k ∈ all) → CR (Rep w fun b => S b ∨ Killed γ all b) v as := by
  obtain ⟨h1, h2⟩ := kvO_cells hc
  have hl := LRep.of_cells hr h1
  obtain ⟨g1, g2, g3⟩ := toAVs_rep M hl h
  refine ⟨g2, fun all hall => ?_⟩
  have g3 := g3 all hall
  refine ⟨fun j => (v.cells[j]?).getD undef, ?_, fun j y hy => ?_⟩
  · rcases h2 with ⟨h2, h3⟩ | ⟨h2, rfl⟩
    · left
      refine ⟨by omega, ?_⟩
      have hsz : v.cells.size = 1 := by have := hl.1; simp at this; omega
      have : v.cells = #[v] := by
        cases v with
        | agg arr => 
          exfalso
          cases hr with
          | ag arr cs' _ _ _ => exact h3 _ rfl
          | pv h => cases h
          | un => simp [kvO] at hc
        | _ => rfl
      rw [this]
      rfl
    · right
      refine ⟨by omega, ?_⟩
      cases hr with
      | ag arr _ hn _ _ =>
        congr 1
        apply Array.toList_inj.1
        apply List.ext_getElem
        · simp; omega
        · intro i p1 p2
          simp at p2
          simp [Value.cells, show i < arr.size by omega]
  · obtain ⟨u, hu, _, hr⟩ := g3 j y hy
    have hu' : v.cells[j]? = some u := by simpa using hu
    simp only [hu', Option.getD_some]
    exact hr
theorem toAVsO_nil {tys : List Nat} {cs : List LV} {as : List AV} (M : ModF F S γ T H tm w) {v : Value} {l : LV} (hr : RepL w S γ H v l) (hc : kvO l = some cs) (h : toAVsO tab H tys cs = some (as, [])) : CR (Rep w S) v as := by
  have := (cr_of M hr hc h).2 [] (by simp)
  exact this.mono fun v a hr => hr.mono (fun b hb => by rcases hb with hb | ⟨k, hk, _⟩; exact hb; cases hk) (fun _ _ => rfl)
end

def cellsAV : List AV → LV
  | [c] => .pv c
  | cs => .ag (cs.map .pv)
theorem cellsK_iff (cs : List AV) (K : LV → Prop) : cellsK cs K ↔ K (cellsAV cs) := by
  match cs with
  | [c] => rfl
  | [] => simp [cellsK, cellsAV, mapK]
  | a :: b :: cs => simp only [cellsK, cellsAV, mapK_pv]
theorem cellsAV_rep {w : World} {S : Nat → Prop} {γ : Nat → GV} {H : Nat → Option Res} {v : Value} {cs : List AV} (h : CR (Rep w S) v cs) : RepL w S γ H v (cellsAV cs) := by
  obtain ⟨f, h1, h2⟩ := h
  rcases h1 with ⟨h1, rfl⟩ | ⟨h1, rfl⟩
  · match cs, h1 with
    | [c], _ => exact .pv (h2 0 c rfl)
  · have e : cellsAV cs = .ag (cs.map .pv) := by
      match cs, h1 with
      | [], _ => rfl
      | _ :: _ :: _, _ => rfl
    rw [e]
    have hg : ∀ (i : Nat) (v : Value), (((List.range cs.length).map f).toArray)[i]? = some v → v = f i ∧ i < cs.length := fun i v hv => by
      simp only [List.getElem?_toArray, List.getElem?_map] at hv
      by_cases hi : i < cs.length
      · simp [hi] at hv; exact ⟨hv.symm, hi⟩
      · simp [hi] at hv
    refine .ag _ _ (by simp) (fun i v hv => ?_) (fun i v c hv hc => ?_)
    · obtain ⟨rfl, hi⟩ := hg i v hv
      exact (h2 i cs[i] (by simp [hi])).one
    · obtain ⟨rfl, hi⟩ := hg i v hv
      simp [hi] at hc
      subst hc
      exact .pv (h2 i cs[i] (by simp [hi]))

section
variable {P : Program} {o : Oper} {T : Nat → Option LV} {H : Nat → Option Res} {tab : Tab}

theorem ok_makeMap {d t : Nat} (hdst : o.dst = some d) (ho : o.op = .makeMap t none) (hH : H d = none) : OpOk P o T H ⟨.mr d, [(d, .mp [])], [d]⟩ :=
  ok_new hdst hH fun F S γ a w M => by
    refine ⟨.map (some w.heap.size), w.alloc (.map #[] 0), _, 0, ?_, rfl, rfl, rfl, ⟨rfl, Nat.le_refl _⟩, ?_, ?_⟩
    · simp [execOp, ho, Instr.makeMap]
    · exact ⟨w.heap.size, by simp [updG], by simp [updG], [], #[], 0, .refl _, heap_alloc_new w _, rfl, by simp, ⟨by simp, by simp⟩, by simp⟩
    · exact .mr d w.heap.size [] (by simp [upd1]) (by simp [updG])

theorem ok_range (ht : TabOk P tab) {d t k e : Nat} {x : Operand} {ti : TI} {m : List (List AV × List AV)} (hdst : o.dst = some d) (ho : o.op = .range t x) (hi : lkO tab t = some ti) (hd : ti.d = .mp k e) (hx : evF T x = some (.pv (.mp m))) (hH : H d = none) : OpOk P o T H ⟨.it d, [(d, .it m none)], [d]⟩ :=
  ok_new hdst hH fun F S γ a w M => by
    have hr := M.eval hx
    generalize he : a.eval x = v at hr
    cases hr with
    | pv hr =>
      obtain ⟨r, rfl, hS, m0, es, clock, h1, h2, h3, h4, h5, h6⟩ := rep_mp.1 hr
      obtain ⟨i, z, hti⟩ := tif (ht _ _ hi)
      have hu := hti.d
      rw [hd] at hu
      have hu := mp_of hu
      have hlt := M.stay r hS
      refine ⟨.pointer (some ⟨w.heap.size, 0, none⟩), w.alloc (.mapIter (some r) clock #[] clock), _, 0, ?_, rfl, rfl, rfl, ⟨rfl, Nat.le_refl _⟩, ?_, ?_⟩
      · simp [execOp, ho, he, Instr.range, run_und hu, MapKept.run_getObj_map h2]
      · have e1 : leftE es #[] = es := by simp [leftE]
        refine ⟨w.heap.size, by simp [updG], r, #[], es, clock, m0, heap_alloc_new w _, hS, by rw [heap_alloc_old w _ _ hlt]; exact h2, h5, h1, by rw [e1]; exact h3, fun i e x he hx => ?_, fun x hx => by cases hx⟩
        rw [e1] at he
        exact (h6 i e x he hx).mono fun v a hr => hr.mono (fun _ h => h) (fun b hb => heap_alloc_old w _ _ (M.stay b hb))
      · exact .it d w.heap.size m none (by simp [upd1]) (by simp [updG])

/-- A value that is not there. -/
def zeroO (te : TI) : Option LV := wrapO te te.zero
theorem zero_rep {P : Program} {t : Nat} {te : TI} {i : TypeInfo} {z : Value} (h : TIf P t te i z) (hz : tiOk P t te = true) {l : LV} (hl : zeroO te = some l) (w : World) (S : Nat → Prop) (γ : Nat → GV) (H : Nat → Option Res) : RepL w S γ H z l := by
  have hr := LRep.of_zs (w := w) (S := S) (γ := γ) (H := H) h.zs
  unfold zeroO wrapO at hl
  simp only [tiOk, Bool.and_eq_true, h.info, h.zero] at hz
  have hz := hz.2.2.2
  unfold aggD at hl
  split at hz
  · rename_i hd
    rw [hd] at hl
    simp only [if_true, Option.some.injEq] at hl
    subst hl
    split at hz
    · exact LRep.ag hr
    · cases hz
  · rename_i hd
    rw [hd] at hl
    simp only [if_true, Option.some.injEq] at hl
    subst hl
    split at hz
    · exact LRep.ag hr
    · cases hz
  · rename_i h1 h2
    have hb : aggD te.d = false := by
      cases hd : te.d <;> simp [aggD]
      · exact h1 _ hd
      · exact h2 _ _ hd
    change (if aggD te.d = true then _ else _) = _ at hl
    rw [hb] at hl
    simp only [Bool.false_eq_true, if_false] at hl
    split at hl
    · rename_i c hc
      cases hl
      have e : z.cells = #[z] := by cases z <;> first | rfl | cases hz
      rw [e] at hr
      have := hr.2 0 z l rfl (by rw [hc]; rfl)
      exact this.2
    · cases hl
def lookO (te : TI) : Option (List AV) → Option LV
  | some cs => some (cellsAV cs)
  | none => zeroO te

theorem ok_lookup (ht : TabOk P tab) {t kt vt : Nat} {x y : Operand} {ok : Bool} {ti tk te : TI} {lx ly l : LV} {m : List (List AV × List AV)} {ks : List Nat} {cs : List LV} {kc : List AV} {sg : List KD} {r : Option (List AV)} {tl : List Nat} (ho : o.op = .lookup t x y ok) (hi : lkO tab t = some ti) (hd : ti.d = .mp kt vt) (hik : lkO tab kt = some tk) (hie : lkO tab vt = some te)
    (hx : evF T x = some lx) (hy : evF T y = some ly) (hm : mapO H lx = some (m, ks)) (hc : kvO ly = some cs) (ha : toAVsO tab H tk.cells cs = some (kc, [])) (hk : KeyOk P kt sg) (hf : kfit sg kc = true) (hall : ∀ x ∈ m, kfit sg x.1 = true) (hr : LookR m kc r) (hl : lookO te r = some l) :
    OpOk P o T H ⟨if ok then .tu [l, .pv (.bool r.isSome)] else l, [], tl⟩ :=
  ok_value fun F S γ a w M => by
    obtain ⟨b, hv, m0, es, clock, h1, h2, h3, h4, h5, h6⟩ := mapO_at M (M.eval hx) hm
    have hkey := (toAVsO_nil M (M.eval hy) hc ha).kv hf
    obtain ⟨i, z, hti⟩ := tif (ht _ _ hi)
    have hu := hti.d
    rw [hd] at hu
    have hu := mp_of hu
    obtain ⟨ie, ze, hte⟩ := tif (ht _ _ hie)
    obtain ⟨fr, hfr, hF⟩ := run_findKey (w := w) hk hf es.toList m0 (by simpa using h3) (ents h1 hall h6)
    have hck := hk.chk es.isEmpty w kc hf
    have : ∃ u, (Instr.lookup t (.map (some b)) (kval kc) ok).run P w = .ok (if ok then .tuple #[u, .bool r.isSome] else u) w ∧ RepL w S γ H u l := by
      rcases hF with ⟨rfl, hno⟩ | ⟨j, e, x', rfl, he, hx', hxk⟩
      · rcases hr with ⟨rfl, _⟩ | ⟨v, rfl, hmem⟩
        · refine ⟨ze, ?_, zero_rep hte (ht _ _ hie) hl w S γ H⟩
          simp [Instr.lookup, run_und hu, MapKept.run_getObj_map h2, hck, hfr, run_zero hte.info hte.zero]
        · exact (hno _ (h1.mem_iff.2 hmem) rfl).elim
      · have hin : x' ∈ m := h1.mem_iff.1 (List.mem_of_getElem? hx')
        rcases hr with ⟨rfl, hno⟩ | ⟨v, rfl, hmem⟩
        · exact (hno x' hin hxk).elim
        · have hv : x'.2 = v := by
            have hmem0 := h1.mem_iff.2 hmem
            obtain ⟨q, hq, hqe⟩ := List.mem_iff_getElem.1 hmem0
            obtain ⟨hj, hje⟩ := List.getElem?_eq_some_iff.1 hx'
            have : j = q := (List.getElem?_inj (by simpa using hj) h4).1 (by simp [List.getElem?_map, List.getElem?_eq_getElem hj, List.getElem?_eq_getElem hq, hje, hqe, hxk])
            subst this
            rw [hje] at hqe
            rw [hqe]
          refine ⟨e.val, ?_, ?_⟩
          · simp [Instr.lookup, run_und hu, MapKept.run_getObj_map h2, hck, hfr]
          · have := (h6 j e x' (by simpa using he) hx').2
            rw [hv] at this
            cases hl
            exact cellsAV_rep this
    obtain ⟨u, h7, h8⟩ := this
    refine ⟨_, by simp [execOp, ho, hv, hkey, h7]; rfl, ?_⟩
    cases ok
    · exact h8
    · simp only [if_true]
      refine .tu _ _ rfl fun i v c hv hc => ?_
      rcases i with _ | _ | i
      · cases hv; cases hc; exact h8
      · cases hv; cases hc; exact .pv (.bool _)
      · simp at hc

theorem perm_split {m0 : List (List AV × List AV)} {i : Nat} {x y : List AV × List AV} (hx : m0[i]? = some x) : m0.Perm (x :: m0.eraseIdx i) ∧ (m0.set i y).Perm (y :: m0.eraseIdx i) := by
  induction m0 generalizing i with
  | nil => simp at hx
  | cons z m0 ih =>
    cases i with
    | zero => simp at hx; subst hx; exact ⟨.refl _, .refl _⟩
    | succ i =>
      obtain ⟨h1, h2⟩ := ih (i := i) (by simpa using hx)
      exact ⟨(h1.cons z).trans (.swap _ _ _), (h2.cons z).trans (.swap _ _ _)⟩

theorem ok_mapUpdate (ht : TabOk P tab) {t kt vt k : Nat} {x y u : Operand} {ti tk te : TI} {ly lu : LV} {m m' : List (List AV × List AV)} {cs us : List LV} {kc vc : List AV} {ks tl : List Nat} {sg : List KD} (hdst : o.dst = none) (ho : o.op = .mapUpdate t x y u) (hi : lkO tab t = some ti) (hd : ti.d = .mp kt vt) (hik : lkO tab kt = some tk) (hie : lkO tab vt = some te)
    (hx : evF T x = some (.mr k)) (hk0 : H k = some (.mp m)) (hy : evF T y = some ly) (hu : evF T u = some lu) (hc : kvO ly = some cs) (ha : toAVsO tab H tk.cells cs = some (kc, [])) (hcu : kvO lu = some us) (hau : toAVsO tab H te.cells us = some (vc, ks)) (hkk : k ∉ ks)
    (hk : KeyOk P kt sg) (hf : kfit sg kc = true) (hall : ∀ x ∈ m, kfit sg x.1 = true) (hr : UpdR m kc vc m') : OpOk P o T H ⟨.un, (k, .mp m') :: deadH ks, tl⟩ := by
  intro F S γ a w next Q hdst' M hnext
  have hm := M.eval hx
  generalize he : a.eval x = v at hm
  cases hm with
  | dmr _ _ h => rw [hk0] at h; cases h
  | mo _ _ _ _ h => rw [hk0] at h; cases h
  | mr _ b _ h hb =>
    rw [hk0] at h
    cases h
    obtain ⟨b', hb', hnm, m0, es, clock, h1, h2, h3, h4, h5, h6⟩ := M.own.rep k _ trivial hk0
    rw [hb] at hb'
    cases hb'
    have hkey := (toAVsO_nil M (M.eval hy) hc ha).kv hf
    obtain ⟨hks, hcr⟩ := cr_of M (M.eval hu) hcu hau
    have hcr := hcr ks fun _ h => h
    obtain ⟨i, z, hti⟩ := tif (ht _ _ hi)
    have hund := hti.d
    rw [hd] at hund
    have hund := mp_of hund
    obtain ⟨fr, hfr, hF⟩ := run_findKey (w := w) hk hf es.toList m0 (by simpa using h3) (ents h1 hall h6)
    have hck := hk.chk false w kc hf
    have M1 := M.kill ks hks
    have hk1 : killH ks H k = some (.mp m) := by simp [killH, hkk, hk0]
    obtain ⟨m1, hr1, hr2⟩ := hr
    have up : ∀ v a, Rep w S v a → Rep w (fun b => S b ∨ Killed γ ks b) v a := fun v a h => h.mono (fun _ h => .inl h) (fun _ _ => rfl)
    have key : ∃ es' clock', (execOp a.eval o).run P w = .ok .skip { w with heap := w.heap.setIfInBounds b (.map es' clock') } ∧ ∃ m2, List.Perm m2 m' ∧ es'.size = m2.length ∧ (m2.map (·.1)).Nodup ∧ Born es' clock' ∧ ∀ (i : Nat) (e : MapEntry) (x : List AV × List AV), es'[i]? = some e → m2[i]? = some x → EntR (Rep w fun b => S b ∨ Killed γ ks b) e x := by
      rcases hF with ⟨rfl, hno⟩ | ⟨j, e, x', rfl, hej, hx', hxk⟩
      · refine ⟨es.push { key := kval kc, val := a.eval u, born := clock }, clock + 1, ?_, m0 ++ [(kc, vc)], ?_, by simp [h3], ?_, ?_, fun i e x hei hxi => ?_⟩
        · simp [execOp, ho, he, hkey, Instr.mapUpdate, run_und hund, MapKept.run_getObj_map h2, hck, hfr, MapKept.run_setObj_map _ h2]
        · rcases hr1 with ⟨v0, hp⟩ | ⟨rfl, _⟩
          · exact (hno (kc, v0) (h1.mem_iff.2 (hp.mem_iff.2 (by simp))) rfl).elim
          · exact (List.perm_append_comm.trans ((h1.cons _).trans (.refl _))).trans hr2.symm
        · rw [List.map_append, List.nodup_append]
          refine ⟨h4, by simp, fun p hp q hq => ?_⟩
          simp at hq
          subst hq
          obtain ⟨y, hy, rfl⟩ := List.mem_map.1 hp
          exact hno y hy
        · refine ⟨fun e he => ?_, ?_⟩
          · simp only [Array.toList_push, List.mem_append, List.mem_singleton] at he
            rcases he with he | rfl
            · have := h5.1 e he; omega
            · exact Nat.lt_succ_self _
          · simp only [Array.toList_push, List.map_append, List.map_cons, List.map_nil]
            refine List.nodup_append.2 ⟨h5.2, by simp, fun p hp q hq => ?_⟩
            simp at hq
            subst hq
            obtain ⟨y, hy, rfl⟩ := List.mem_map.1 hp
            exact Nat.ne_of_lt (h5.1 y hy)
        · by_cases hlt : i < es.size
          · rw [Array.getElem?_push_lt hlt] at hei
            rw [List.getElem?_append_left (by omega)] at hxi
            exact (h6 i e x (by rw [Array.getElem?_eq_getElem hlt]; exact hei) hxi).mono up
          · rw [List.getElem?_append_right (by omega)] at hxi
            have hi0 : i - m0.length = 0 := by have := (List.getElem?_eq_some_iff.1 hxi).1; simpa using this
            rw [hi0] at hxi
            cases hxi
            have : i = es.size := by omega
            subst this
            simp at hei
            subst hei
            refine ⟨?_, hcr⟩
            have := (toAVsO_nil M (M.eval hy) hc ha).mono up
            rw [hkey] at this
            exact this
      · have hjl := (List.getElem?_eq_some_iff.1 hx').1
        have hes : es[j]? = some e := by simpa using hej
        have hek : e.key = kval kc := by rw [← hxk]; exact (ents h1 hall h6 j e x' hej hx').1
        refine ⟨es.modify j fun e => { e with key := kval kc, val := a.eval u }, clock, ?_, m0.set j (kc, vc), ?_, by simp [h3], ?_, ?_, fun i e1 x hei hxi => ?_⟩
        · have hkt := kval_keep (P := P) (w := w) hf
          simp [execOp, ho, he, hkey, Instr.mapUpdate, run_und hund, MapKept.run_getObj_map h2, hck, hfr, hes, hek, hkt, MapKept.run_setObj_map _ h2]
        · obtain ⟨p1, p2⟩ := perm_split (y := (kc, vc)) hx'
          refine p2.trans (List.Perm.trans (.cons _ ?_) hr2.symm)
          rcases hr1 with ⟨v0, hp⟩ | ⟨rfl, hno⟩
          · have hv : (kc, v0) = x' := by
              have hmem0 : (kc, v0) ∈ m0 := h1.mem_iff.2 (hp.mem_iff.2 (by simp))
              rcases List.mem_cons.1 (p1.mem_iff.1 hmem0) with h | h
              · exact h
              · exfalso
                have hn := (p1.map (·.1)).nodup_iff.1 h4
                simp only [List.map_cons, List.nodup_cons] at hn
                exact hn.1 (by rw [hxk]; exact List.mem_map.2 ⟨_, h, rfl⟩)
            rw [← hv] at p1
            exact (p1.symm.trans (h1.trans hp)).cons_inv
          · exact (hno x' (h1.mem_iff.1 (List.mem_of_getElem? hx')) hxk).elim
        · have : (m0.set j (kc, vc)).map (·.1) = m0.map (·.1) := by
            rw [List.map_set]
            apply List.ext_getElem?
            intro q
            rw [List.getElem?_set]
            split
            · rename_i hq
              subst hq
              rw [if_pos (by simpa using hjl), List.getElem?_map, hx']
              simp [hxk]
            · rfl
          rw [this]
          exact h4
        · have hborn : (es.modify j fun e => { e with key := kval kc, val := a.eval u }).toList.map (·.born) = es.toList.map (·.born) := by
            apply List.ext_getElem?
            intro q
            simp only [List.getElem?_map, Array.getElem?_toList, Array.getElem?_modify]
            by_cases hq : j = q
            · subst hq; cases es[j]? <;> simp
            · simp [hq]
          refine ⟨fun e' he' => ?_, hborn ▸ h5.2⟩
          have : e'.born ∈ es.toList.map (·.born) := by rw [← hborn]; exact List.mem_map.2 ⟨e', he', rfl⟩
          obtain ⟨e2, he2, heq⟩ := List.mem_map.1 this
          rw [← heq]
          exact h5.1 e2 he2
        · rw [Array.getElem?_modify] at hei
          by_cases hq : j = i
          · subst hq
            rw [if_pos rfl, hes] at hei
            rw [List.getElem?_set, if_pos rfl, if_pos hjl] at hxi
            cases hei
            cases hxi
            refine ⟨?_, hcr⟩
            have := (toAVsO_nil M (M.eval hy) hc ha).mono up
            rw [hkey] at this
            exact this
          · rw [if_neg hq] at hei
            rw [List.getElem?_set, if_neg hq] at hxi
            exact (h6 i e1 x hei hxi).mono up
    obtain ⟨es', clock', hrun, m2, k1, k2, k3, k4, k5⟩ := key
    obtain ⟨q1, q2⟩ := MapKept.heap_set (o' := .map es' clock') h2
    have hnew : RepR { w with heap := w.heap.setIfInBounds b (.map es' clock') } (fun b => S b ∨ Killed γ ks b) γ (upd1 (killH ks H) k (.mp m')) k (.mp m') :=
      ⟨b, hb, hnm, m2, es', clock', k1, q1, k2, k3, k4, fun i e x hei hxi => (k5 i e x hei hxi).mono fun v a hr => hr.mono (fun _ h => h) fun c hc => q2 c (by rintro rfl; exact M1.no hk1 (by simp) hb hc)⟩
    have M2 := M1.turn (w' := { w with heap := w.heap.setIfInBounds b (.map es' clock') }) k b (.mp m) (.mp m') hk1 (by simp) hb (by simp [Like]) (by simp) rfl rfl ⟨rfl, Nat.le_refl _⟩ (fun c hc => q2 c hc) hnew
    simp only [Oper.wp, hrun, Oper.upon]
    refine hnext (fun b => S b ∨ Killed γ ks b) γ _ _ (by cases o.dst <;> rfl) ?_
    rw [updH_new k _ ks H hkk, upd_nodst hdst, hdst]
    exact M2
end
end Go.Proofs.Ytcpgcenlgihmnaa.Abs
