/- A logic of abstract states for the program and what its functions come to: texts 21, 22, 23, 24, 25, 26, 26s, 26t, 26k, 26a. -/
import Derived.Test.YtcpgcenlgihmnaaU3
import Derived.Orders
import Derived.Control
import Derived.Laws.IdiomArrays
/- A region in whatever order. -/
set_option linter.unusedVariables false
set_option linter.unusedSimpArgs false
namespace Go.Proofs.Ytcpgcenlgihmnaa.Abs
open Go

/-! Which waits for which. -/
inductive Before (ops : List Oper) : Nat → Nat → Prop
  | edge {o : Oper} {e : Edge} {j : Nat} (h : ops[j]? = some o) (he : e ∈ o.after) (hb : Region.binds .any e = true) : Before ops e.on j
  | step {o : Oper} {e : Edge} {i j : Nat} (h : ops[j]? = some o) (he : e ∈ o.after) (hb : Region.binds .any e = true) (hi : Before ops i e.on) : Before ops i j
theorem bit_or {a b i : Nat} (h : Nat.testBit (Nat.lor a b) i = true) : Nat.testBit a i = true ∨ Nat.testBit b i = true := by
  have : Nat.lor a b = a ||| b := rfl
  rw [this, Nat.testBit_or] at h
  simpa using h
theorem bit_one {n i : Nat} (h : Nat.testBit (Nat.shiftLeft 1 n) i = true) : i = n := by
  have : Nat.shiftLeft 1 n = 1 <<< n := rfl
  rw [this, Nat.one_shiftLeft, Nat.testBit_two_pow] at h
  simpa using (of_decide_eq_true h).symm
theorem maskOf_spec {ops : List Oper} {ms : List Nat} {j : Nat} {o : Oper} (ho : ops[j]? = some o) (hm : ∀ k i, Nat.testBit (ms.getD k 0) i = true → Before ops i k) : ∀ (es : List Edge), (∀ e ∈ es, e ∈ o.after) → ∀ i, Nat.testBit (maskOf ms es) i = true → Before ops i j
  | [], _, i, h => by simp [maskOf] at h
  | e :: es, hs, i, h => by
    have he := hs e (by simp)
    have hs' : ∀ e ∈ es, e ∈ o.after := fun x hx => hs x (by simp [hx])
    unfold maskOf at h
    split at h
    · rename_i hb
      rcases bit_or h with h | h
      · rcases bit_or h with h | h
        · exact .step ho he hb (hm _ _ h)
        · rw [bit_one h]; exact .edge ho he hb
      · exact maskOf_spec ho hm es hs' i h
    · exact maskOf_spec ho hm es hs' i h
theorem masksFrom_spec {all : List Oper} : ∀ (ops : List Oper) (ms : List Nat), (∀ j o, ops[j]? = some o → all[ms.length + j]? = some o) → (∀ k i, Nat.testBit (ms.getD k 0) i = true → Before all i k) → ∀ k i, Nat.testBit ((masksFrom ms ops).getD k 0) i = true → Before all i k
  | [], ms, _, hm, k, i, h => hm k i h
  | o :: ops, ms, ho, hm, k, i, h => by
    refine masksFrom_spec ops (ms ++ [maskOf ms o.after.toList]) (fun j p hp => ?_) (fun k i h => ?_) k i h
    · have := ho (j + 1) p (by simpa using hp)
      rw [List.length_append, List.length_singleton]
      rwa [show ms.length + (j + 1) = ms.length + 1 + j by omega] at this
    · rw [List.getD_eq_getElem?_getD] at h
      rcases Nat.lt_trichotomy k ms.length with hk | hk | hk
      · rw [List.getElem?_append_left hk, ← List.getD_eq_getElem?_getD] at h
        exact hm k i h
      · subst hk
        simp at h
        exact maskOf_spec (ho 0 o rfl) hm o.after.toList (fun e he => by simpa using he) i h
      · rw [List.getElem?_eq_none (by simp; omega)] at h
        simp at h
theorem masks_spec {ops : List Oper} {j i : Nat} (h : Nat.testBit ((masks ops).getD j 0) i = true) : Before ops i j :=
  masksFrom_spec ops [] (fun j o h => by simpa using h) (fun k i h => by simp at h) j i h

/-! The slots that an operation looks at, that are written. -/
def tmps : List Operand → List Nat
  | [] => []
  | .tmp n :: l => n :: tmps l
  | _ :: l => tmps l
def looks (ops : List Oper) (o : Oper) : List Nat :=
  match o.guard with
  | some (g, _) => (match (ops[g]?).bind (·.dst) with | some d => d :: tmps (insOf o.op) | none => tmps (insOf o.op))
  | none => tmps (insOf o.op)
def inO (d : Option Nat) (l : List Nat) : Bool := match d with | some d => inL d l | none => false
def sameO (d e : Option Nat) : Bool := match d, e with | some d, some e => Nat.beq d e | _, _ => false
def conf (ops : List Oper) (p o : Oper) : Bool := inO p.dst (looks ops o) || inO o.dst (looks ops p) || sameO p.dst o.dst
def pairs1 (ops : List Oper) (m : Nat) (o : Oper) : List Oper → Nat → Bool
  | [], _ => true
  | p :: ps, i => (!(conf ops p o) || Nat.testBit m i) && pairs1 ops m o ps (Nat.succ i)
def pairsAll (ops : List Oper) (ms : List Nat) (pre : List Oper) : List Oper → Bool
  | [] => true
  | o :: rest => pairs1 ops (ms.getD pre.length 0) o pre 0 && pairsAll ops ms (pre ++ [o]) rest
def backOk : List Oper → Nat → Bool
  | [], _ => true
  | o :: ops, j => o.after.toList.all (fun e => !Region.binds .any e || Nat.blt e.on j) && backOk ops (Nat.succ j)
def drawOk (ops : List Oper) : Bool := backOk ops 0 && pairsAll ops (masks ops) [] ops

theorem inL_t {n : Nat} : ∀ {l : List Nat}, n ∈ l → inL n l = true
  | k :: l, h => by
    simp only [inL]
    split
    · rfl
    · rename_i hb
      exact inL_t ((List.mem_cons.1 h).resolve_left (by have := beq_f hb; exact Ne.symm this))
theorem pairs1_spec {ops : List Oper} {m : Nat} {o : Oper} : ∀ (ps : List Oper) (i : Nat), pairs1 ops m o ps i = true → ∀ k p, ps[k]? = some p → conf ops p o = false ∨ Nat.testBit m (i + k) = true
  | [], i, _, k, p, h => by simp at h
  | q :: ps, i, hh, k, p, h => by
    simp only [pairs1, Bool.and_eq_true, Bool.or_eq_true, Bool.not_eq_true'] at hh
    cases k with
    | zero => cases h; exact hh.1
    | succ k =>
      have := pairs1_spec ps (Nat.succ i) hh.2 k p (by simpa using h)
      rwa [show Nat.succ i + k = i + (k + 1) by omega] at this
theorem pairsAll_spec {ops : List Oper} {ms : List Nat} : ∀ (rest pre : List Oper), pairsAll ops ms pre rest = true → ∀ i j p o, i < pre.length + j → (pre ++ rest)[i]? = some p → rest[j]? = some o → conf ops p o = false ∨ Nat.testBit (ms.getD (pre.length + j) 0) i = true
  | [], pre, _, i, j, p, o, _, _, h => by simp at h
  | q :: rest, pre, hh, i, j, p, o, hij, hi, hj => by
    simp only [pairsAll, Bool.and_eq_true] at hh
    cases j with
    | zero =>
      cases hj
      have hlt : i < pre.length := by simpa using hij
      rw [List.getElem?_append_left hlt] at hi
      have := pairs1_spec pre 0 hh.1 i p hi
      simpa using this
    | succ j =>
      have := pairsAll_spec rest (pre ++ [q]) hh.2 i j p o (by simp; omega) (by simpa using hi) (by simpa using hj)
      simpa [Nat.add_assoc, Nat.add_comm 1 j] using this
theorem backOk_spec : ∀ (ops : List Oper) (b : Nat), backOk ops b = true → ∀ j o, ops[j]? = some o → ∀ e ∈ o.after, Region.binds .any e = true → e.on < b + j
  | [], b, _, j, o, h => by simp at h
  | p :: ops, b, hh, j, o, h => by
    simp only [backOk, Bool.and_eq_true, List.all_eq_true, Bool.or_eq_true, Bool.not_eq_true'] at hh
    cases j with
    | zero =>
      cases h
      intro e he hb
      rcases hh.1 e (by simpa using he) with h | h
      · rw [hb] at h; cases h
      · have := Nat.le_of_ble_eq_true h; omega
    | succ j =>
      intro e he hb
      have := backOk_spec ops (Nat.succ b) hh.2 j o (by simpa using h) e he hb
      omega
theorem chk1_spec {m : Nat} {e : List Nat × List Nat} : ∀ (L : Log), chk1 m e L = true → ∀ i x, L.reverse[i]? = some x → (meet e.2 x.1 = false ∧ meet x.2 e.1 = false) ∨ Nat.testBit m i = true
  | [], _, i, x, h => by simp at h
  | f :: L, hh, i, x, h => by
    simp only [chk1, Bool.and_eq_true, Bool.or_eq_true, Bool.not_eq_true'] at hh
    rw [List.reverse_cons] at h
    by_cases hi : i < L.reverse.length
    · rw [List.getElem?_append_left hi] at h
      exact chk1_spec L hh.2 i x h
    · rw [List.getElem?_append_right (by omega)] at h
      have h0 : i - L.reverse.length = 0 := by
        have := (List.getElem?_eq_some_iff.1 h).1
        simp only [List.length_singleton] at this
        omega
      rw [h0] at h
      cases h
      have : i = L.length := by simp only [List.length_reverse] at h0 hi; omega
      rw [this]
      exact hh.1
theorem chk_spec {ms : List Nat} : ∀ (L : Log), chk ms L = true → ∀ i j x y, i < j → L.reverse[i]? = some x → L.reverse[j]? = some y → (meet y.2 x.1 = false ∧ meet x.2 y.1 = false) ∨ Nat.testBit (ms.getD j 0) i = true
  | [], _, i, j, x, y, _, h, _ => by simp at h
  | e :: L, hh, i, j, x, y, hij, hx, hy => by
    simp only [chk, Bool.and_eq_true] at hh
    rw [List.reverse_cons] at hx hy
    have hj0 : j < L.reverse.length + 1 := by have := (List.getElem?_eq_some_iff.1 hy).1; simpa using this
    by_cases hj : j < L.reverse.length
    · rw [List.getElem?_append_left hj] at hy
      rw [List.getElem?_append_left (by omega)] at hx
      exact chk_spec L hh.2 i j x y hij hx hy
    · have h0 : j = L.reverse.length := by omega
      rw [List.getElem?_append_left (by omega)] at hx
      subst h0
      simp at hy
      subst hy
      have := chk1_spec L hh.1 i x hx
      simpa using this
theorem meet_spec {a b : List Nat} (h : meet a b = false) {k : Nat} (ha : k ∈ a) (hb : k ∈ b) : False := by
  have : meet a b = true := by
    simp only [meet, List.any_eq_true]
    exact ⟨k, ha, inL_t hb⟩
  rw [h] at this
  cases this

/-! The state, where some operations have been done. -/
def fT (X : Nat → Bool) : Nat → List (Oper × Eff) → (Nat → Option LV) → Nat → Option LV
  | _, [], T => T
  | i, (o, e) :: l, T => fT X (i + 1) l (if X i then updT T o.dst e.lv else T)
def fH (X : Nat → Bool) : Nat → List (Oper × Eff) → (Nat → Option Res) → Nat → Option Res
  | _, [], H => H
  | i, (o, e) :: l, H => fH X (i + 1) l (if X i then updH e.puts H else H)
theorem fT_agree {X Y : Nat → Bool} {s : Nat} : ∀ (l : List (Oper × Eff)) (i : Nat) (T T' : Nat → Option LV), T s = T' s → (∀ j p, l[j]? = some p → p.1.dst = some s → X (i + j) = Y (i + j)) → fT X i l T s = fT Y i l T' s
  | [], i, T, T', h, _ => h
  | (o, e) :: l, i, T, T', h, hx => by
    refine fT_agree l (i + 1) _ _ ?_ fun j p hp hd => by have := hx (j + 1) p (by simpa using hp) hd; rwa [show i + (j + 1) = i + 1 + j by omega] at this
    by_cases hd : o.dst = some s
    · have := hx 0 (o, e) rfl hd
      simp only [Nat.add_zero] at this
      rw [this]
      cases Y i <;> simp [updT, hd, h]
    · cases X i <;> cases Y i <;> simp [updT, hd, h]
theorem fT_none : ∀ (l : List (Oper × Eff)) (i : Nat) (T : Nat → Option LV), fT (fun _ => false) i l T = T
  | [], i, T => rfl
  | (o, e) :: l, i, T => by simp [fT, fT_none l]
theorem fT_last {X : Nat → Bool} {s : Nat} : ∀ (l : List (Oper × Eff)) (i j : Nat) (T : Nat → Option LV) (p : Oper × Eff), l[j]? = some p → p.1.dst = some s → X (i + j) = true → (∀ j' p', j < j' → l[j']? = some p' → p'.1.dst = some s → X (i + j') = false) → fT X i l T s = some p.2.lv
  | [], i, j, T, p, h, _, _, _ => by simp at h
  | (o, e) :: l, i, 0, T, p, h, hd, hx, hl => by
    cases h
    simp only [Nat.add_zero] at hx
    simp only [fT, hx, if_true]
    rw [fT_agree (Y := fun _ => false) l (i + 1) _ (updT T o.dst e.lv) rfl fun j p hp hd => by have := hl (j + 1) p (by omega) (by simpa using hp) hd; rwa [show i + (j + 1) = i + 1 + j by omega] at this, fT_none]
    have hd' : o.dst = some s := hd
    simp [updT, hd']
  | (o, e) :: l, i, j + 1, T, p, h, hd, hx, hl => by
    simp only [fT]
    exact fT_last l (i + 1) j _ p (by simpa using h) hd (by rwa [show i + (j + 1) = i + 1 + j by omega] at hx) fun j' p' hj hp hd => by have := hl (j' + 1) p' (by omega) (by simpa using hp) hd; rwa [show i + (j' + 1) = i + 1 + j' by omega] at this
theorem fT_shift {X : Nat → Bool} : ∀ (l : List (Oper × Eff)) (i : Nat) (T : Nat → Option LV), fT X (i + 1) l T = fT (fun m => X (m + 1)) i l T
  | [], i, T => rfl
  | (o, e) :: l, i, T => by simp only [fT]; exact fT_shift l (i + 1) _
theorem updH_out : ∀ (ps : HS) (H : Nat → Option Res) (k : Nat), k ∉ keysOf ps → updH ps H k = H k
  | [], H, k, _ => rfl
  | (j, r) :: ps, H, k, h => by
    simp only [keysOf, List.mem_cons, not_or] at h
    rw [updH, updH_out ps _ k h.2, if_neg (Ne.symm h.1)]
theorem updH_in : ∀ (ps : HS) (H H' : Nat → Option Res) (k : Nat), k ∈ keysOf ps → updH ps H k = updH ps H' k
  | [], H, H', k, h => by simp [keysOf] at h
  | (j, r) :: ps, H, H', k, h => by
    rw [updH, updH]
    by_cases hk : k ∈ keysOf ps
    · exact updH_in ps _ _ k hk
    · rw [updH_out ps _ k hk, updH_out ps _ k hk]
      simp only [keysOf, List.mem_cons] at h
      rw [if_pos (h.resolve_right hk).symm, if_pos (h.resolve_right hk).symm]
theorem fH_agree {X Y : Nat → Bool} {s : Nat} : ∀ (l : List (Oper × Eff)) (i : Nat) (T T' : Nat → Option Res), T s = T' s → (∀ j p, l[j]? = some p → s ∈ keysOf p.2.puts → X (i + j) = Y (i + j)) → fH X i l T s = fH Y i l T' s
  | [], i, T, T', h, _ => h
  | (o, e) :: l, i, T, T', h, hx => by
    refine fH_agree l (i + 1) _ _ ?_ fun j p hp hd => by have := hx (j + 1) p (by simpa using hp) hd; rwa [show i + (j + 1) = i + 1 + j by omega] at this
    by_cases hd : s ∈ keysOf e.puts
    · have := hx 0 (o, e) rfl hd
      simp only [Nat.add_zero] at this
      rw [this]
      cases Y i
      · simp [h]
      · simp only [if_true]; exact updH_in _ _ _ _ hd
    · have e1 := fun T => updH_out e.puts T s hd
      cases X i <;> cases Y i <;> simp [e1, h]
theorem fH_none : ∀ (l : List (Oper × Eff)) (i : Nat) (T : Nat → Option Res), fH (fun _ => false) i l T = T
  | [], i, T => rfl
  | (o, e) :: l, i, T => by simp [fH, fH_none l]
theorem fH_last {X : Nat → Bool} {s : Nat} (T0 : Nat → Option Res) : ∀ (l : List (Oper × Eff)) (i j : Nat) (T : Nat → Option Res) (p : Oper × Eff), l[j]? = some p → s ∈ keysOf p.2.puts → X (i + j) = true → (∀ j' p', j < j' → l[j']? = some p' → s ∈ keysOf p'.2.puts → X (i + j') = false) → fH X i l T s = updH p.2.puts T0 s
  | [], i, j, T, p, h, _, _, _ => by simp at h
  | (o, e) :: l, i, 0, T, p, h, hd, hx, hl => by
    cases h
    simp only [Nat.add_zero] at hx
    simp only [fH, hx, if_true]
    rw [fH_agree (Y := fun _ => false) l (i + 1) _ (updH e.puts T) rfl fun j p hp hd => by have := hl (j + 1) p (by omega) (by simpa using hp) hd; rwa [show i + (j + 1) = i + 1 + j by omega] at this, fH_none]
    exact updH_in _ _ _ _ hd
  | (o, e) :: l, i, j + 1, T, p, h, hd, hx, hl => by
    simp only [fH]
    exact fH_last T0 l (i + 1) j _ p (by simpa using h) hd (by rwa [show i + (j + 1) = i + 1 + j by omega] at hx) fun j' p' hj hp hd => by have := hl (j' + 1) p' (by omega) (by simpa using hp) hd; rwa [show i + (j' + 1) = i + 1 + j' by omega] at this
theorem fH_shift {X : Nat → Bool} : ∀ (l : List (Oper × Eff)) (i : Nat) (T : Nat → Option Res), fH X (i + 1) l T = fH (fun m => X (m + 1)) i l T
  | [], i, T => rfl
  | (o, e) :: l, i, T => by simp only [fH]; exact fH_shift l (i + 1) _

/-- One operation, as the text comes to it. -/
def Stp (P : Program) (ops : Array Oper) (o : Oper) (T : Nat → Option LV) (H : Nat → Option Res) (e : Eff) : Prop :=
  (o.guard = none ∧ Does P o T H e) ∨ (∃ g want d, o.guard = some (g, want) ∧ (ops[g]?).bind (·.dst) = some d ∧ T d = some .sk ∧ e = ⟨.sk, [], []⟩) ∨ ∃ g want d b, o.guard = some (g, want) ∧ (ops[g]?).bind (·.dst) = some d ∧ T d = some (.pv (.bool b)) ∧ ((b = want ∧ Does P o T H e) ∨ (b ≠ want ∧ e = ⟨.sk, [], []⟩))
def Tr (P : Program) (ops : Array Oper) : List (Oper × Eff) → (Nat → Option LV) → (Nat → Option Res) → Prop
  | [], _, _ => True
  | (o, e) :: l, T, H => Stp P ops o T H e ∧ Tr P ops l (updT T o.dst e.lv) (updH e.puts H)
theorem Tr.get {P : Program} {ops : Array Oper} : ∀ (l : List (Oper × Eff)) (T : Nat → Option LV) (H : Nat → Option Res), Tr P ops l T H → ∀ j p, l[j]? = some p → Stp P ops p.1 (fT (fun i => decide (i < j)) 0 l T) (fH (fun i => decide (i < j)) 0 l H) p.2
  | [], T, H, _, j, p, h => by simp at h
  | (o, e) :: l, T, H, ht, 0, p, h => by
    cases h
    have e1 : (fun i : Nat => decide (i < 0)) = fun _ => false := by funext i; simp
    rw [e1, fT_none, fH_none]
    exact ht.1
  | (o, e) :: l, T, H, ht, j + 1, p, h => by
    have := Tr.get l _ _ ht.2 j p (by simpa using h)
    simp only [fT, fH]
    rw [fT_shift, fH_shift]
    have e1 : (fun i : Nat => decide (i + 1 < j + 1)) = fun i => decide (i < j) := by funext i; simp
    simpa [e1] using this
def lgs (l : List (Oper × Eff)) : List (List Nat × List Nat) := l.map fun p => (p.2.tk ++ keysOf p.2.puts, keysOf p.2.puts)

theorem dops_trace {P : Program} {tab : Tab} (ht : TabOk P tab) {ops : Array Oper} : ∀ (rest : List Oper) (t : TS) (h : HS) (L : Log) (K : TS → HS → Prop), (∀ o ∈ rest, dstOk o = true) → dops P tab ops rest t h L K →
    ∃ l t' h', l.map (·.1) = rest ∧ Tr P ops l (lkO t) (lkO h) ∧ lkO t' = fT (fun _ => true) 0 l (lkO t) ∧ lkO h' = fH (fun _ => true) 0 l (lkO h) ∧ chk (masks ops.toList) ((lgs l).reverse ++ L) = true ∧ K t' h'
  | [], t, h, L, K, _, hk => by
    unfold dops AChk at hk
    exact ⟨[], t, h, rfl, trivial, rfl, rfl, by simpa [lgs] using hk.1, hk.2⟩
  | o :: rest, t, h, L, K, hs, hk => by
    have hd := hs o (by simp)
    have hs' : ∀ o ∈ rest, dstOk o = true := fun o ho => hs o (by simp [ho])
    have go : ∀ e, Stp P ops o (lkO t) (lkO h) e → applyE t h L o.dst e (fun t' h' L' => dops P tab ops rest t' h' L' K) → ∃ l t' h', l.map (·.1) = o :: rest ∧ Tr P ops l (lkO t) (lkO h) ∧ lkO t' = fT (fun _ => true) 0 l (lkO t) ∧ lkO h' = fH (fun _ => true) 0 l (lkO h) ∧ chk (masks ops.toList) ((lgs l).reverse ++ L) = true ∧ K t' h' := fun e hst hk => by
      obtain ⟨t1, h1, e1, e2, hk⟩ := applyE_iff _ _ _ _ _ _ hk
      obtain ⟨l, t', h', a1, a2, a3, a4, a5, a6⟩ := dops_trace ht rest t1 h1 _ K hs' hk
      rw [e1, e2] at a2
      rw [e1] at a3
      rw [e2] at a4
      refine ⟨(o, e) :: l, t', h', by simp [a1], ⟨hst, a2⟩, ?_, ?_, ?_, a6⟩
      · rw [a3]; simp only [fT, if_true]; rw [fT_shift]
      · rw [a4]; simp only [fH, if_true]; rw [fH_shift]
      · simpa [lgs] using a5
    unfold dops at hk
    split at hk
    · rename_i hg
      obtain ⟨e, h1, h2⟩ := stepE_sound ht hd hk
      exact go e (.inl ⟨hg, h1⟩) h2
    · rename_i g want hg
      split at hk
      · rename_i d hdd
        rw [lk_iff] at hk
        obtain ⟨l, h1, hk⟩ := hk
        split at hk
        case h_3 => exact hk.elim
        case h_2 => exact go _ (.inr (.inl ⟨g, want, d, hg, hdd, h1, rfl⟩)) hk
        rename_i b
        have skip : b ≠ want → applyE t h L o.dst ⟨.sk, [], []⟩ (fun t' h' L' => dops P tab ops rest t' h' L' K) → ∃ l t' h', l.map (·.1) = o :: rest ∧ Tr P ops l (lkO t) (lkO h) ∧ lkO t' = fT (fun _ => true) 0 l (lkO t) ∧ lkO h' = fH (fun _ => true) 0 l (lkO h) ∧ chk (masks ops.toList) ((lgs l).reverse ++ L) = true ∧ K t' h' := fun hb hk => go _ (.inr (.inr ⟨g, want, d, b, hg, hdd, h1, .inr ⟨hb, rfl⟩⟩)) hk
        have step : b = want → stepE P tab o t h (fun e => applyE t h L o.dst e fun t' h' L' => dops P tab ops rest t' h' L' K) → ∃ l t' h', l.map (·.1) = o :: rest ∧ Tr P ops l (lkO t) (lkO h) ∧ lkO t' = fT (fun _ => true) 0 l (lkO t) ∧ lkO h' = fH (fun _ => true) 0 l (lkO h) ∧ chk (masks ops.toList) ((lgs l).reverse ++ L) = true ∧ K t' h' := fun hb hk => by
          obtain ⟨e, k1, k2⟩ := stepE_sound ht hd hk
          exact go e (.inr (.inr ⟨g, want, d, b, hg, hdd, h1, .inl ⟨hb, k1⟩⟩)) k2
        cases want <;> simp only [ASpl] at hk <;> cases b
        · exact step rfl (hk.2 rfl)
        · exact skip (by decide) (hk.1 rfl)
        · exact skip (by decide) (hk.2 rfl)
        · exact step rfl (hk.1 rfl)
      · exact hk.elim
end Go.Proofs.Ytcpgcenlgihmnaa.Abs
/- A region in whatever order: the whole. -/
set_option linter.unusedVariables false
set_option linter.unusedSimpArgs false
namespace Go.Proofs.Ytcpgcenlgihmnaa.Abs
open Go

/-- How many are not listed yet. -/
def unl (listed : Array Bool) : Nat → Nat
  | 0 => 0
  | k + 1 => unl listed k + if listed.getD k false then 0 else 1
theorem unl_set {listed : Array Bool} {i : Nat} (hi : i < listed.size) (h : listed.getD i false = false) : ∀ k, unl (listed.setIfInBounds i true) k + (if i < k then 1 else 0) = unl listed k
  | 0 => by simp [unl]
  | k + 1 => by
    have ih := unl_set hi h k
    simp only [unl]
    by_cases hk : k = i
    · subst hk
      have h1 : (listed.setIfInBounds k true).getD k false = true := by simp [hi]
      rw [h1, h]
      simp at ih ⊢
      omega
    · rw [getD_set_ne false (Ne.symm hk)]
      by_cases hlt : i < k
      · have c1 : (if i < k + 1 then 1 else 0) = 1 := if_pos (by omega)
        rw [if_pos hlt] at ih
        rw [c1]
        omega
      · have c1 : (if i < k + 1 then 1 else 0) = 0 := if_neg (by omega)
        rw [if_neg hlt] at ih
        rw [c1]
        omega
theorem unl_zero {listed : Array Bool} : ∀ {k : Nat}, unl listed k = 0 → ∀ j, j < k → listed.getD j false = true
  | k + 1, h, j, hj => by
    simp only [unl] at h
    by_cases hk : j = k
    · subst hk
      cases hb : listed.getD j false with
      | true => rfl
      | false => rw [hb] at h; simp at h
    · exact unl_zero (k := k) (by omega) j (by omega)

section
variable {P : Program} {ops : Array Oper} {l : List (Oper × Eff)} {T0 : Nat → Option LV} {H0 : Nat → Option Res}

theorem inO_of {d : Option Nat} {s : Nat} {L : List Nat} (hd : d = some s) (h : s ∈ L) : inO d L = true := by subst hd; exact inL_t h
theorem mem_tmps {n : Nat} : ∀ {xs : List Operand}, .tmp n ∈ xs → n ∈ tmps xs
  | .tmp m :: xs, h => by
    rcases List.mem_cons.1 h with h | h
    · cases h; simp [tmps]
    · simp [tmps, mem_tmps h]
  | .const v :: xs, h => by
    rcases List.mem_cons.1 h with h | h
    · cases h
    · exact mem_tmps (xs := xs) h
  | .func f :: xs, h => by
    rcases List.mem_cons.1 h with h | h
    · cases h
    · exact mem_tmps (xs := xs) h
  | .global g :: xs, h => by
    rcases List.mem_cons.1 h with h | h
    · cases h
    · exact mem_tmps (xs := xs) h

theorem any_sound {F : Fr} {Q : Exit → Act → World → Prop} (hl : l.map (·.1) = ops.toList) (htr : Tr P ops l T0 H0) (hok : drawOk ops.toList = true) (hck : chk (masks ops.toList) (lgs l).reverse = true) (hN : ∀ o ∈ ops.toList, ∀ n, o.dst = some n → n < F.N) (d0 : List Deferred)
    (hq : ∀ S γ a w, a.defers = d0 → ModF F S γ (fT (fun _ => true) 0 l T0) (fH (fun _ => true) 0 l H0) a.tmps w → Q .normal a w) :
    ∀ (fuel : Nat) (listed : Array Bool) (a : Act) (w : World) (S : Nat → Prop) (γ : Nat → GV), listed.size = ops.size → (∀ i j, Before ops.toList i j → listed.getD j false = true → listed.getD i false = true) → unl listed ops.size ≤ fuel → a.defers = d0 →
      ModF F S γ (fT (fun j => listed.getD j false) 0 l T0) (fH (fun j => listed.getD j false) 0 l H0) a.tmps w → wpAny P .any ops Q fuel listed a w := by
  have hlen : l.length = ops.size := by have := congrArg List.length hl; simpa using this
  have opAt : ∀ {j : Nat} {p : Oper × Eff}, l[j]? = some p → ops.toList[j]? = some p.1 := fun {j p} h => by rw [← hl]; simp [h]
  simp only [drawOk, Bool.and_eq_true] at hok
  have back := backOk_spec _ 0 hok.1
  -- two that are not ordered do not meet
  have slots : ∀ {i j : Nat} {p q : Oper × Eff}, i < j → l[i]? = some p → l[j]? = some q → ¬ Before ops.toList i j → conf ops.toList p.1 q.1 = false := fun {i j p q} hij hi hj hb => by
    have := pairsAll_spec ops.toList [] hok.2 i j p.1 q.1 (by simpa using hij) (by simpa using opAt hi) (opAt hj)
    rcases this with h | h
    · exact h
    · exact (hb (masks_spec (by simpa using h))).elim
  have keys : ∀ {i j : Nat} {p q : Oper × Eff}, i < j → l[i]? = some p → l[j]? = some q → ¬ Before ops.toList i j → meet (keysOf q.2.puts) (p.2.tk ++ keysOf p.2.puts) = false ∧ meet (keysOf p.2.puts) (q.2.tk ++ keysOf q.2.puts) = false := fun {i j p q} hij hi hj hb => by
    have hx : (lgs l)[i]? = some (p.2.tk ++ keysOf p.2.puts, keysOf p.2.puts) := by simp [lgs, hi]
    have hy : (lgs l)[j]? = some (q.2.tk ++ keysOf q.2.puts, keysOf q.2.puts) := by simp [lgs, hj]
    have := chk_spec _ hck i j _ _ hij (by simpa using hx) (by simpa using hy)
    rcases this with h | h
    · exact h
    · exact (hb (masks_spec h)).elim
  have conf_spec : ∀ {p q : Oper}, conf ops.toList p q = false → (∀ s, p.dst = some s → s ∉ looks ops.toList q) ∧ (∀ s, q.dst = some s → s ∉ looks ops.toList p) ∧ (∀ s, p.dst = some s → q.dst ≠ some s) := fun {p q} h => by
    simp only [conf, Bool.or_eq_false_iff] at h
    refine ⟨fun s hs hm => ?_, fun s hs hm => ?_, fun s hs hq => ?_⟩
    · have := inO_of hs hm; rw [h.1.1] at this; cases this
    · have := inO_of hs hm; rw [h.1.2] at this; cases this
    · have h2 := h.2; rw [hs, hq] at h2; simp [sameO] at h2
  -- all are listed, where none is ready
  have done : ∀ {listed : Array Bool}, listed.size = ops.size → Region.ready .any ops listed = [] → ∀ j, j < ops.size → listed.getD j false = true := fun {listed} hsz hr j => by
    induction j using Nat.strongRecOn with
    | _ j ih =>
      intro hj
      cases hb : listed.getD j false with
      | true => rfl
      | false =>
        have hm : j ∈ Region.ready .any ops listed := mem_ready.2 ⟨by
          have hj' : j < listed.size := by omega
          simp [hj'] at hb ⊢
          exact hb, ops[j], by simp [hj], fun e he hbd => by
          have := back j ops[j] (by simp [hj]) e he hbd
          exact ih e.on (by omega) (by omega)⟩
        rw [hr] at hm
        cases hm
  have final : ∀ {listed : Array Bool} {a : Act} {w : World} {S : Nat → Prop} {γ : Nat → GV}, (∀ j, j < ops.size → listed.getD j false = true) → a.defers = d0 → ModF F S γ (fT (fun j => listed.getD j false) 0 l T0) (fH (fun j => listed.getD j false) 0 l H0) a.tmps w → Q .normal a w := fun {listed a w S γ} hall hd M => by
    have hlt : ∀ {j : Nat} {p : Oper × Eff}, l[j]? = some p → j < ops.size := fun {j p} h => by have := (List.getElem?_eq_some_iff.1 h).1; omega
    have e1 : fT (fun j => listed.getD j false) 0 l T0 = fT (fun _ => true) 0 l T0 := by
      funext s
      exact fT_agree l 0 T0 T0 rfl fun j p hp _ => by simpa using hall j (hlt hp)
    have e2 : fH (fun j => listed.getD j false) 0 l H0 = fH (fun _ => true) 0 l H0 := by
      funext s
      exact fH_agree l 0 H0 H0 rfl fun j p hp _ => by simpa using hall j (hlt hp)
    rw [e1, e2] at M
    exact hq S γ a w hd M
  intro fuel
  induction fuel with
  | zero =>
    intro listed a w S γ hsz hcl hu hd M
    have hall := unl_zero (Nat.le_zero.1 hu)
    refine ⟨?_, final hall hd M⟩
    cases hr : Region.ready .any ops listed with
    | nil => rfl
    | cons j rs =>
      have hm : j ∈ Region.ready .any ops listed := by rw [hr]; simp
      obtain ⟨h0, o, ho, _⟩ := mem_ready.1 hm
      have hj : j < ops.size := (Array.getElem?_eq_some_iff.1 ho).1
      have := hall j hj
      have hj' : j < listed.size := by omega
      simp [hj'] at h0 this
      rw [h0] at this
      cases this
  | succ fuel ih =>
    intro listed a w S γ hsz hcl hu hd M
    refine ⟨fun hr => final (done hsz hr) hd M, fun i hi => ?_⟩
    obtain ⟨h0, o, ho, hedges⟩ := mem_ready.1 hi
    have hlt : i < ops.size := (Array.getElem?_eq_some_iff.1 ho).1
    have hlt' : i < listed.size := by omega
    have hun : listed.getD i false = false := by simp [hlt'] at h0 ⊢; exact h0
    have hil : i < l.length := by omega
    obtain ⟨e, he⟩ : ∃ e, l[i]? = some (o, e) := by
      have h1 := opAt (List.getElem?_eq_getElem hil)
      have h2 : ops.toList[i]? = some o := by simpa using ho
      rw [h2] at h1
      cases h1
      exact ⟨l[i].2, List.getElem?_eq_getElem hil⟩
    have hoL : ops.toList[i]? = some o := by simpa using ho
    -- what it waits for is listed; what waits for it is not
    have before : ∀ j, Before ops.toList j i → listed.getD j false = true := fun j hb => by
      cases hb with
      | edge h he' hb' => rw [hoL] at h; cases h; exact hedges _ he' hb'
      | step h he' hb' hb2 => rw [hoL] at h; cases h; exact hcl _ _ hb2 (hedges _ he' hb')
    have behind : ∀ j, Before ops.toList i j → listed.getD j false = false := fun j hb => by
      cases h : listed.getD j false with
      | false => rfl
      | true => have := hcl i j hb h; rw [hun] at this; cases this
    have hst : Stp P ops o (fT (fun j => decide (j < i)) 0 l T0) (fH (fun j => decide (j < i)) 0 l H0) e := htr.get l T0 H0 i (o, e) he
    -- the slots it looks at
    have agT : ∀ s, s ∈ looks ops.toList o → fT (fun j => listed.getD j false) 0 l T0 s = fT (fun j => decide (j < i)) 0 l T0 s := fun s hs => fT_agree l 0 T0 T0 rfl fun j p hp hdst => by
      simp only [Nat.zero_add]
      rcases Nat.lt_trichotomy j i with h | h | h
      · rw [decide_eq_true h]
        by_cases hb : Before ops.toList j i
        · exact before j hb
        · exact ((conf_spec (slots h hp he hb)).1 s hdst hs).elim
      · subst h; simp [hun]
      · rw [decide_eq_false (by omega)]
        by_cases hb : Before ops.toList i j
        · exact behind j hb
        · exact ((conf_spec (slots h he hp hb)).2.1 s hdst hs).elim
    have agH : ∀ k, k ∈ e.tk ++ keysOf e.puts → fH (fun j => listed.getD j false) 0 l H0 k = fH (fun j => decide (j < i)) 0 l H0 k := fun k hk => fH_agree l 0 H0 H0 rfl fun j p hp hin => by
      simp only [Nat.zero_add]
      rcases Nat.lt_trichotomy j i with h | h | h
      · rw [decide_eq_true h]
        by_cases hb : Before ops.toList j i
        · exact before j hb
        · exact (meet_spec (keys h hp he hb).2 hin hk).elim
      · subst h; simp [hun]
      · rw [decide_eq_false (by omega)]
        by_cases hb : Before ops.toList i j
        · exact behind j hb
        · exact (meet_spec (keys h he hp hb).1 hin hk).elim
    -- behind it
    have setX : ∀ j, (listed.setIfInBounds i true).getD j false = if j = i then true else listed.getD j false := fun j => by
      by_cases hj : j = i
      · subst hj; simp [hlt']
      · rw [if_neg hj, getD_set_ne false (Ne.symm hj)]
    have newT : fT (fun j => (listed.setIfInBounds i true).getD j false) 0 l T0 = updT (fT (fun j => listed.getD j false) 0 l T0) o.dst e.lv := by
      funext s
      by_cases hs : o.dst = some s
      · rw [fT_last l 0 i T0 (o, e) he hs (by simp [hlt']) fun j' p' hj hp hd => ?_]
        · simp [updT, hs]
        · simp only [Nat.zero_add]
          rw [setX, if_neg (by omega)]
          by_cases hb : Before ops.toList i j'
          · exact behind j' hb
          · exact ((conf_spec (slots hj he hp hb)).2.2 s hs hd).elim
      · simp only [updT, if_neg hs]
        exact fT_agree l 0 T0 T0 rfl fun j p hp hd => by
          simp only [Nat.zero_add]
          rw [setX, if_neg]
          rintro rfl
          rw [he] at hp
          cases hp
          exact hs hd
    have newH : fH (fun j => (listed.setIfInBounds i true).getD j false) 0 l H0 = updH e.puts (fH (fun j => listed.getD j false) 0 l H0) := by
      funext s
      by_cases hs : s ∈ keysOf e.puts
      · rw [fH_last (fH (fun j => listed.getD j false) 0 l H0) l 0 i H0 (o, e) he hs (by simp [hlt']) fun j' p' hj hp hd => ?_]
        simp only [Nat.zero_add]
        rw [setX, if_neg (by omega)]
        by_cases hb : Before ops.toList i j'
        · exact behind j' hb
        · exact (meet_spec (keys hj he hp hb).1 hd (List.mem_append.2 (.inr hs))).elim
      · rw [updH_out _ _ _ hs]
        exact fH_agree l 0 H0 H0 rfl fun j p hp hd => by
          simp only [Nat.zero_add]
          rw [setX, if_neg]
          rintro rfl
          rw [he] at hp
          cases hp
          exact hs hd
    have hcl' : ∀ i' j, Before ops.toList i' j → (listed.setIfInBounds i true).getD j false = true → (listed.setIfInBounds i true).getD i' false = true := fun i' j hb hj => by
      rw [setX] at hj ⊢
      by_cases h1 : i' = i
      · rw [if_pos h1]
      · rw [if_neg h1]
        by_cases h2 : j = i
        · subst h2; exact before i' hb
        · rw [if_neg h2] at hj; exact hcl i' j hb hj
    have hu' : unl (listed.setIfInBounds i true) ops.size ≤ fuel := by
      have := unl_set hlt' hun ops.size
      rw [if_pos hlt] at this
      omega
    have hNo : ∀ n, o.dst = some n → n < F.N := hN o (List.mem_of_getElem? hoL)
    have next : ∀ (S' : Nat → Prop) (γ' : Nat → GV) (a' : Act) (w' : World), a'.defers = a.defers → ModF F S' γ' (updT (fT (fun j => listed.getD j false) 0 l T0) o.dst e.lv) (updH e.puts (fH (fun j => listed.getD j false) 0 l H0)) a'.tmps w' → wpAny P .any ops Q fuel (listed.setIfInBounds i true) a' w' := fun S' γ' a' w' hd' M' => by
      rw [← newT, ← newH] at M'
      exact ih _ a' w' S' γ' (by simpa using hsz) hcl' hu' (hd'.trans hd) M'
    have doing : Does P o (fT (fun j => decide (j < i)) 0 l T0) (fH (fun j => decide (j < i)) 0 l H0) e → o.wp P a w (wpAny P .any ops Q fuel (listed.setIfInBounds i true)) Q := fun hdo => by
      refine hdo _ _ (fun x hx => ?_) (fun k hk => agH k (List.mem_append.2 (.inl hk))) F S γ a w _ Q hNo M next
      cases x with
      | tmp n =>
        refine agT n ?_
        have := mem_tmps hx
        unfold looks
        split
        · split
          · simp [this]
          · exact this
        · exact this
      | const v => rfl
      | func f => rfl
      | global g => rfl
    unfold wpOp
    simp only [ho]
    rcases hst with ⟨hg, hdo⟩ | ⟨g, want, d, hg, hdd, hb, rfl⟩ | ⟨g, want, d, b, hg, hdd, hb, hst⟩
    · rw [if_pos (by simp [Region.wanted, hg])]
      exact .inl (doing hdo)
    · have hgd : d ∈ looks ops.toList o := by
        have hdd' : (ops.toList[g]?).bind (·.dst) = some d := by simpa using hdd
        simp only [looks, hg, hdd', List.mem_cons, true_or]
      have hb' := hb
      rw [← agT d hgd] at hb'
      rw [M.guardSk hg hdd hb', if_neg (by decide)]
      exact next S γ _ w (by cases o.dst <;> rfl) (M.put o.dst hNo .sk)
    · have hgd : d ∈ looks ops.toList o := by
        have hdd' : (ops.toList[g]?).bind (·.dst) = some d := by simpa using hdd
        simp only [looks, hg, hdd', List.mem_cons, true_or]
      have hb' := hb
      rw [← agT d hgd] at hb'
      rw [M.guard hg hdd hb']
      rcases hst with ⟨rfl, hdo⟩ | ⟨hne, rfl⟩
      · rw [if_pos (by simp)]
        exact .inl (doing hdo)
      · rw [if_neg (by simpa using hne)]
        exact next S γ _ w (by cases o.dst <;> rfl) (M.put o.dst hNo .sk)
end
end Go.Proofs.Ytcpgcenlgihmnaa.Abs
/- The evaluator tells what code does. -/
set_option linter.unusedVariables false
set_option linter.unusedSimpArgs false
namespace Go.Proofs.Ytcpgcenlgihmnaa.Abs
open Go

/-- What a program that runs it may look at without a thought: slots there are, orders that bind. -/
def opsOk (N : Nat) : List Oper → Bool
  | [] => true
  | o :: ops => dstOk o && (match o.dst with | some d => Nat.blt d N | none => true) && opsOk N ops
def codeOk (N : Nat) : Code → Bool
  | .skip | .exit _ | .ret => true
  | .region _ ops dr => opsOk N ops.toList && (match dr with | true => drawOk ops.toList | false => true)
  | .seq a b => codeOk N a && codeOk N b
  | .cond _ a b => codeOk N a && codeOk N b
  | .block _ a => codeOk N a
  | .loop a => codeOk N a
  | _ => false
theorem opsOk_spec {N : Nat} : ∀ {ops : List Oper}, opsOk N ops = true → ∀ o ∈ ops, dstOk o = true ∧ ∀ n, o.dst = some n → n < N
  | [], _, o, ho => by cases ho
  | p :: ops, h, o, ho => by
    simp only [opsOk, Bool.and_eq_true] at h
    rcases List.mem_cons.1 ho with rfl | ho
    · refine ⟨h.1.1, fun n hn => ?_⟩
      have h2 := h.1.2
      rw [hn] at h2
      exact Nat.le_of_ble_eq_true h2
    · exact opsOk_spec h.2 o ho

theorem mxO_le {N : Nat} : ∀ {ops : List Oper}, opsOk N ops = true → mxO ops ≤ N
  | [], _ => Nat.zero_le _
  | o :: ops, h => by
    simp only [opsOk, Bool.and_eq_true] at h
    have ih := mxO_le h.2
    simp only [mxO]
    split
    · rename_i d hd
      have h2 := h.1.2
      rw [hd] at h2
      have := Nat.le_of_ble_eq_true h2
      omega
    · exact ih
theorem mxC_le {N : Nat} : ∀ (c : Code), codeOk N c = true → mxC c ≤ N := by
  intro c
  induction c with
  | region id ops dr => intro h; simp only [codeOk, Bool.and_eq_true] at h; exact mxO_le h.1
  | seq a b iha ihb => intro h; simp only [codeOk, Bool.and_eq_true] at h; have := iha h.1; have := ihb h.2; simp only [mxC]; omega
  | cond c a b iha ihb => intro h; simp only [codeOk, Bool.and_eq_true] at h; have := iha h.1; have := ihb h.2; simp only [mxC]; omega
  | block id a ih => intro h; exact ih h
  | loop a ih => intro h; exact ih h
  | _ => intro _; simp [mxC]

section
variable {P : Program} {tab : Tab} {ann : List Nat} {F : Fr} {d0 : List Deferred}

theorem ModF.drawn {S : Nat → Prop} {γ : Nat → GV} {T : Nat → Option LV} {H : Nat → Option Res} {tm : Array Value} {w : World} (M : ModF F S γ T H tm w) (n : Nat) (hn : w.drawn ≤ n) : ModF F S γ T H tm { w with drawn := n } := by
  have kp : Keeps γ γ H H := ⟨fun k r h => ⟨r, h, Like.refl r, fun _ => .rfl'⟩⟩
  exact M.step (E := fun _ => False) (w' := { w with drawn := n }) ⟨rfl, rfl, ⟨rfl, hn⟩, Nat.le_refl _, fun _ _ _ => rfl, fun _ h => h, fun b hb => ⟨M.stay b hb, .inl hb⟩⟩ (fun _ h => h.elim) kp
    ⟨fun k r _ h => RepR.mono (w := w) (fun _ h => h) (fun _ _ => rfl) kp rfl (fun _ _ _ => rfl) (M.own.rep k r trivial h), fun k r b _ h hn hb => M.own.out k r b trivial h hn hb, fun k k' r r' b _ _ => M.own.apart k k' r r' b trivial trivial⟩ M.blk

theorem wp_loop2 {c : Code} {Q : Exit → Act → World → Prop} (I : Nat → Act → World → Prop) (round : ∀ n a w, I n a w → c.wp P (Exit.then (fun a' w' => ∃ m, m < n ∧ I m a' w') Q) a w) : ∀ n a w, I n a w → (Code.loop c).wp P Q a w := by
  intro n₀ a w h₀ b k cs
  have key : ∀ n a w, I n a w → ∃ e a' w', Q e a' w' ∧ Arrives P (lone (b.at a (.code c :: .inLoop c :: k)) cs w) b k cs e a' w' := by
    intro n
    induction n using Nat.strongRecOn with
    | _ n ih =>
      intro a w hI
      obtain ⟨e, a₁, w₁, hq, harr⟩ := round n a w hI b (.inLoop c :: k) cs
      cases e with
      | normal =>
        obtain ⟨m, hlt, hI₁⟩ := hq
        obtain ⟨e₂, a₂, w₂, hq₂, harr₂⟩ := ih m hlt a₁ w₁ hI₁
        exact ⟨e₂, a₂, w₂, hq₂, .of_steps (Steps.trans harr (.one step_inLoop)) harr₂⟩
      | exit id => exact ⟨_, a₁, w₁, hq, .pass (x := .inLoop c) rfl (fun _ _ => .inl (by simp)) harr⟩
      | goto l => exact ⟨_, a₁, w₁, hq, .pass (x := .inLoop c) rfl (fun _ _ => .inl (by simp)) harr⟩
      | ret => exact ⟨_, a₁, w₁, hq, .pass (x := .inLoop c) rfl (fun _ _ => .inl (by simp)) harr⟩
      | panic ch => exact ⟨_, a₁, w₁, hq, .pass (x := .inLoop c) rfl (fun _ _ => .inl (by simp)) harr⟩
      | outgrown => exact ⟨_, a₁, w₁, hq, .pass (x := .inLoop c) rfl (fun _ _ => .inl (by simp)) harr⟩
  obtain ⟨e, a', w', hq, harr⟩ := key n₀ a w h₀
  exact ⟨e, a', w', hq, .of_steps (.one step_loop) harr⟩

theorem stop_go {K : KT} {id : Nat} {t : TS} {h : HS} {a : Act} {w : World} (hk : match inL id ann with | true => AStop t h fun t h => K .normal t h | false => K .normal t h) (hd : a.defers = d0) (M : Mod F t h a.tmps w) : post F d0 K .normal a w := by
  split at hk
  · unfold AStop at hk
    obtain ⟨t', h', he, hk⟩ := hk
    exact ⟨hd, t', h', hk, he F _ _ M⟩
  · exact ⟨hd, t, h, hk, M⟩

theorem awp_sound (ht : TabOk P tab) (hm : P.follows .mixedOrders = true) : ∀ (c : Code) (t : TS) (h : HS) (K : KT) (a : Act) (w : World), codeOk F.N c = true → awp P tab ann c t h K → Mod F t h a.tmps w → a.defers = d0 → c.wp P (post F d0 K) a w := by
  intro c
  induction c with
  | skip => intro t h K a w _ hk M hd; exact wp_skip ⟨hd, t, h, hk, M⟩
  | exit id => intro t h K a w _ hk M hd; exact wp_exit ⟨hd, t, h, hk, M⟩
  | ret => intro t h K a w _ hk M hd; exact wp_ret ⟨hd, t, h, hk, M⟩
  | region id ops dr =>
    intro t h K a w hc hk M hd
    simp only [codeOk, Bool.and_eq_true] at hc
    have hops := opsOk_spec hc.1
    obtain ⟨S, γ, M⟩ := M
    cases dr with
    | false =>
      exact wp_region_list (aops_sound ht ops.toList t h _ F S γ a w hops hk M fun t' h' S' γ' a' w' k1 k2 k3 => stop_go k1 (k2.trans hd) ⟨S', γ', k3⟩)
    | true =>
      obtain ⟨l, t', h', e1, e2, e3, e4, e5, hk'⟩ := dops_trace ht ops.toList t h [] _ (fun o ho => (hops o ho).1) hk
      refine wp_region_any hm (any_sound e1 e2 hc.2 (by simpa using e5) (fun o ho => (hops o ho).2) d0 (fun S' γ' a' w' hd' M' => stop_go hk' hd' ⟨S', γ', by rw [e3, e4]; exact M'⟩) ops.size _ a _ S γ (by simp) (fun i j _ hj => ?_) ?_ hd ?_)
      · simp only [Array.getD_eq_getD_getElem?, Array.getElem?_replicate] at hj
        split at hj <;> simp at hj
      · have : ∀ (lst : Array Bool) (k : Nat), unl lst k ≤ k := fun lst k => by
          induction k with
          | zero => simp [unl]
          | succ k ih => simp only [unl]; split <;> omega
        exact this _ _
      · have e0 : (fun j => (Array.replicate ops.size false).getD j false) = fun _ => false := by
          funext j
          simp only [Array.getD_eq_getD_getElem?, Array.getElem?_replicate]
          split <;> rfl
        rw [e0, fT_none, fH_none]
        exact M.drawn _ (Nat.le_succ _)
  | seq x y ihx ihy =>
    intro t h K a w hc hk M hd
    simp only [codeOk, Bool.and_eq_true] at hc
    refine wp_seq (Code.wp_mono (fun e a' w' hq => ?_) (ihx t h _ a w hc.1 hk M hd))
    cases e with
    | normal => obtain ⟨hd', t', h', hk', M'⟩ := hq; exact ihy t' h' K a' w' hc.2 hk' M' hd'
    | exit i => exact hq
    | ret => exact hq
    | goto l => exact hq
    | panic ch => exact hq
    | outgrown => exact hq
  | cond c x y ihx ihy =>
    intro t h K a w hc hk M hd
    simp only [codeOk, Bool.and_eq_true] at hc
    simp only [awp, ev_iff, boolL_iff] at hk
    obtain ⟨l, h1, b, rfl, hk⟩ := hk
    unfold ASpl at hk
    obtain ⟨S, γ, MF⟩ := M
    refine wp_cond (t := b) (MF.eval h1).bool_inv ?_
    cases b with
    | true => exact ihx t h K a w hc.1 (hk.1 rfl) ⟨S, γ, MF⟩ hd
    | false => exact ihy t h K a w hc.2 (hk.2 rfl) ⟨S, γ, MF⟩ hd
  | block id x ih =>
    intro t h K a w hc hk M hd
    refine wp_block (Code.wp_mono (fun e a' w' hq => ?_) (ih t h _ a w hc hk M hd))
    cases e with
    | exit i =>
      obtain ⟨hd', t', h', hk', M'⟩ := hq
      simp only [Ex.inBlock] at hk'
      simp only [Exit.inBlock]
      split at hk'
      · rename_i hb
        rw [if_pos (beq_t hb)]
        exact ⟨hd', t', h', hk', M'⟩
      · rename_i hb
        rw [if_neg (beq_f hb)]
        exact ⟨hd', t', h', hk', M'⟩
    | normal => exact hq
    | ret => exact hq
    | goto l => exact hq
    | panic ch => exact hq
    | outgrown => exact hq
  | loop x ih =>
    intro t h K a w hc hk M hd
    simp only [awp] at hk
    unfold ALoop at hk
    rcases hk with ⟨ι, I, It, Ih, μ, i, hi, h1, h2⟩ | hk
    case inr =>
      unfold AHand at hk
      exact hk F d0 a w (mxC_le (.loop x) hc) M hd
    refine wp_loop2 (fun n a w => ∃ i, I i ∧ μ i = n ∧ a.defers = d0 ∧ Mod F (It i) (Ih i) a.tmps w) (fun n a w hI => ?_) (μ i) a w ⟨i, hi, rfl, hd, h1 F _ _ M⟩
    obtain ⟨i, hi, rfl, hd', M'⟩ := hI
    refine Code.wp_mono (fun e a' w' hq => ?_) (ih (It i) (Ih i) _ a w hc (h2 i hi) M' hd')
    cases e with
    | normal =>
      obtain ⟨hd2, t', h', hb, M2⟩ := hq
      simp only at hb
      unfold ABack at hb
      obtain ⟨j, hj, he, hlt⟩ := hb
      exact ⟨μ j, hlt, j, hj, rfl, hd2, he F _ _ M2⟩
    | exit i => exact hq
    | ret => exact hq
    | goto l => exact hq
    | panic ch => exact hq
    | outgrown => exact hq
  | _ => intro t h K a w hc; simp [codeOk] at hc
end
end Go.Proofs.Ytcpgcenlgihmnaa.Abs
/- A state told otherwise; a function's contract. -/
set_option linter.unusedVariables false
set_option linter.unusedSimpArgs false
namespace Go.Proofs.Ytcpgcenlgihmnaa.Abs
open Go

/-- A new key's old one. -/
def rn : List (Nat × Nat) → Nat → Nat
  | [], k => k
  | (k', k) :: f, j => match Nat.beq k' j with | true => k | false => rn f j
/-- All its rows are there: as a map that stays. -/
def frz (es : Nat) : List (List AV × Option (List (List AV))) → Option (List (List AV × List AV))
  | [] => some []
  | (k, some xs) :: m => (frz es m).map fun r => (k, [.lst es xs]) :: r
  | (_, none) :: _ => none
@[irreducible] def AFrz (es : Nat) (m : List (List AV × Option (List (List AV)))) (m' : List (List AV × List AV)) (K : Prop) : Prop := (∃ m1, frz es m = some m1 ∧ m1.Perm m') ∧ K
def natK (a b : Nat) (K : Prop) : Prop := match Nat.beq a b with | true => K | false => False
def inK (b : Bool) (K : Prop) : Prop := match b with | true => K | false => False

/-- A simple value told otherwise. -/
def cv1 (h : HS) (f : List (Nat × Nat)) (ks born : List Nat) (h' : HS) (l l' : LV) (K : Prop) : Prop :=
  match l, l' with
  | _, .un => K
  | .pv a, .pv a' => AEq a a' K
  | .nl, .nl => K
  | .nl, .pv (.lst _ xs) => AEq xs [] K
  | .nl, .rw k' m => inK (inL k' born) (natK m 0 (lk k' (fun r => match r with | .row _ xs => AEq xs [] K | _ => False) h'))
  | .fn g [], .pv (.fn g') => natK g g' K
  | .rw k m, .rw k' m' => inK (!(inL k' born)) (natK (rn f k') k (AEq m m' (lk k' (fun r => match r with | .row _ _ => K | _ => False) h')))
  | .rw k m, .pv (.lst es ys) => inK (inL k ks) (lk k (fun r => match r with | .row e xs => natK e es (AEq ys (xs.take m) K) | _ => False) h)
  | .rv k lo m, .pv (.lst es ys) => inK (inL k ks) (lk k (fun r => match r with | .row e xs => natK e es (AEq ys ((xs.take m).drop lo) K) | _ => False) h)
  | .bx k o, .bx k' o' => inK (!(inL k' born)) (natK (rn f k') k (natK o o' (lk k' (fun r => match r with | .box _ => K | _ => False) h')))
  | .mr k, .mr k' => inK (!(inL k' born)) (natK (rn f k') k (lk k' (fun r => match r with | .mp _ => K | .mo _ _ => K | _ => False) h'))
  | .mr k, .pv (.mp m') => inK (inL k ks) (lk k (fun r => match r with | .mp m => APerm m m' K | .mo es m => AFrz es m m' K | _ => False) h)
  | .it k, .it k' => inK (!(inL k' born)) (natK (rn f k') k (lk k' (fun r => match r with | .it _ _ => K | _ => False) h'))
  | .rv k lo m, .rv k' lo' m' => inK (!(inL k' born)) (natK (rn f k') k (AEq lo lo' (AEq m m' (lk k' (fun r => match r with | .row _ _ => K | _ => False) h'))))
  | .ep c o, .ep c' o' => AEq c c' (natK o o' K)
  | _, _ => False
def cvs (h : HS) (f : List (Nat × Nat)) (ks born : List Nat) (h' : HS) : List LV → List LV → Prop → Prop
  | [], [], K => K
  | l :: ls, l' :: ls', K => cv1 h f ks born h' l l' (cvs h f ks born h' ls ls' K)
  | _, _, _ => False
def cv (h : HS) (f : List (Nat × Nat)) (ks born : List Nat) (h' : HS) (l l' : LV) (K : Prop) : Prop :=
  match l, l' with
  | .ag cs, .ag cs' => cvs h f ks born h' cs cs' K
  | .tu cs, .tu cs' => cvs h f ks born h' cs cs' K
  | .fn g cs, .fn g' cs' => natK g g' (cvs h f ks born h' cs cs' K)
  | l, l' => cv1 h f ks born h' l l' K
def entT (h : HS) (f : List (Nat × Nat)) (ks born : List Nat) (h' : HS) (t : TS) : TS → Prop → Prop
  | [], K => K
  | (n, l') :: r, K => lk n (fun l => cv h f ks born h' l l' (entT h f ks born h' t r K)) t
def entR (h : HS) (f : List (Nat × Nat)) (ks born : List Nat) (h' : HS) : HS → Prop → Prop
  | [], K => K
  | (k', r') :: rest, K => match inL k' born with
    | true => (match r' with | .row _ xs => AEq xs [] (entR h f ks born h' rest K) | _ => False)
    | false => match r' with
      | .dead => entR h f ks born h' rest K
      | r' => inK (!(inL (rn f k') ks)) (lk (rn f k') (fun r => match r, r' with
        | .row es xs, .row es' xs' => natK es es' (AEq xs' xs (entR h f ks born h' rest K))
        | .box cs, .box cs' => cvs h f ks born h' cs cs' (entR h f ks born h' rest K)
        | .mp m, .mp m' => APerm m m' (entR h f ks born h' rest K)
        | .mp [], .mo _ [] => entR h f ks born h' rest K
        | .mo es m, .mo es' m' => natK es es' (APerm m m' (entR h f ks born h' rest K))
        | .it m _, .it m' none => APerm m m' (entR h f ks born h' rest K)
        | _, _ => False) h)
/-- The keys to freeze are there. -/
def entK (h : HS) : List Nat → Prop → Prop
  | [], K => K
  | k :: ks, K => lk k (fun r => match r with | .row _ _ => entK h ks K | .mp _ => entK h ks K | .mo _ _ => entK h ks K | _ => False) h
def nodupB : List Nat → Bool
  | [] => true
  | k :: l => !(inL k l) && nodupB l
def isDead (k : Nat) : HS → Bool
  | [] => false
  | (j, r) :: l => match Nat.beq j k with | true => (match r with | .dead => true | _ => false) | false => isDead k l
def liveK : HS → List Nat
  | [] => []
  | (_, .dead) :: l => liveK l
  | (k, _) :: l => k :: liveK l
/-- The frame's own keys stay. -/
def ownB (f : List (Nat × Nat)) (born : List Nat) (h' : HS) : HS → Bool
  | [] => true
  | (k, _) :: r => (Nat.blt k 10000 || Nat.ble 20000 k || isDead k h' || (Nat.beq (rn f k) k && !(inL k born) && inL k (keysOf h'))) && ownB f born h' r
def bornB (born : List Nat) : Bool := true
def entP (f : List (Nat × Nat)) (ks born : List Nat) (t : TS) (h : HS) (t' : TS) (h' : HS) : Prop :=
  inK (nodupB ((liveK h').map (rn f)) && ownB f born h' h && bornB born) (entK h ks (entR h f ks born h' h' (entT h f ks born h' t t' True)))

/-! What it says. -/
section
variable {H H' : Nat → Option Res} {f : List (Nat × Nat)} {ks born : List Nat}
inductive Cv1 (H : Nat → Option Res) (f : List (Nat × Nat)) (ks born : List Nat) (H' : Nat → Option Res) : LV → LV → Prop
  | un (l : LV) : Cv1 H f ks born H' l .un
  | pv (a : AV) : Cv1 H f ks born H' (.pv a) (.pv a)
  | nl : Cv1 H f ks born H' .nl .nl
  | nlpv (es : Nat) : Cv1 H f ks born H' .nl (.pv (.lst es []))
  | nlrw (k' es : Nat) (h : H' k' = some (.row es [])) (hb : k' ∈ born) : Cv1 H f ks born H' .nl (.rw k' 0)
  | fnpv (g : Nat) : Cv1 H f ks born H' (.fn g []) (.pv (.fn g))
  | rw (k' m es : Nat) (xs : List (List AV)) (h : H' k' = some (.row es xs)) (hb : k' ∉ born) : Cv1 H f ks born H' (.rw (rn f k') m) (.rw k' m)
  | rv (k' lo m es : Nat) (xs : List (List AV)) (h : H' k' = some (.row es xs)) (hb : k' ∉ born) : Cv1 H f ks born H' (.rv (rn f k') lo m) (.rv k' lo m)
  | rwpv (k m es : Nat) (xs : List (List AV)) (h : H k = some (.row es xs)) (hk : k ∈ ks) : Cv1 H f ks born H' (.rw k m) (.pv (.lst es (xs.take m)))
  | rvpv (k lo m es : Nat) (xs : List (List AV)) (h : H k = some (.row es xs)) (hk : k ∈ ks) : Cv1 H f ks born H' (.rv k lo m) (.pv (.lst es ((xs.take m).drop lo)))
  | bx (k' o : Nat) (cs : List LV) (h : H' k' = some (.box cs)) (hb : k' ∉ born) : Cv1 H f ks born H' (.bx (rn f k') o) (.bx k' o)
  | mr (k' : Nat) (m : List (List AV × List AV)) (h : H' k' = some (.mp m)) (hb : k' ∉ born) : Cv1 H f ks born H' (.mr (rn f k')) (.mr k')
  | mrpv (k : Nat) (m m' : List (List AV × List AV)) (h : H k = some (.mp m)) (hk : k ∈ ks) (hp : m.Perm m') : Cv1 H f ks born H' (.mr k) (.pv (.mp m'))
  | mopv (k es : Nat) (m : List (List AV × Option (List (List AV)))) (m1 m' : List (List AV × List AV)) (h : H k = some (.mo es m)) (hk : k ∈ ks) (hf : frz es m = some m1) (hp : m1.Perm m') : Cv1 H f ks born H' (.mr k) (.pv (.mp m'))
  | mo (k' es : Nat) (m : List (List AV × Option (List (List AV)))) (h : H' k' = some (.mo es m)) (hb : k' ∉ born) : Cv1 H f ks born H' (.mr (rn f k')) (.mr k')
  | it (k' : Nat) (m : List (List AV × List AV)) (cur : Option (List AV × List AV)) (h : H' k' = some (.it m cur)) (hb : k' ∉ born) : Cv1 H f ks born H' (.it (rn f k')) (.it k')
  | ep (c : List AV) (o : Nat) : Cv1 H f ks born H' (.ep c o) (.ep c o)
def Cvs (H : Nat → Option Res) (f : List (Nat × Nat)) (ks born : List Nat) (H' : Nat → Option Res) (cs cs' : List LV) : Prop := cs.length = cs'.length ∧ ∀ (i : Nat) (c c' : LV), cs[i]? = some c → cs'[i]? = some c' → Cv1 H f ks born H' c c'
inductive Cv (H : Nat → Option Res) (f : List (Nat × Nat)) (ks born : List Nat) (H' : Nat → Option Res) : LV → LV → Prop
  | one {l l' : LV} (h : Cv1 H f ks born H' l l') : Cv H f ks born H' l l'
  | ag {cs cs' : List LV} (h : Cvs H f ks born H' cs cs') : Cv H f ks born H' (.ag cs) (.ag cs')
  | tu {cs cs' : List LV} (h : Cvs H f ks born H' cs cs') : Cv H f ks born H' (.tu cs) (.tu cs')
  | fn {g : Nat} {cs cs' : List LV} (h : Cvs H f ks born H' cs cs') : Cv H f ks born H' (.fn g cs) (.fn g cs')
end

theorem natK_iff {a b : Nat} {K : Prop} : natK a b K ↔ a = b ∧ K := by
  unfold natK
  cases h : Nat.beq a b with
  | true => simp [beq_t h]
  | false => simp [beq_f h]
theorem inK_iff {b : Bool} {K : Prop} : inK b K ↔ b = true ∧ K := by cases b <;> simp [inK]
theorem inL_iff {n : Nat} {l : List Nat} : inL n l = true ↔ n ∈ l := by
  constructor
  · intro h
    cases hb : decide (n ∈ l) with
    | true => exact of_decide_eq_true hb
    | false =>
      have hn := of_decide_eq_false hb
      exfalso
      have : inL n l = false := by
        clear h hb
        induction l with
        | nil => rfl
        | cons k l ih =>
          simp only [List.mem_cons, not_or] at hn
          simp only [inL]
          cases hb : Nat.beq k n with
          | true => exact (hn.1 (beq_t hb).symm).elim
          | false => exact ih hn.2
      rw [h] at this
      cases this
  · exact inL_t

theorem cv1_sound {h h' : HS} {f : List (Nat × Nat)} {ks born : List Nat} {l l' : LV} {K : Prop} (hk : cv1 h f ks born h' l l' K) : Cv1 (lkO h) f ks born (lkO h') l l' ∧ K := by
  unfold cv1 at hk
  split at hk
  · exact ⟨.un _, hk⟩
  · unfold AEq at hk; obtain ⟨rfl, hk⟩ := hk; exact ⟨.pv _, hk⟩
  · exact ⟨.nl, hk⟩
  · unfold AEq at hk; obtain ⟨rfl, hk⟩ := hk; exact ⟨.nlpv _, hk⟩
  · simp only [inK_iff, natK_iff, lk_iff, inL_iff] at hk
    obtain ⟨h1, rfl, r, h2, hk⟩ := hk
    split at hk
    · unfold AEq at hk; obtain ⟨rfl, hk⟩ := hk; exact ⟨.nlrw _ _ h2 h1, hk⟩
    · exact hk.elim
  · rw [natK_iff] at hk; obtain ⟨rfl, hk⟩ := hk; exact ⟨.fnpv _, hk⟩
  · simp only [inK_iff, natK_iff, Bool.not_eq_true'] at hk
    obtain ⟨h1, rfl, hk⟩ := hk
    unfold AEq at hk
    obtain ⟨rfl, hk⟩ := hk
    rw [lk_iff] at hk
    obtain ⟨r, h2, hk⟩ := hk
    split at hk
    · exact ⟨.rw _ _ _ _ h2 (inL_f h1), hk⟩
    · exact hk.elim
  · simp only [inK_iff, lk_iff, inL_iff] at hk
    obtain ⟨h1, r, h2, hk⟩ := hk
    split at hk
    · rw [natK_iff] at hk
      obtain ⟨rfl, hk⟩ := hk
      unfold AEq at hk; obtain ⟨rfl, hk⟩ := hk; exact ⟨.rwpv _ _ _ _ h2 h1, hk⟩
    · exact hk.elim
  · simp only [inK_iff, lk_iff, inL_iff] at hk
    obtain ⟨h1, r, h2, hk⟩ := hk
    split at hk
    · rw [natK_iff] at hk
      obtain ⟨rfl, hk⟩ := hk
      unfold AEq at hk; obtain ⟨rfl, hk⟩ := hk; exact ⟨.rvpv _ _ _ _ _ h2 h1, hk⟩
    · exact hk.elim
  · simp only [inK_iff, natK_iff, Bool.not_eq_true'] at hk
    obtain ⟨h1, rfl, rfl, hk⟩ := hk
    rw [lk_iff] at hk
    obtain ⟨r, h2, hk⟩ := hk
    split at hk
    · exact ⟨.bx _ _ _ h2 (inL_f h1), hk⟩
    · exact hk.elim
  · simp only [inK_iff, natK_iff, Bool.not_eq_true'] at hk
    obtain ⟨h1, rfl, hk⟩ := hk
    rw [lk_iff] at hk
    obtain ⟨r, h2, hk⟩ := hk
    split at hk
    · exact ⟨.mr _ _ h2 (inL_f h1), hk⟩
    · exact ⟨.mo _ _ _ h2 (inL_f h1), hk⟩
    · exact hk.elim
  · simp only [inK_iff, lk_iff, inL_iff] at hk
    obtain ⟨h1, r, h2, hk⟩ := hk
    split at hk
    · unfold APerm at hk; obtain ⟨hp, hk⟩ := hk; exact ⟨.mrpv _ _ _ h2 h1 hp, hk⟩
    · unfold AFrz at hk; obtain ⟨⟨m1, hf, hp⟩, hk⟩ := hk; exact ⟨.mopv _ _ _ m1 _ h2 h1 hf hp, hk⟩
    · exact hk.elim
  · simp only [inK_iff, natK_iff, Bool.not_eq_true'] at hk
    obtain ⟨h1, rfl, hk⟩ := hk
    rw [lk_iff] at hk
    obtain ⟨r, h2, hk⟩ := hk
    split at hk
    · exact ⟨.it _ _ _ h2 (inL_f h1), hk⟩
    · exact hk.elim
  · simp only [inK_iff, natK_iff, Bool.not_eq_true'] at hk
    obtain ⟨h1, rfl, hk⟩ := hk
    unfold AEq at hk
    obtain ⟨rfl, rfl, hk⟩ := hk
    rw [lk_iff] at hk
    obtain ⟨r, h2, hk⟩ := hk
    split at hk
    · exact ⟨.rv _ _ _ _ _ h2 (inL_f h1), hk⟩
    · exact hk.elim
  · unfold AEq at hk
    obtain ⟨rfl, hk⟩ := hk
    rw [natK_iff] at hk
    obtain ⟨rfl, hk⟩ := hk
    exact ⟨.ep _ _, hk⟩
  · exact hk.elim
theorem cvs_sound {h h' : HS} {f : List (Nat × Nat)} {ks born : List Nat} : ∀ {l l' : List LV} {K : Prop}, cvs h f ks born h' l l' K → Cvs (lkO h) f ks born (lkO h') l l' ∧ K
  | [], [], K, hk => ⟨⟨rfl, by simp⟩, hk⟩
  | [], _ :: _, K, hk => hk.elim
  | _ :: _, [], K, hk => hk.elim
  | x :: xs, y :: ys, K, hk => by
    obtain ⟨h1, hk⟩ := cv1_sound hk
    obtain ⟨⟨h2, h3⟩, hk⟩ := cvs_sound hk
    refine ⟨⟨by simp [h2], fun i c c' hc hc' => ?_⟩, hk⟩
    cases i with
    | zero => cases hc; cases hc'; exact h1
    | succ i => exact h3 i c c' hc hc'
theorem cv_sound {h h' : HS} {f : List (Nat × Nat)} {ks born : List Nat} {l l' : LV} {K : Prop} (hk : cv h f ks born h' l l' K) : Cv (lkO h) f ks born (lkO h') l l' ∧ K := by
  unfold cv at hk
  split at hk
  · obtain ⟨h1, hk⟩ := cvs_sound hk; exact ⟨.ag h1, hk⟩
  · obtain ⟨h1, hk⟩ := cvs_sound hk; exact ⟨.tu h1, hk⟩
  · rw [natK_iff] at hk; obtain ⟨rfl, hk⟩ := hk; obtain ⟨h1, hk⟩ := cvs_sound hk; exact ⟨.fn h1, hk⟩
  · obtain ⟨h1, hk⟩ := cv1_sound hk; exact ⟨.one h1, hk⟩
theorem entT_sound {h h' : HS} {f : List (Nat × Nat)} {ks born : List Nat} {t : TS} : ∀ {t' : TS} {K : Prop}, entT h f ks born h' t t' K → (∀ n l', lkO t' n = some l' → ∃ l, lkO t n = some l ∧ Cv (lkO h) f ks born (lkO h') l l') ∧ K
  | [], K, hk => ⟨by simp [lkO], hk⟩
  | (m, x) :: t', K, hk => by
    simp only [entT, lk_iff] at hk
    obtain ⟨l, h1, hk⟩ := hk
    obtain ⟨h2, hk⟩ := cv_sound hk
    obtain ⟨h3, hk⟩ := entT_sound hk
    refine ⟨fun n l' hl => ?_, hk⟩
    simp only [lkO] at hl
    split at hl
    · rename_i hb; cases hl; rw [← beq_t hb]; exact ⟨l, h1, h2⟩
    · exact h3 n l' hl
/-- A resource, told otherwise. -/
inductive CvR (H : Nat → Option Res) (f : List (Nat × Nat)) (ks born : List Nat) (H' : Nat → Option Res) (k' : Nat) : Res → Prop
  | born (es : Nat) (hb : k' ∈ born) : CvR H f ks born H' k' (.row es [])
  | dead (hb : k' ∉ born) : CvR H f ks born H' k' .dead
  | row (es : Nat) (xs : List (List AV)) (hb : k' ∉ born) (hk : rn f k' ∉ ks) (h : H (rn f k') = some (.row es xs)) : CvR H f ks born H' k' (.row es xs)
  | box (cs cs' : List LV) (hb : k' ∉ born) (hk : rn f k' ∉ ks) (h : H (rn f k') = some (.box cs)) (hc : Cvs H f ks born H' cs cs') : CvR H f ks born H' k' (.box cs')
  | mp (m m' : List (List AV × List AV)) (hb : k' ∉ born) (hk : rn f k' ∉ ks) (h : H (rn f k') = some (.mp m)) (hp : m.Perm m') : CvR H f ks born H' k' (.mp m')
  | mpo (es : Nat) (hb : k' ∉ born) (hk : rn f k' ∉ ks) (h : H (rn f k') = some (.mp [])) : CvR H f ks born H' k' (.mo es [])
  | mo (es : Nat) (m m' : List (List AV × Option (List (List AV)))) (hb : k' ∉ born) (hk : rn f k' ∉ ks) (h : H (rn f k') = some (.mo es m)) (hp : m.Perm m') : CvR H f ks born H' k' (.mo es m')
  | it (m m' : List (List AV × List AV)) (cur : Option (List AV × List AV)) (hb : k' ∉ born) (hk : rn f k' ∉ ks) (h : H (rn f k') = some (.it m cur)) (hp : m.Perm m') : CvR H f ks born H' k' (.it m' none)
theorem entR_sound {h h' : HS} {f : List (Nat × Nat)} {ks born : List Nat} : ∀ {rest : HS} {K : Prop}, entR h f ks born h' rest K → (∀ k' r', lkO rest k' = some r' → CvR (lkO h) f ks born (lkO h') k' r') ∧ K
  | [], K, hk => ⟨by simp [lkO], hk⟩
  | (j, x) :: rest, K, hk => by
    have go : ∀ {K' : Prop}, CvR (lkO h) f ks born (lkO h') j x → entR h f ks born h' rest K' → (∀ k' r', lkO ((j, x) :: rest) k' = some r' → CvR (lkO h) f ks born (lkO h') k' r') ∧ K' := fun {K'} hc hk => by
      obtain ⟨h3, hk⟩ := entR_sound hk
      refine ⟨fun k' r' hr => ?_, hk⟩
      simp only [lkO] at hr
      split at hr
      · rename_i hb; cases hr; rw [← beq_t hb]; exact hc
      · exact h3 k' r' hr
    simp only [entR] at hk
    split at hk
    · rename_i hb
      split at hk
      · unfold AEq at hk; obtain ⟨rfl, hk⟩ := hk; exact go (.born _ (inL_iff.1 hb)) hk
      · exact hk.elim
    · rename_i hb
      split at hk
      · exact go (.dead (inL_f hb)) hk
      · simp only [inK_iff, lk_iff, Bool.not_eq_true'] at hk
        obtain ⟨h0, r, h1, hk⟩ := hk
        split at hk
        · rw [natK_iff] at hk
          obtain ⟨rfl, hk⟩ := hk
          unfold AEq at hk; obtain ⟨rfl, hk⟩ := hk; exact go (.row _ _ (inL_f hb) (inL_f h0) h1) hk
        · obtain ⟨h2, hk⟩ := cvs_sound hk
          exact go (.box _ _ (inL_f hb) (inL_f h0) h1 h2) hk
        · unfold APerm at hk; obtain ⟨hp, hk⟩ := hk; exact go (.mp _ _ (inL_f hb) (inL_f h0) h1 hp) hk
        · exact go (.mpo _ (inL_f hb) (inL_f h0) h1) hk
        · rw [natK_iff] at hk
          obtain ⟨rfl, hk⟩ := hk
          unfold APerm at hk; obtain ⟨hp, hk⟩ := hk; exact go (.mo _ _ _ (inL_f hb) (inL_f h0) h1 hp) hk
        · unfold APerm at hk; obtain ⟨hp, hk⟩ := hk; exact go (.it _ _ _ (inL_f hb) (inL_f h0) h1 hp) hk
        · exact hk.elim
theorem entK_sound {h : HS} : ∀ {ks : List Nat} {K : Prop}, entK h ks K → (∀ k ∈ ks, ∃ r, lkO h k = some r ∧ Rowy r) ∧ K
  | [], K, hk => ⟨by simp, hk⟩
  | k :: ks, K, hk => by
    simp only [entK, lk_iff] at hk
    obtain ⟨r, h1, hk⟩ := hk
    have : Rowy r ∧ entK h ks K := by
      split at hk
      · exact ⟨trivial, hk⟩
      · exact ⟨trivial, hk⟩
      · exact ⟨trivial, hk⟩
      · exact hk.elim
    obtain ⟨h2, h3⟩ := entK_sound this.2
    exact ⟨fun j hj => (List.mem_cons.1 hj).elim (fun e => by subst e; exact ⟨_, h1, this.1⟩) (h2 j), h3⟩
theorem nodupB_sound : ∀ {l : List Nat}, nodupB l = true → l.Nodup
  | [], _ => List.nodup_nil
  | k :: l, h => by
    simp only [nodupB, Bool.and_eq_true, Bool.not_eq_true'] at h
    exact List.nodup_cons.2 ⟨inL_f h.1, nodupB_sound h.2⟩
theorem keysOf_eq : ∀ (h : HS), keysOf h = h.map (·.1)
  | [] => rfl
  | (k, r) :: h => by simp [keysOf, keysOf_eq h]
theorem mem_keysOf : ∀ {h : HS} {k : Nat}, k ∈ keysOf h ↔ ∃ r, lkO h k = some r
  | [], k => by simp [keysOf, lkO]
  | (j, r) :: h, k => by
    simp only [keysOf, List.mem_cons, lkO]
    cases hb : Nat.beq j k with
    | true => simp [beq_t hb]
    | false => simp [mem_keysOf, Ne.symm (beq_f hb)]
theorem map_inj {f : Nat → Nat} : ∀ {l : List Nat}, (l.map f).Nodup → ∀ a ∈ l, ∀ b ∈ l, f a = f b → a = b
  | [], _, a, ha, _, _, _ => by cases ha
  | x :: l, h, a, ha, b, hb, e => by
    simp only [List.map_cons, List.nodup_cons, List.mem_map, not_exists, not_and] at h
    rcases List.mem_cons.1 ha with ha | ha <;> rcases List.mem_cons.1 hb with hb | hb
    · rw [ha, hb]
    · rw [ha] at e; exact (h.1 b hb e.symm).elim
    · rw [hb] at e; exact (h.1 a ha e).elim
    · exact map_inj h.2 a ha b hb e
theorem isDead_sound : ∀ {h : HS} {k : Nat}, isDead k h = true → lkO h k = some .dead
  | [], k, h => by cases h
  | (j, r) :: l, k, h => by
    simp only [isDead] at h
    simp only [lkO]
    cases hb : Nat.beq j k with
    | true =>
      rw [hb] at h
      simp only at h
      split at h
      · rfl
      · cases h
    | false =>
      rw [hb] at h
      exact isDead_sound h
theorem liveK_mem : ∀ {h : HS} {k : Nat} {r : Res}, lkO h k = some r → r ≠ .dead → k ∈ liveK h
  | [], k, r, h, _ => by simp [lkO] at h
  | (j, x) :: l, k, r, h, hn => by
    simp only [lkO] at h
    cases hb : Nat.beq j k with
    | true =>
      simp only [hb, if_true, Option.some.injEq] at h
      subst h
      obtain rfl := beq_t hb
      cases x <;> first | exact (hn rfl).elim | simp [liveK]
    | false =>
      simp only [hb, Bool.false_eq_true, if_false] at h
      have := liveK_mem h hn
      cases x <;> simp [liveK, this]
theorem ownB_sound {f : List (Nat × Nat)} {born : List Nat} {h' : HS} : ∀ {h : HS}, ownB f born h' h = true → ∀ k r, lkO h k = some r → 10000 ≤ k → k < 20000 → lkO h' k = some .dead ∨ (rn f k = k ∧ k ∉ born ∧ ∃ r', lkO h' k = some r')
  | [], _, k, r, hk, _, _ => by simp [lkO] at hk
  | (j, x) :: h, hh, k, r, hk, hge, hlt => by
    simp only [ownB, Bool.and_eq_true, Bool.or_eq_true, Bool.not_eq_true'] at hh
    simp only [lkO] at hk
    split at hk
    · rename_i hb
      obtain rfl := beq_t hb
      rcases hh.1 with ((h1 | h1) | h1) | ⟨⟨h1, h2⟩, h3⟩
      · have := Nat.le_of_ble_eq_true h1; omega
      · have := Nat.le_of_ble_eq_true h1; omega
      · exact .inl (isDead_sound h1)
      · exact .inr ⟨beq_t h1, inL_f h2, mem_keysOf.1 (inL_iff.1 h3)⟩
    · exact ownB_sound hh.2 k r hk hge hlt
end Go.Proofs.Ytcpgcenlgihmnaa.Abs
/- A state told otherwise: it is. -/
set_option linter.unusedVariables false
set_option linter.unusedSimpArgs false
namespace Go.Proofs.Ytcpgcenlgihmnaa.Abs
open Go

theorem frz_map {es : Nat} : ∀ {m : List (List AV × Option (List (List AV)))} {m1 : List (List AV × List AV)}, frz es m = some m1 → m1 = m.map (fun x => (x.1, [.lst es (x.2.getD [])])) ∧ ∀ x ∈ m, ∃ xs, x.2 = some xs
  | [], m1, h => by cases h; simp
  | (k, some xs) :: m, m1, h => by
    simp only [frz, Option.map_eq_some_iff] at h
    obtain ⟨r, h1, rfl⟩ := h
    obtain ⟨h2, h3⟩ := frz_map h1
    exact ⟨by simp [h2], fun x hx => (List.mem_cons.1 hx).elim (fun e => ⟨xs, by rw [e]⟩) (h3 x)⟩
  | (k, none) :: m, m1, h => by cases h
theorem MapO.frz {w : World} {S S' more : Nat → Prop} {b es : Nat} {m : List (List AV × Option (List (List AV)))} {m1 : List (List AV × List AV)} (hs : ∀ b, S b → S' b) (hm : ∀ b, more b → S' b) (hf : frz es m = some m1) : MapO w S more b es m → MapAt w (Rep w S') b m1 := by
  rintro ⟨m0, ents, clock, h1, h2, h3, h4, h5, h6, h7⟩
  obtain ⟨rfl, hall⟩ := frz_map hf
  refine ⟨m0.map fun x => (x.1, [.lst es (x.2.getD [])]), ents, clock, h1.map _, h2, by simpa using h3, by simpa [Function.comp_def] using h4, h5, fun i e x he hx => ?_⟩
  rw [List.getElem?_map] at hx
  obtain ⟨y, hy, rfl⟩ := Option.map_eq_some_iff.1 hx
  obtain ⟨g1, g2⟩ := h6 i e y he hy
  obtain ⟨xs, hxs⟩ := hall y (h1.mem_iff.1 (List.mem_of_getElem? hy))
  refine ⟨g1.mono fun v a hr => hr.mono hs (fun _ _ => rfl), fun _ => e.val, .inl ⟨rfl, rfl⟩, fun j z hz => ?_⟩
  have : j = 0 := by have := (List.getElem?_eq_some_iff.1 hz).1; simpa using this
  subst this
  cases hz
  rw [hxs]
  obtain ⟨g3, ⟨g4, rfl⟩ | ⟨bl, c, arr, ty, g4, g5, g6, g7, g8, g9⟩⟩ := g2 xs hxs
  · rw [g4]
    exact .lst none 0 es [] 0 0 (fun _ _ => undef) (by simp) (by simp) (by simp) (by simp) (by simp)
  · rw [g4]
    exact .lst (some ⟨bl, 0, none⟩) c es xs bl 0 (fun i j => (arr[i * es + j]?).getD undef) g8 (fun _ => ⟨rfl, hm _ g5⟩) g3 (fun i x j hx hj => by
      have hl := g3 i x hx
      obtain ⟨v, hv, _, _⟩ := g9 i x j x[j] hx (by simp)
      simp [World.cell?, g6, hv]) (fun i x j y hx hy => by
      obtain ⟨v, hv, _, hr⟩ := g9 i x j y hx hy
      simp only [hv, Option.getD_some]
      exact hr.mono hs (fun _ _ => rfl))

section
variable {F : Fr} {S : Nat → Prop} {γ : Nat → GV} {T : Nat → Option LV} {H H' : Nat → Option Res} {tm : Array Value} {w : World} {f : List (Nat × Nat)} {ks born : List Nat}

def newG (f : List (Nat × Nat)) (born : List Nat) (γ : Nat → GV) : Nat → GV := fun k => if k ∈ born then gv none 0 else γ (rn f k)
theorem Cv1.rep (M : ModF F S γ T H tm w) (hR : ∀ k' r', H' k' = some r' → CvR H f ks born H' k' r') {v : Value} {l l' : LV} (hr : RepL w S γ H v l) (h : Cv1 H f ks born H' l l') :
    RepL w (fun b => S b ∨ Killed γ ks b) (newG f born γ) H' v l' := by
  have up : ∀ {v : Value} {a : AV}, Rep w S v a → Rep w (fun b => S b ∨ Killed γ ks b) v a := fun h => h.mono (fun _ h => .inl h) (fun _ _ => rfl)
  have ng : ∀ {k'}, k' ∉ born → newG f born γ k' = γ (rn f k') := fun h => by simp [newG, h]
  cases h with
  | un => exact .un v
  | pv a => cases hr with | pv h => exact .pv (up h)
  | nl => cases hr; exact .nl
  | nlpv es => cases hr; exact .pv (.lst none 0 es [] 0 0 (fun _ _ => undef) (by simp) (by simp) (by simp) (by simp) (by simp))
  | nlrw k' es h hb =>
    cases hr
    have := RepL.rw (w := w) (S := fun b => S b ∨ Killed γ ks b) (γ := newG f born γ) (H := H') k' 0 es [] h (by simp) (by simp) (by omega)
    simpa [newG, hb] using this
  | fnpv g =>
    cases hr with
    | fn _ arr _ hn _ =>
      have : arr = #[] := by simpa using hn
      subst this
      exact .pv (.fn g)
  | rw k' m es xs h hb =>
    cases hR k' _ h with
    | born _ hb' => exact (hb hb').elim
    | row _ _ _ _ h1 =>
      cases hr with
      | drw _ _ _ _ h => rw [h1] at h; cases h
      | rw _ _ _ _ h hm hc hb2 =>
        rw [h1] at h
        cases h
        rw [← ng hb] at hc hb2 ⊢
        exact .rw k' m _ _ (by assumption) hm hc hb2
  | rv k' lo m es xs h hb =>
    cases hR k' _ h with
    | born _ hb' => exact (hb hb').elim
    | row _ _ _ _ h1 =>
      cases hr with
      | drv _ _ _ _ _ h => rw [h1] at h; cases h
      | rv _ _ _ _ _ a c h hl hm hc ha =>
        rw [h1] at h
        cases h
        rw [← ng hb] at ha
        exact .rv k' lo m _ _ a c (by assumption) hl hm hc ha
  | rwpv k m es xs h hk =>
    obtain ⟨_, h2⟩ := toAV_rep (tab := []) M hr (ty := 0) (a := .lst es (xs.take m)) (ks := [k]) (by simp [toAVO, h])
    exact .pv (h2 ks (by simpa using hk))
  | rvpv k lo m es xs h hk =>
    cases hr with
    | drv _ _ _ _ _ h' => rw [h] at h'; cases h'
    | rv _ _ _ _ _ a c h' hl hm hc ha =>
      rw [h] at h'
      cases h'
      have hlen : ((xs.take m).drop lo).length = m - lo := by simp; omega
      by_cases hlt : lo < m
      · obtain ⟨b, hb, rfl⟩ := ha hlt
        obtain ⟨hes, h0 | ⟨b', arr, ty, h1, h2, h3, h4, h5⟩⟩ := M.own.rep k _ trivial h
        · rw [h0.1] at hb; cases hb
        · rw [hb] at h1
          cases h1
          have hget : ∀ (i : Nat) (x : List AV), ((xs.take m).drop lo)[i]? = some x → xs[lo + i]? = some x := fun i x hx => by
            rw [List.getElem?_drop, List.getElem?_take] at hx
            split at hx
            · exact hx
            · cases hx
          have := Rep.lst (w := w) (S := fun b => S b ∨ Killed γ ks b) (some ⟨b, lo * es, none⟩) c es ((xs.take m).drop lo) b (lo * es) (fun i j => (arr[(lo + i) * es + j]?).getD undef) (by omega) (fun _ => ⟨rfl, .inr ⟨k, hk, .inl hb⟩⟩)
            (fun i x hx => hes _ x (hget i x hx)) (fun i x j hx hj => by
              have hl := hes _ x (hget i x hx)
              obtain ⟨v, hv, _, _⟩ := h5 _ x j x[j] (hget i x hx) (by simp)
              have e : lo * es + i * es + j = (lo + i) * es + j := by rw [Nat.add_mul]
              simp [World.cell?, h2, e, hv]) (fun i x j y hx hy => by
              obtain ⟨v, hv, _, hr⟩ := h5 _ x j y (hget i x hx) hy
              simp only [hv, Option.getD_some]
              exact up hr)
          rw [hlen] at this
          exact .pv this
      · have : (xs.take m).drop lo = [] := List.eq_nil_of_length_eq_zero (by omega)
        rw [this]
        rw [show m - lo = 0 by omega]
        exact .pv (.lst a c es [] 0 0 (fun _ _ => undef) (by simp) (by simp) (by simp) (by simp) (by simp))
  | bx k' o cs h hb =>
    cases hR k' _ h with
    | box _ _ _ _ h1 _ =>
      cases hr with
      | dbx _ _ _ _ h' => rw [h1] at h'; cases h'
      | bx _ _ b _ h' hb2 => exact .bx k' o b _ h (by rw [ng hb]; exact hb2)
  | mr k' m h hb =>
    cases hR k' _ h with
    | mp _ _ _ _ h1 _ =>
      cases hr with
      | dmr _ _ h' => rw [h1] at h'; cases h'
      | mo _ _ _ _ h' => rw [h1] at h'; cases h'
      | mr _ b _ h' hb2 => exact .mr k' b _ h (by rw [ng hb]; exact hb2)
  | mo k' es m h hb =>
    cases hR k' _ h with
    | mpo _ _ _ h1 =>
      cases hr with
      | dmr _ _ h' => rw [h1] at h'; cases h'
      | mo _ _ _ _ h' => rw [h1] at h'; cases h'
      | mr _ b _ h' hb2 => exact .mo k' b _ _ h (by rw [ng hb]; exact hb2)
    | mo _ _ _ _ _ h1 _ =>
      cases hr with
      | dmr _ _ h' => rw [h1] at h'; cases h'
      | mr _ _ _ h' => rw [h1] at h'; cases h'
      | mo _ b _ _ h' hb2 => exact .mo k' b _ _ h (by rw [ng hb]; exact hb2)
  | mrpv k m m' h hk hp =>
    obtain ⟨_, h2⟩ := toAV_rep (tab := []) M hr (ty := 0) (a := .mp m) (ks := [k]) (by simp [toAVO, h])
    obtain ⟨r, rfl, g1, g2⟩ := rep_mp.1 (h2 ks (by simpa using hk))
    exact .pv (rep_mp.2 ⟨r, rfl, g1, g2.perm hp⟩)
  | mopv k es m m1 m' h hk hf hp =>
    cases hr with
    | dmr _ _ h' => rw [h] at h'; cases h'
    | mr _ _ _ h' => rw [h] at h'; cases h'
    | mo _ b _ _ h' hb2 =>
      obtain ⟨b', hb', _, h3⟩ := M.own.rep k _ trivial h
      rw [hb2] at hb'
      cases hb'
      exact .pv (rep_mp.2 ⟨b, rfl, .inr ⟨k, hk, .inl hb2⟩, (h3.frz (S' := fun b => S b ∨ Killed γ ks b) (fun _ h => .inl h) (fun c hc => .inr ⟨k, hk, .inr hc⟩) hf).perm hp⟩)
  | it k' m cur h hb =>
    cases hR k' _ h with
    | it _ _ _ _ _ h1 _ =>
      cases hr with
      | dit _ _ h' => rw [h1] at h'; cases h'
      | it _ b _ _ h' hb2 => exact .it k' b _ _ h (by rw [ng hb]; exact hb2)
  | ep c o =>
    cases hr with
    | ep _ _ b off vs hS hc hp => exact .ep c o b off vs (.inl hS) hc fun j y hy => up (hp j y hy)
theorem Cv.rep (M : ModF F S γ T H tm w) (hR : ∀ k' r', H' k' = some r' → CvR H f ks born H' k' r') {v : Value} {l l' : LV} (hr : RepL w S γ H v l) (h : Cv H f ks born H' l l') :
    RepL w (fun b => S b ∨ Killed γ ks b) (newG f born γ) H' v l' := by
  cases h with
  | one h => exact h.rep M hR hr
  | ag h =>
    rename_i cs cs'
    cases hr with
    | ag arr _ hn h1 h2 =>
      refine .ag arr cs' (by rw [hn, h.1]) h1 fun i v c hv hc => ?_
      have hi : i < cs.length := by have := (Array.getElem?_eq_some_iff.1 hv).1; omega
      exact (h.2 i cs[i] c (by simp [hi]) hc).rep M hR (h2 i v cs[i] hv (by simp [hi]))
  | tu h =>
    rename_i cs cs'
    cases hr with
    | tu arr _ hn h2 =>
      refine .tu arr cs' (by rw [hn, h.1]) fun i v c hv hc => ?_
      have hi : i < cs.length := by have := (Array.getElem?_eq_some_iff.1 hv).1; omega
      exact (h.2 i cs[i] c (by simp [hi]) hc).rep M hR (h2 i v cs[i] hv (by simp [hi]))
  | fn h =>
    rename_i g cs cs'
    cases hr with
    | fn _ arr _ hn h2 =>
      refine .fn g arr cs' (by rw [hn, h.1]) fun i v c hv hc => ?_
      have hi : i < cs.length := by have := (Array.getElem?_eq_some_iff.1 hv).1; omega
      exact (h.2 i cs[i] c (by simp [hi]) hc).rep M hR (h2 i v cs[i] hv (by simp [hi]))
end

theorem Ent_intro {t t' : TS} {h h' : HS} (f : List (Nat × Nat)) (ks born : List Nat) (hp : entP f ks born t h t' h') : Ent t h t' h' := by
  rintro F tm w ⟨S, γ, M⟩
  simp only [entP, inK_iff, Bool.and_eq_true] at hp
  obtain ⟨⟨⟨hn, ho⟩, hbn⟩, hp⟩ := hp
  obtain ⟨hK, hp⟩ := entK_sound hp
  obtain ⟨hR, hp⟩ := entR_sound hp
  obtain ⟨hT, _⟩ := entT_sound hp
  have M1 := M.kill ks hK
  have inj := map_inj (nodupB_sound hn)
  have ng : ∀ {k'}, k' ∉ born → newG f born γ k' = γ (rn f k') := fun h => by simp [newG, h]
  have nb : ∀ {k' b}, k' ∈ born → ¬ (newG f born γ k').has b := fun h => by simp [newG, h]
  -- a live key's old one
  have old : ∀ {k' r'}, lkO h' k' = some r' → r' ≠ .dead → k' ∉ born → ∃ r, lkO h (rn f k') = some r ∧ r ≠ .dead ∧ killH ks (lkO h) (rn f k') = some r ∧ rn f k' ∉ ks := fun {k' r'} hr hd hb => by
    cases hR k' r' hr with
    | born _ hb' => exact (hb hb').elim
    | dead _ => exact (hd rfl).elim
    | row _ _ _ hk h1 => exact ⟨_, h1, by simp, by simp [killH, hk, h1], hk⟩
    | box _ _ _ hk h1 _ => exact ⟨_, h1, by simp, by simp [killH, hk, h1], hk⟩
    | mp _ _ _ hk h1 _ => exact ⟨_, h1, by simp, by simp [killH, hk, h1], hk⟩
    | mpo _ _ hk h1 => exact ⟨_, h1, by simp, by simp [killH, hk, h1], hk⟩
    | mo _ _ _ _ hk h1 _ => exact ⟨_, h1, by simp, by simp [killH, hk, h1], hk⟩
    | it _ _ _ _ hk h1 _ => exact ⟨_, h1, by simp, by simp [killH, hk, h1], hk⟩
  refine ⟨fun b => S b ∨ Killed γ ks b, newG f born γ, M1.aft, M1.siz, fun n l' hl => ?_, ⟨fun k' r' _ hr => ?_, fun k' r' b _ hr hd hb => ?_, fun k1 k2 r1 r2 b _ _ hr1 hr2 hd1 hd2 hne hb1 hb2 => ?_⟩, ?_, fun k g hg => ?_⟩
  · obtain ⟨l, h1, h2⟩ := hT n l' hl
    obtain ⟨v, hv, hr⟩ := M.slots n l h1
    exact ⟨v, hv, h2.rep M hR hr⟩
  · have up : ∀ {v : Value} {a : AV}, Rep w S v a → Rep w (fun b => S b ∨ Killed γ ks b) v a := fun h => h.mono (fun _ h => .inl h) (fun _ _ => rfl)
    cases hR k' r' hr with
    | born es hb => exact ⟨by simp, .inl (by simp [newG, hb])⟩
    | dead _ => trivial
    | row es xs hb hk h1 =>
      obtain ⟨g1, g2 | ⟨b, arr, ty, g2, g3, g4, g5, g6⟩⟩ := M.own.rep (rn f k') _ trivial h1
      · exact ⟨g1, .inl (by rw [ng hb]; exact g2)⟩
      · exact ⟨g1, .inr ⟨b, arr, ty, by rw [ng hb]; exact g2, g3, by rw [ng hb]; exact g4, by rw [ng hb]; exact g5, fun i x j y hx hy => by
          obtain ⟨v, hv, ho, hr⟩ := g6 i x j y hx hy; exact ⟨v, hv, ho, up hr⟩⟩⟩
    | box cs cs' hb hk h1 h3 =>
      obtain ⟨b, arr, ty, g1, g2, g3, g4⟩ := M.own.rep (rn f k') _ trivial h1
      refine ⟨b, arr, ty, by rw [ng hb]; exact g1, g2, by rw [g3, h3.1], fun i v c hv hc => ?_⟩
      have hi : i < cs.length := by have := (Array.getElem?_eq_some_iff.1 hv).1; omega
      obtain ⟨ho, hr⟩ := g4 i v cs[i] hv (by simp [hi])
      exact ⟨ho, (h3.2 i cs[i] c (by simp [hi]) hc).rep M hR hr⟩
    | mp m m' hb hk h1 hp =>
      obtain ⟨b, g1, g0, g2⟩ := M.own.rep (rn f k') _ trivial h1
      exact ⟨b, by rw [ng hb]; exact g1, by rw [ng hb]; exact g0, (g2.mono (w' := w) rfl fun v a hr => up hr).perm hp⟩
    | mpo es hb hk h1 =>
      obtain ⟨b, g1, g0, m0, ents, clock, q1, q2, q3, q4, q5, q6⟩ := M.own.rep (rn f k') _ trivial h1
      have : m0 = [] := List.perm_nil.1 q1
      subst this
      exact ⟨b, by rw [ng hb]; exact g1, by rw [ng hb]; exact g0 b, [], ents, clock, .refl _, q2, q3, by simp, q5, by simp, by simp⟩
    | mo es m m' hb hk h1 hp =>
      obtain ⟨b, g1, g2, g3⟩ := M.own.rep (rn f k') _ trivial h1
      exact ⟨b, by rw [ng hb]; exact g1, by rw [ng hb]; exact g2, by rw [ng hb]; exact (g3.mono (w' := w) rfl (fun _ h => .inl h) (fun _ _ => rfl) fun c hc => ⟨hc, rfl⟩).perm hp⟩
    | it m m' cur hb hk h1 hp =>
      obtain ⟨b, g1, r, seen, es, clock, rem0, q1, q2, q3, q4, q5, q6, q7, q8⟩ := M.own.rep (rn f k') _ trivial h1
      exact ⟨b, by rw [ng hb]; exact g1, r, seen, es, clock, rem0, q1, .inl q2, q3, q4, q5.trans hp, q6, fun i e x he hx => (q7 i e x he hx).mono fun v a hr => up hr, fun x hx => by cases hx⟩
  · by_cases hb' : k' ∈ born
    · exact (nb hb' hb).elim
    · obtain ⟨r, h1, h2, h3, _⟩ := old hr hd hb'
      rw [ng hb'] at hb
      exact M1.own.out (rn f k') r b trivial h3 h2 hb
  · by_cases hb' : k1 ∈ born
    · exact (nb hb' hb1).elim
    · by_cases hb'' : k2 ∈ born
      · exact (nb hb'' hb2).elim
      · obtain ⟨o1, a1, a2, a3, _⟩ := old hr1 hd1 hb'
        obtain ⟨o2, b1, b2, b3, _⟩ := old hr2 hd2 hb''
        rw [ng hb'] at hb1
        rw [ng hb''] at hb2
        exact M1.own.apart _ _ o1 o2 b trivial trivial a3 b3 a2 b2 (fun e => hne (inj k1 (liveK_mem hr1 hd1) k2 (liveK_mem hr2 hd2) e)) hb1 hb2
  · rintro b ⟨k', r', _, hr, hd, hb⟩
    by_cases hb' : k' ∈ born
    · exact (nb hb' hb).elim
    · obtain ⟨r, h1, h2, _, _⟩ := old hr hd hb'
      rw [ng hb'] at hb
      exact M.ownH h1 h2 hb
  · obtain ⟨h1, r, h2, h3⟩ := M.g0 k g hg
    refine ⟨h1, ?_⟩
    rcases ownB_sound ho k r h2 h1.1 h1.2 with h4 | ⟨k1, k2, r', k3⟩
    · exact ⟨.dead, h4, fun h => (h rfl).elim⟩
    · refine ⟨r', k3, fun hd => ?_⟩
      obtain ⟨r0, a1, a2, _, _⟩ := old k3 hd k2
      rw [ng k2]
      rw [k1] at a1 ⊢
      rw [h2] at a1
      cases a1
      exact h3 a2

/-! A function's contract. -/
def resO (rs : List ResultVar) (T : Nat → Option LV) : Option LV :=
  match rs with
  | [.tmp n] => T n
  | [] => some (.tu [])
  | [.tmp a, .tmp b] => (T a).bind fun x => (T b).map fun y => .tu [x, y]
  | [.tmp a, .tmp b, .tmp c] => (T a).bind fun x => (T b).bind fun y => (T c).map fun z => .tu [x, y, z]
  | _ => none
/-- The result is a variable of its own: what it holds. -/
def resC (tab : Tab) (rs : List ResultVar) (T : Nat → Option LV) (H : Nat → Option Res) (r : LV) : Prop :=
  match rs with
  | [.cell a ty] => ∃ k o cs ti, T a = some (.bx k o) ∧ H k = some (.box cs) ∧ lkO tab ty = some ti ∧ o + ti.size ≤ cs.length ∧ wrapO ti ((cs.drop o).take ti.size) = some r ∧ kin (fun _ => none) r
  | _ => False
/-- The end of a function. -/
@[irreducible] def AFin (tab : Tab) (rs : List ResultVar) (t : TS) (h : HS) (r : LV) (ps : HS) : Prop := ∃ t' h', Ent t h t' h' ∧ ((resO rs (lkO t') = some r ∧ ∀ k, lkO h' k = lkO ps k) ∨ (ps = [] ∧ resC tab rs (lkO t') (lkO h') r))
def fin (tab : Tab) (rs : List ResultVar) (r : LV) (ps : HS) : KT
  | .normal, t, h => AFin tab rs t h r ps
  | .ret, t, h => AFin tab rs t h r ps
  | .exit _, _, _ => False
def zipF : Nat → List LV → TS
  | _, [] => []
  | n, l :: ls => (n, l) :: zipF (Nat.succ n) ls
theorem lkO_zipF : ∀ (ls : List LV) (b n : Nat), lkO (zipF b ls) n = if b ≤ n then ls[n - b]? else none
  | [], b, n => by simp [zipF, lkO]
  | l :: ls, b, n => by
    simp only [zipF, lkO, lkO_zipF ls]
    cases hb : Nat.beq b n with
    | true => obtain rfl := beq_t hb; simp
    | false =>
      have hne := beq_f hb
      simp only [Bool.false_eq_true, if_false]
      by_cases h : b ≤ n
      · rw [if_pos h, if_pos (show Nat.succ b ≤ n by omega)]
        obtain ⟨m, hm⟩ : ∃ m, n - b = m + 1 := ⟨n - b - 1, by omega⟩
        rw [hm, List.getElem?_cons_succ, show n - Nat.succ b = m by omega]
      · rw [if_neg h, if_neg (by omega)]
theorem asAddr_run {P : Program} {w : World} (a : Addr) : (asAddr (.pointer (some a))).run P w = .ok a w := by simp [asAddr]
theorem callsTo_of {P : Program} {g : Nat} {fn : Func} {c : Code} {tab : Tab} {ann : List Nat} {lvs : List LV} {ph ps : HS} {r : LV} (hf : P.funcs[g]? = some fn) (hb : fn.body = some c) (hnm : (fn.name == "runtime.NumGoroutine") = false) (hc : codeOk fn.ntmps c = true) (hm : P.follows .mixedOrders = true) (ht : TabOk P tab)
    (hn : lvs.length ≤ fn.ntmps) (hk : ph.all (fun x => Nat.ble 10000 x.1 && Nat.blt x.1 20000) = true) (h : awp P tab ann c (zipF 0 lvs) ph (fin tab fn.results.toList r ps)) : CallsTo P g lvs ph r ps := by
  refine ⟨⟨fn, hf, hnm, by rw [hb]; rfl⟩, fun w S γ vs hS hown hvs hrep => ?_⟩
  let F : Fr := ⟨fn.ntmps, w, S, Blk γ (lkO ph) (fun _ => True), fun k => (lkO ph k).map fun _ => γ k⟩
  have hge : ∀ k r, lkO ph k = some r → 10000 ≤ k ∧ k < 20000 := fun k r hr => by
    have := mem_keysOf.2 ⟨r, hr⟩
    rw [keysOf_eq] at this
    obtain ⟨x, hx, rfl⟩ := List.mem_map.1 this
    have h := List.all_eq_true.1 hk x hx
    rw [Bool.and_eq_true] at h
    exact ⟨Nat.le_of_ble_eq_true h.1, Nat.le_of_ble_eq_true h.2⟩
  have M : ModF F S γ (lkO (zipF 0 lvs)) (lkO ph) (vs ++ Array.replicate (fn.ntmps - vs.size) undef) w := {
    aft := After.refl hS
    siz := by simp [F]; omega
    slots := fun n l hl => by
      rw [lkO_zipF, if_pos (Nat.zero_le _), Nat.sub_zero] at hl
      have hlt : n < vs.size := by have := (List.getElem?_eq_some_iff.1 hl).1; omega
      exact ⟨vs[n], by rw [Array.getElem?_append_left hlt]; simp [hlt], hrep n vs[n] l (by simp [hlt]) hl⟩
    own := hown
    blk := fun b hb => .inl hb
    g0 := fun k g hg => by
      obtain ⟨r, hr, rfl⟩ := Option.map_eq_some_iff.1 hg
      exact ⟨hge k r hr, r, hr, fun _ => .rfl'⟩ }
  have hw := awp_sound (F := F) (d0 := []) ht hm c (zipF 0 lvs) ph _ { tmps := vs ++ Array.replicate (fn.ntmps - vs.size) undef, defers := [] } w hc h ⟨S, γ, M⟩ rfl
  refine calls_of_wp hf hb (Code.wp_mono (fun e a w' hq => ?_) hw)
  have done : ∀ t h, a.defers = [] → AFin tab fn.results.toList t h r ps → Mod F t h a.tmps w' → a.defers = [] ∧ ∃ v, (results fn a.tmps).run P w' = .ok v w' ∧ ∃ v' S' γ', Ending.returned v = .returned v' ∧ After w S (Blk γ (lkO ph) (fun _ => True)) w' S' ∧
      Owns w' S' γ' (lkO ps) (fun _ => True) ∧ (∀ b, Blk γ' (lkO ps) (fun _ => True) b → Blk γ (lkO ph) (fun _ => True) b ∨ w.heap.size ≤ b) ∧
      (∀ k r r', lkO ph k = some r → lkO ps k = some r' → r' ≠ .dead → (γ' k).Same (γ k)) ∧ RepL w' S' γ' (lkO ps) v' r := fun t h hd hfin M => by
    unfold AFin at hfin
    obtain ⟨t', h', he, hr⟩ := hfin
    obtain ⟨S', γ', M'⟩ := he F _ _ M
    rcases hr with ⟨hr, hps⟩ | ⟨rfl, hr⟩
    case inr =>
      unfold resC at hr
      split at hr
      · rename_i x ty hrs
        obtain ⟨k, o, cs, ti, h1, h2, h3, h4, h5, h6⟩ := hr
        have hrs' : fn.results = #[.cell x ty] := by apply Array.ext'; simpa using hrs
        obtain ⟨v0, hv0, hr0⟩ := M'.slots x _ h1
        cases hr0 with
        | dbx _ _ _ _ h' => rw [h2] at h'; cases h'
        | bx _ _ b _ hk2 hb2 =>
          obtain ⟨v, hv, hrep⟩ := run_loadVar_at (P := P) (ht _ _ h3) (by simp; omega) (cells_box M' h2 hb2 h4) h5
          have hrun : (results fn a.tmps).run P w' = .ok v w' := by simp [results, hrs', hv0, asAddr_run, hv]
          exact ⟨hd, v, hrun, v, S', γ', rfl, M'.aft, ⟨fun k r _ hk => (by cases hk), fun k r b _ hk => (by cases hk), fun k k' r r' b _ _ hk => (by cases hk)⟩, fun b hb => (by obtain ⟨k, r, _, hk, _⟩ := hb; cases hk), fun k r r' _ hk => (by cases hk), hrep.re h6 (fun k r hk => by cases hk)⟩
      · exact hr.elim
    have e : lkO h' = lkO ps := funext hps
    rw [e] at M'
    have fin : ∀ v, (results fn a.tmps).run P w' = .ok v w' → RepL w' S' γ' (lkO ps) v r → _ := fun v hv hrep => (⟨hd, v, hv, v, S', γ', rfl, M'.aft, M'.own, M'.blk, fun k r r' h1 h2 h3 => by
      obtain ⟨_, r2, g2, g3⟩ := M'.g0 k (γ k) (by simp [F, h1])
      rw [h2] at g2
      cases g2
      exact g3 h3, hrep⟩ : a.defers = [] ∧ ∃ v, (results fn a.tmps).run P w' = .ok v w' ∧ ∃ v' S' γ', Ending.returned v = .returned v' ∧ After w S (Blk γ (lkO ph) (fun _ => True)) w' S' ∧
      Owns w' S' γ' (lkO ps) (fun _ => True) ∧ (∀ b, Blk γ' (lkO ps) (fun _ => True) b → Blk γ (lkO ph) (fun _ => True) b ∨ w.heap.size ≤ b) ∧
      (∀ k r r', lkO ph k = some r → lkO ps k = some r' → r' ≠ .dead → (γ' k).Same (γ k)) ∧ RepL w' S' γ' (lkO ps) v' r)
    have sl : ∀ n l, lkO t' n = some l → RepL w' S' γ' (lkO ps) (a.tmps.getD n undef) l := fun n l hl => by
      obtain ⟨v, hv, hr⟩ := M'.slots n l hl
      simpa [hv] using hr
    unfold resO at hr
    split at hr
    · rename_i n hrs
      have hrs' : fn.results = #[.tmp n] := by apply Array.ext'; simpa using hrs
      exact fin _ (results_tmp hrs' _ P w') (sl n r hr)
    · rename_i hrs
      have hrs' : fn.results = #[] := by apply Array.ext'; simpa using hrs
      cases hr
      exact fin _ (results_none hrs' _ P w') (.tu #[] [] rfl (by simp))
    · rename_i x y hrs
      have hrs' : fn.results = #[.tmp x, .tmp y] := by apply Array.ext'; simpa using hrs
      obtain ⟨lx, h1, h2⟩ := Option.bind_eq_some_iff.1 hr
      obtain ⟨ly, h3, rfl⟩ := Option.map_eq_some_iff.1 h2
      refine fin _ (results_tmp2 hrs' _ P w') (.tu _ _ rfl fun i v c hv hc => ?_)
      rcases i with _ | _ | i
      · cases hc; cases hv; exact sl _ _ h1
      · cases hc; cases hv; exact sl _ _ h3
      · simp at hc
    · rename_i x y z hrs
      have hrs' : fn.results = #[.tmp x, .tmp y, .tmp z] := by apply Array.ext'; simpa using hrs
      obtain ⟨lx, h1, h2⟩ := Option.bind_eq_some_iff.1 hr
      obtain ⟨ly, h3, h4⟩ := Option.bind_eq_some_iff.1 h2
      obtain ⟨lz, h5, rfl⟩ := Option.map_eq_some_iff.1 h4
      refine fin (.tuple #[a.tmps.getD x undef, a.tmps.getD y undef, a.tmps.getD z undef]) (by simp [results, hrs']) (.tu _ _ rfl fun i v c hv hc => ?_)
      rcases i with _ | _ | _ | i
      · cases hc; cases hv; exact sl _ _ h1
      · cases hc; cases hv; exact sl _ _ h3
      · cases hc; cases hv; exact sl _ _ h5
      · simp at hc
    · cases hr
  cases e with
  | normal => obtain ⟨hd, t, h, hk, M⟩ := hq; exact done t h hd hk M
  | ret => obtain ⟨hd, t, h, hk, M⟩ := hq; exact done t h hd hk M
  | exit i => obtain ⟨hd, t, h, hk, M⟩ := hq; exact hk.elim
  | goto l => exact hq.elim
  | panic ch => exact hq.elim
  | outgrown => exact hq.elim
end Go.Proofs.Ytcpgcenlgihmnaa.Abs
/- How each stop of the evaluation is passed. -/
set_option linter.unusedVariables false
namespace Go.Proofs.Ytcpgcenlgihmnaa.Abs
open Go

theorem ASpl_intro {c : Bool} {A B : Prop} (ha : c = true → A) (hb : c = false → B) : ASpl c A B := by unfold ASpl; exact ⟨ha, hb⟩
theorem ASpl_t {A B : Prop} (ha : A) : ASpl true A B := by unfold ASpl; exact ⟨fun _ => ha, fun h => by cases h⟩
theorem ASpl_f {A B : Prop} (hb : B) : ASpl false A B := by unfold ASpl; exact ⟨fun h => (by cases h), fun _ => hb⟩
theorem AIdx_intro {xs : List (List AV)} {i : Int} {K : List AV → Prop} (c : List AV) (h0 : 0 ≤ i) (hc : xs[i.toNat]? = some c) (h : K c) : AIdx xs i K := by unfold AIdx; exact ⟨c, h0, hc, h⟩
theorem ARow_intro {n : Nat} {i : Int} {K : Nat → Prop} (h0 : 0 ≤ i) (h1 : i < n) (h : K i.toNat) : ARow n i K := by unfold ARow; exact ⟨h0, h1, h⟩
theorem AGet_intro {xs : List (List AV)} {i : Nat} {K : List AV → Prop} (c : List AV) (hc : xs[i]? = some c) (h : K c) : AGet xs i K := by unfold AGet; exact ⟨c, hc, h⟩
theorem AFits_intro {n b : Nat} {K : Prop} (h0 : n * b ≤ 140737488355328) (h : K) : AFits n b K := by unfold AFits; exact ⟨h0, h⟩
theorem ANe0_intro {n : Int} {K : Prop} (h0 : n ≠ 0) (h : K) : ANe0 n K := by unfold ANe0; exact ⟨h0, h⟩
theorem ALe_intro {i n : Int} {K : Nat → Prop} (h0 : 0 ≤ i) (h1 : i ≤ n) (h : K i.toNat) : ALe i n K := by unfold ALe; exact ⟨h0, h1, h⟩
theorem ANil_intro {n : Nat} {A B : Prop} (ha : n = 0 → A) (hb : B) : ANil n A B := by unfold ANil; exact ⟨ha, hb⟩
theorem AChk_intro {b : Bool} {K : Prop} (h : b = true) (k : K) : AChk b K := by unfold AChk; exact ⟨h, k⟩
theorem AEq_intro {α : Type} {a b : α} {K : Prop} (h : a = b) (k : K) : AEq a b K := by unfold AEq; exact ⟨h, k⟩
theorem AStop_intro {t : TS} {h : HS} {K : TS → HS → Prop} (t' : TS) (h' : HS) (f : List (Nat × Nat)) (ks born : List Nat) (he : entP f ks born t h t' h') (hk : K t' h') : AStop t h K := by unfold AStop; exact ⟨t', h', Ent_intro f ks born he, hk⟩
theorem AFin_intro {tab : Tab} {rs : List ResultVar} {t : TS} {h : HS} {r : LV} {ps : HS} (t' : TS) (f : List (Nat × Nat)) (ks born : List Nat) (hr : resO rs (lkO t') = some r) (he : entP f ks born t h t' ps) : AFin tab rs t h r ps := by unfold AFin; exact ⟨t', ps, Ent_intro f ks born he, .inl ⟨hr, fun _ => rfl⟩⟩
theorem AFin_cell {tab : Tab} {rs : List ResultVar} {t : TS} {h : HS} {r : LV} (t' : TS) (h' : HS) (f : List (Nat × Nat)) (ks born : List Nat) (hr : resC tab rs (lkO t') (lkO h') r) (he : entP f ks born t h t' h') : AFin tab rs t h r [] := by unfold AFin; exact ⟨t', h', Ent_intro f ks born he, .inr ⟨rfl, hr⟩⟩
theorem ALoop_hand {P : Program} {c : Code} {B : TS → HS → KT → Prop} {t : TS} {h : HS} {K : KT} (hh : ∀ F d0 a w, mxC (.loop c) ≤ F.N → Mod F t h a.tmps w → a.defers = d0 → (Code.loop c).wp P (post F d0 K) a w) : ALoop P c B t h K := by
  unfold ALoop AHand; exact .inr hh
theorem APerm_intro {α : Type} {a b : List α} {K : Prop} (h : a.Perm b) (k : K) : APerm a b K := by unfold APerm; exact ⟨h, k⟩
theorem ALook_intro {P : Program} {kt : Nat} {m : List (List AV × List AV)} {kc : List AV} {K : Option (List AV) → Prop} (sg : List KD) (r : Option (List AV)) (hk : KeyOk P kt sg) (h1 : kfit sg kc = true) (h2 : ∀ x ∈ m, kfit sg x.1 = true) (h3 : LookR m kc r) (k : K r) : ALook P kt m kc K := by
  unfold ALook; exact ⟨sg, r, hk, h1, h2, h3, k⟩
theorem AUpd_intro {P : Program} {kt : Nat} {m : List (List AV × List AV)} {kc vc : List AV} {K : List (List AV × List AV) → Prop} (sg : List KD) (m' : List (List AV × List AV)) (hk : KeyOk P kt sg) (h1 : kfit sg kc = true) (h2 : ∀ x ∈ m, kfit sg x.1 = true) (h3 : UpdR m kc vc m') (k : K m') : AUpd P kt m kc vc K := by
  unfold AUpd; exact ⟨sg, m', hk, h1, h2, h3, k⟩
theorem ANext_intro {rem : List (List AV × List AV)} {A : List AV × List AV → List (List AV × List AV) → Prop} {B : Prop} (hA : ∀ x rem', rem.Perm (x :: rem') → A x rem') (hB : rem = [] → B) : ANext rem A B := by
  unfold ANext; exact ⟨hA, hB⟩
theorem ALoop_intro {P : Program} {c : Code} {B : TS → HS → KT → Prop} {t : TS} {h : HS} {K : KT} {ι : Type} (I : ι → Prop) (It : ι → TS) (Ih : ι → HS) (μ : ι → Nat) (i : ι) (f : List (Nat × Nat)) (ks born : List Nat) (hi : I i) (he : entP f ks born t h (It i) (Ih i))
    (hb : ∀ i, I i → B (It i) (Ih i) fun e t' h' => match e with | .normal => ABack I It Ih μ i t' h' | e => K e t' h') : ALoop P c B t h K := by
  unfold ALoop
  exact .inl ⟨ι, I, It, Ih, μ, i, hi, Ent_intro f ks born he, hb⟩
theorem ABack_intro {ι : Type} {I : ι → Prop} {It : ι → TS} {Ih : ι → HS} {μ : ι → Nat} {i : ι} {t : TS} {h : HS} (j : ι) (f : List (Nat × Nat)) (ks born : List Nat) (hj : I j) (hlt : μ j < μ i) (he : entP f ks born t h (It j) (Ih j)) : ABack I It Ih μ i t h := by
  unfold ABack; exact ⟨j, hj, Ent_intro f ks born he, hlt⟩
def argsB : List LV → Bool
  | [] => true
  | .pv _ :: l => argsB l
  | .nl :: l => argsB l
  | .ag cs :: l => pvs cs && argsB l
  | .fn _ cs :: l => pvs cs && argsB l
  | .ep _ _ :: l => argsB l
  | _ => false
theorem argsB_kin {H : Nat → Option Res} : ∀ {ls : List LV}, argsB ls = true → ∀ l ∈ ls, kin H l
  | [], _, l, h => by cases h
  | x :: ls, hb, l, h => by
    have : kin H x ∧ argsB ls = true := by
      cases x <;> simp only [argsB, Bool.and_eq_true] at hb <;> first | exact ⟨trivial, hb⟩ | exact ⟨hb.1, hb.2⟩ | cases hb
    rcases List.mem_cons.1 h with rfl | h
    · exact this.1
    · exact argsB_kin this.2 l h
/-- A call whose contract takes what stays alone. -/
theorem ACall_pv {P : Program} {g : Nat} {lvs : List LV} {h : HS} {K : LV → HS → List Nat → Prop} {r : LV} (hc : CallsTo P g lvs [] r []) (hl : argsB lvs = true) (hk : K r [] []) : ACall P g lvs h K := by
  unfold ACall
  exact ⟨[], r, [], hc, argsB_kin hl, by simp [lkO], by simp [lkO], by simp [lkO], by simp [lkO], by simp, hk⟩
end Go.Proofs.Ytcpgcenlgihmnaa.Abs
/- A contract speaks of keys by number: two numbers may change places. -/
set_option linter.unusedVariables false
set_option linter.unusedSimpArgs false
namespace Go.Proofs.Ytcpgcenlgihmnaa.Abs
open Go

def sw (a b k : Nat) : Nat := match Nat.beq k a with | true => b | false => match Nat.beq k b with | true => a | false => k
theorem sw_sw (a b k : Nat) : sw a b (sw a b k) = k := by
  unfold sw
  cases h1 : Nat.beq k a with
  | true =>
    obtain rfl := beq_t h1
    simp only
    cases h2 : Nat.beq b k with
    | true => exact beq_t h2
    | false => simp
  | false =>
    simp only
    cases h2 : Nat.beq k b with
    | true => obtain rfl := beq_t h2; simp
    | false => simp [h1, h2]
mutual
def renL (a b : Nat) : LV → LV
  | .bx k o => .bx (sw a b k) o
  | .rw k m => .rw (sw a b k) m
  | .rv k lo m => .rv (sw a b k) lo m
  | .er k i o => .er (sw a b k) i o
  | .ag cs => .ag (renLs a b cs)
  | .tu cs => .tu (renLs a b cs)
  | .fn f cs => .fn f (renLs a b cs)
  | .mr k => .mr (sw a b k)
  | .it k => .it (sw a b k)
  | .pv x => .pv x
  | .nl => .nl
  | .ep c o => .ep c o
  | .un => .un
  | .sk => .sk
def renLs (a b : Nat) : List LV → List LV
  | [] => []
  | l :: ls => renL a b l :: renLs a b ls
end
theorem renLs_map (a b : Nat) : ∀ ls, renLs a b ls = ls.map (renL a b)
  | [] => by simp [renLs]
  | l :: ls => by simp [renLs, renLs_map a b ls]
mutual
theorem renL_renL (a b : Nat) : ∀ l, renL a b (renL a b l) = l
  | .bx k o => by simp [renL, sw_sw]
  | .rw k m => by simp [renL, sw_sw]
  | .rv k lo m => by simp [renL, sw_sw]
  | .er k i o => by simp [renL, sw_sw]
  | .ag cs => by simp [renL, renLs_renLs a b cs]
  | .tu cs => by simp [renL, renLs_renLs a b cs]
  | .fn f cs => by simp [renL, renLs_renLs a b cs]
  | .mr k => by simp [renL, sw_sw]
  | .it k => by simp [renL, sw_sw]
  | .pv x => by simp [renL]
  | .nl => by simp [renL]
  | .ep c o => by simp [renL]
  | .un => by simp [renL]
  | .sk => by simp [renL]
theorem renLs_renLs (a b : Nat) : ∀ ls, renLs a b (renLs a b ls) = ls
  | [] => by simp [renLs]
  | l :: ls => by simp [renLs, renL_renL a b l, renLs_renLs a b ls]
end
def renR (a b : Nat) : Res → Res
  | .box cs => .box (renLs a b cs)
  | r => r
theorem renR_renR (a b : Nat) (r : Res) : renR a b (renR a b r) = r := by cases r <;> simp [renR, renLs_renLs]
def renHS (a b : Nat) : HS → HS
  | [] => []
  | (k, r) :: l => (sw a b k, renR a b r) :: renHS a b l
def renH (a b : Nat) (H : Nat → Option Res) : Nat → Option Res := fun k => (H (sw a b k)).map (renR a b)
theorem renH_renH (a b : Nat) (H : Nat → Option Res) : renH a b (renH a b H) = H := by
  funext k
  simp only [renH, sw_sw, Option.map_map, Function.comp_def, renR_renR]
  cases H k <;> rfl
theorem renH_lkO (a b : Nat) : ∀ h : HS, lkO (renHS a b h) = renH a b (lkO h)
  | [] => by funext k; rfl
  | (j, r) :: h => by
    funext k
    have ih := congrFun (renH_lkO a b h) k
    simp only [renHS, lkO, renH] at ih ⊢
    cases h1 : Nat.beq (sw a b j) k with
    | true =>
      obtain rfl := beq_t h1
      simp [sw_sw]
    | false =>
      have hne := beq_f h1
      have h2 : Nat.beq j (sw a b k) = false := by
        cases h3 : Nat.beq j (sw a b k) with
        | false => rfl
        | true => exact (hne (by rw [beq_t h3, sw_sw])).elim
      simp only [Bool.false_eq_true, if_false, h2, ih]
section
variable {w : World} {S : Nat → Prop} {γ : Nat → GV} {H : Nat → Option Res}
theorem renH_at {a b k : Nat} {r : Res} (h : H k = some r) : renH a b H (sw a b k) = some (renR a b r) := by simp [renH, sw_sw, h]
theorem RepL.ren (a b : Nat) {v : Value} {l : LV} (h : RepL w S γ H v l) : RepL w S (fun k => γ (sw a b k)) (renH a b H) v (renL a b l) := by
  have g : ∀ k, (fun k => γ (sw a b k)) (sw a b k) = γ k := fun k => by simp [sw_sw]
  induction h with
  | pv h => simpa [renL] using RepL.pv h
  | nl => simpa [renL] using RepL.nl
  | bx k o b' cs h hb => simp only [renL]; exact .bx _ o b' _ (renH_at h) (by simp only [sw_sw]; exact hb)
  | rw k m es xs h hm hc hb =>
    simp only [renL]
    have := RepL.rw (w := w) (S := S) (γ := fun k => γ (sw a b k)) (H := renH a b H) (sw a b k) m es xs (renH_at h) hm (by simp only [sw_sw]; exact hc) (by simp only [sw_sw]; exact hb)
    simpa only [sw_sw] using this
  | rv k lo m es xs ad c h hl hm hc ha => simp only [renL]; exact .rv _ lo m es xs ad c (renH_at h) hl hm hc (by simp only [sw_sw]; exact ha)
  | er k i o es b' xs h hb => simp only [renL]; exact .er _ i o es b' xs (renH_at h) (by simp only [sw_sw]; exact hb)
  | ep c o b' off vs hS hc hp => simp only [renL]; exact .ep c o b' off vs hS hc hp
  | ag arr cs hn h1 h ih =>
    simp only [renL]
    refine .ag arr _ (by rw [renLs_map]; simpa using hn) h1 fun i v c hv hc => ?_
    rw [renLs_map, List.getElem?_map] at hc
    obtain ⟨c0, hc0, rfl⟩ := Option.map_eq_some_iff.1 hc
    exact ih i v c0 hv hc0
  | tu arr cs hn h ih =>
    simp only [renL]
    refine .tu arr _ (by rw [renLs_map]; simpa using hn) fun i v c hv hc => ?_
    rw [renLs_map, List.getElem?_map] at hc
    obtain ⟨c0, hc0, rfl⟩ := Option.map_eq_some_iff.1 hc
    exact ih i v c0 hv hc0
  | fn f arr cs hn h ih =>
    simp only [renL]
    refine .fn f arr _ (by rw [renLs_map]; simpa using hn) fun i v c hv hc => ?_
    rw [renLs_map, List.getElem?_map] at hc
    obtain ⟨c0, hc0, rfl⟩ := Option.map_eq_some_iff.1 hc
    exact ih i v c0 hv hc0
  | mr k b' m h hb => simp only [renL]; exact .mr _ b' m (renH_at h) (by simp only [sw_sw]; exact hb)
  | it k b' rem cur h hb => simp only [renL]; exact .it _ b' rem cur (renH_at h) (by simp only [sw_sw]; exact hb)
  | drw k m ad c h hc ha => simp only [renL]; exact .drw _ m ad c (renH_at h) hc ha
  | drv k lo m ad c h h0 hc ha => simp only [renL]; exact .drv _ lo m ad c (renH_at h) h0 hc ha
  | der k i o b' p h => simp only [renL]; exact .der _ i o b' p (renH_at h)
  | mo k b' es m h hb => simp only [renL]; exact .mo _ b' es m (renH_at h) (by simp only [sw_sw]; exact hb)
  | dbx k o b' p h => simp only [renL]; exact .dbx _ o b' p (renH_at h)
  | dmr k r h => simp only [renL]; exact .dmr _ r (renH_at h)
  | dit k b' h => simp only [renL]; exact .dit _ b' (renH_at h)
  | un v => simp only [renL]; exact .un v
  | sk => simp only [renL]; exact .sk
theorem renR_dead {a b : Nat} {r : Res} : renR a b r = .dead ↔ r = .dead := by cases r <;> simp [renR]
theorem RepR.ren (a b k : Nat) {r : Res} (h : RepR w S γ H (sw a b k) r) : RepR w S (fun k => γ (sw a b k)) (renH a b H) k (renR a b r) := by
  cases r with
  | box cs =>
    obtain ⟨b', arr, ty, h1, h2, h3, h4⟩ := h
    refine ⟨b', arr, ty, h1, h2, by rw [renLs_map]; simpa using h3, fun i v c hv hc => ?_⟩
    rw [renLs_map, List.getElem?_map] at hc
    obtain ⟨c0, hc0, rfl⟩ := Option.map_eq_some_iff.1 hc
    exact ⟨(h4 i v c0 hv hc0).1, (h4 i v c0 hv hc0).2.ren a b⟩
  | _ => exact h
theorem renH_some {a b k : Nat} {r : Res} (h : renH a b H k = some r) : ∃ r0, H (sw a b k) = some r0 ∧ r = renR a b r0 := by
  obtain ⟨r0, h1, rfl⟩ := Option.map_eq_some_iff.1 h
  exact ⟨r0, h1, rfl⟩
theorem Owns.ren (a b : Nat) (h : Owns w S γ H (fun _ => True)) : Owns w S (fun k => γ (sw a b k)) (renH a b H) (fun _ => True) where
  rep k r _ hr := by
    obtain ⟨r0, h1, rfl⟩ := renH_some hr
    exact (h.rep _ r0 trivial h1).ren a b k
  out k r c _ hr hn hb := by
    obtain ⟨r0, h1, rfl⟩ := renH_some hr
    exact h.out _ r0 c trivial h1 (fun e => hn (renR_dead.2 e)) hb
  apart k k' r r' c _ _ hr hr' hn hn' hne hb hb' := by
    obtain ⟨r0, h1, rfl⟩ := renH_some hr
    obtain ⟨r1, h2, rfl⟩ := renH_some hr'
    exact h.apart _ _ r0 r1 c trivial trivial h1 h2 (fun e => hn (renR_dead.2 e)) (fun e => hn' (renR_dead.2 e)) (fun e => hne (by have := congrArg (sw a b) e; simpa [sw_sw] using this)) hb hb'
theorem Blk.ren (a b : Nat) {c : Nat} : Blk (fun k => γ (sw a b k)) (renH a b H) (fun _ => True) c ↔ Blk γ H (fun _ => True) c := by
  constructor
  · rintro ⟨k, r, _, hr, hn, hb⟩
    obtain ⟨r0, h1, rfl⟩ := renH_some hr
    exact ⟨sw a b k, r0, trivial, h1, fun e => hn (renR_dead.2 e), hb⟩
  · rintro ⟨k, r, _, hr, hn, hb⟩
    exact ⟨sw a b k, renR a b r, trivial, renH_at hr, fun e => hn (renR_dead.1 e), by simp only [sw_sw]; exact hb⟩
end
theorem CallsTo.swap {P : Program} {g : Nat} {lvs : List LV} {ph ps : HS} {r : LV} (a b : Nat) (h : CallsTo P g lvs ph r ps) : CallsTo P g (renLs a b lvs) (renHS a b ph) (renL a b r) (renHS a b ps) := by
  obtain ⟨h0, h⟩ := h
  refine ⟨h0, fun w S γ vs hS hown hvs hrep => ?_⟩
  have e1 : renH a b (lkO (renHS a b ph)) = lkO ph := by rw [renH_lkO, renH_renH]
  have hown' := hown.ren a b
  rw [e1] at hown'
  have := h w S (fun k => γ (sw a b k)) vs hS hown' (by rw [hvs, renLs_map]; simp) (fun i v l hv hl => by
    have h1 := (hrep i v (renL a b l) hv (by rw [renLs_map, List.getElem?_map, hl]; rfl)).ren a b
    rw [e1, renL_renL] at h1
    exact h1)
  refine this.mono ?_
  rintro e w' ⟨v, S', γ', rfl, q1, q2, q3, q4, q5⟩
  have eb : ∀ c, Blk (fun k => γ (sw a b k)) (lkO ph) (fun _ => True) c ↔ Blk γ (lkO (renHS a b ph)) (fun _ => True) c := fun c => by
    have := Blk.ren (γ := γ) (H := lkO (renHS a b ph)) a b (c := c)
    rw [e1] at this
    exact this
  have ef : Blk (fun k => γ (sw a b k)) (lkO ph) (fun _ => True) = Blk γ (lkO (renHS a b ph)) (fun _ => True) := funext fun c => propext (eb c)
  rw [ef] at q1
  refine ⟨v, S', fun k => γ' (sw a b k), rfl, q1, ?_, fun c hc => ?_, fun k r r' h1 h2 h3 => ?_, ?_⟩
  · rw [renH_lkO]; exact q2.ren a b
  · rw [renH_lkO] at hc
    rw [← eb]
    exact q3 c ((Blk.ren a b).1 hc)
  · rw [renH_lkO] at h1 h2
    obtain ⟨r0, g1, rfl⟩ := renH_some h1
    obtain ⟨r1, g2, rfl⟩ := renH_some h2
    have := q4 (sw a b k) r0 r1 g1 g2 (fun e => h3 (renR_dead.2 e))
    simpa only [sw_sw] using this
  · rw [renH_lkO]; exact q5.ren a b
end Go.Proofs.Ytcpgcenlgihmnaa.Abs
/- A contract that takes a list that stays takes a row, which is used up; takes nil. -/
set_option linter.unusedVariables false
set_option linter.unusedSimpArgs false
namespace Go.Proofs.Ytcpgcenlgihmnaa.Abs
open Go

/-- What is handed for what is asked. -/
inductive ArgR (K es m : Nat) (ys : List (List AV)) : LV → LV → Prop
  | same (l : LV) : ArgR K es m ys l l
  | nl (e : Nat) : ArgR K es m ys .nl (.pv (.lst e []))
  | rw : ArgR K es m ys (.rw K m) (.pv (.lst es (ys.take m)))
inductive ArgsR (K es m : Nat) (ys : List (List AV)) : List LV → List LV → Prop
  | nil : ArgsR K es m ys [] []
  | cons {l l' : LV} {ls ls' : List LV} (h : ArgR K es m ys l' l) (t : ArgsR K es m ys ls' ls) : ArgsR K es m ys (l' :: ls') (l :: ls)
theorem ArgsR.len {K es m : Nat} {ys : List (List AV)} {ls ls' : List LV} (h : ArgsR K es m ys ls' ls) : ls'.length = ls.length := by induction h <;> simp [*]
theorem ArgsR.get {K es m : Nat} {ys : List (List AV)} {ls ls' : List LV} (h : ArgsR K es m ys ls' ls) : ∀ (i : Nat) (l : LV), ls[i]? = some l → ∃ l', ls'[i]? = some l' ∧ ArgR K es m ys l' l := by
  induction h with
  | nil => intro i l h; simp at h
  | cons h t ih =>
    intro i l hl
    cases i with
    | zero => cases hl; exact ⟨_, rfl, h⟩
    | succ i => exact ih i l hl
theorem CallsTo.conv {P : Program} {g : Nat} {lvs lvs' : List LV} {ph ps : HS} {r : LV} (h : CallsTo P g lvs ph r ps) (K es m : Nat) (ys : List (List AV)) (ha : ArgsR K es m ys lvs' lvs) (hk : ∀ l ∈ lvs, kin (lkO ph) l) (hbx : ∀ k cs, lkO ph k = some (.box cs) → ∀ c ∈ cs, kin (lkO ph) c)
    (h1 : lkO ph K = none) (h2 : lkO ps K = none) : CallsTo P g lvs' ((K, .row es ys) :: ph) r ((K, .dead) :: ps) := by
  obtain ⟨h0, h⟩ := h
  refine ⟨h0, fun w S γ vs hS hown hvs hrep => ?_⟩
  have eK : lkO ((K, Res.row es ys) :: ph) K = some (.row es ys) := by simp [lkO]
  have eo : ∀ k x, lkO ph k = some x → lkO ((K, Res.row es ys) :: ph) k = some x ∧ K ≠ k := fun k x hx => by
    have hne : K ≠ k := by rintro rfl; rw [h1] at hx; cases hx
    have : Nat.beq K k = false := by cases hb : Nat.beq K k; rfl; exact absurd (beq_t hb) hne
    exact ⟨by simp [lkO, this, hx], hne⟩
  -- the row's block stays
  let S1 : Nat → Prop := fun b => S b ∨ (γ K).has b
  have up : ∀ {v a}, Rep w S v a → Rep w S1 v a := fun h => h.mono (fun _ h => .inl h) (fun _ _ => rfl)
  have upL : ∀ {H' : Nat → Option Res} {v l}, RepL w S γ H' v l → RepL w S1 γ H' v l := fun h => h.mono (fun _ h => .inl h) (fun _ _ => rfl) ⟨fun k r h => ⟨r, h, Like.refl r, fun _ => .rfl'⟩⟩
  have lower : ∀ {v l}, kin (lkO ph) l → RepL w S γ (lkO ((K, Res.row es ys) :: ph)) v l → RepL w S1 γ (lkO ph) v l := fun hkin hr => upL (hr.re hkin fun k r hr => (eo k r hr).1)
  have hown1 : Owns w S1 γ (lkO ph) (fun _ => True) := by
    refine ⟨fun k r _ hr => ?_, fun k r b _ hr hn hb => ?_, fun k k' r r' b _ _ hr hr' => hown.apart k k' r r' b trivial trivial (eo k r hr).1 (eo k' r' hr').1⟩
    · have := hown.rep k r trivial (eo k r hr).1
      cases r with
      | box cs =>
        obtain ⟨b, arr, ty, g1, g2, g3, g4⟩ := this
        exact ⟨b, arr, ty, g1, g2, g3, fun i v c hv hc => ⟨(g4 i v c hv hc).1, lower (hbx k cs hr c (List.mem_of_getElem? hc)) (g4 i v c hv hc).2⟩⟩
      | _ => exact RepR.mono (H := lkO ph) (H' := lkO ph) (w := w) (fun _ h => .inl h) (fun _ _ => rfl) ⟨fun k r h => ⟨r, h, Like.refl r, fun _ => .rfl'⟩⟩ rfl (fun _ _ _ => rfl) this
    · obtain ⟨g1, g2⟩ := hown.out k r b trivial (eo k r hr).1 hn hb
      refine ⟨g1, ?_⟩
      rintro (h | h)
      · exact g2 h
      · exact hown.apart K k _ r b trivial trivial eK (eo k r hr).1 (by simp) hn (eo k r hr).2 h hb
  have hS1 : ∀ b, S1 b → b < w.heap.size := fun b hb => by
    rcases hb with hb | hb
    · exact hS b hb
    · exact (hown.out K _ b trivial eK (by simp) hb).1
  have := h w S1 γ vs hS1 hown1 (by rw [hvs, ha.len]) (fun i v l hv hl => by
    obtain ⟨l', hl', har⟩ := ha.get i l hl
    have hr := hrep i v l' hv hl'
    cases har with
    | same _ => exact lower (hk l (List.mem_of_getElem? hl)) hr
    | nl e => cases hr; exact .pv (.lst none 0 e [] 0 0 (fun _ _ => undef) (by simp) (by simp) (by simp) (by simp) (by simp))
    | rw =>
      -- the row as a list
      have M : ModF ⟨0, w, S, Blk γ (lkO ((K, Res.row es ys) :: ph)) (fun _ => True), fun _ => none⟩ S γ (fun _ => none) (lkO ((K, Res.row es ys) :: ph)) #[] w :=
        ⟨After.refl hS, Nat.zero_le _, fun n l h => (by cases h), hown, fun b hb => .inl hb, fun k g h => by cases h⟩
      obtain ⟨_, h3⟩ := toAV_rep (tab := []) M hr (ty := 0) (a := .lst es (ys.take m)) (ks := [K]) (by simp [toAVO, eK])
      refine .pv ((h3 [K] (by simp)).mono (fun b hb => ?_) (fun _ _ => rfl))
      rcases hb with hb | ⟨k, hk, hb⟩
      · exact .inl hb
      · simp at hk; subst hk; exact .inr hb)
  refine this.mono ?_
  rintro e w' ⟨v, S', γ', rfl, q1, q2, q3, q4, q5⟩
  have ed : lkO ((K, Res.dead) :: ps) K = some .dead := by simp [lkO]
  have ep : ∀ k, K ≠ k → lkO ((K, Res.dead) :: ps) k = lkO ps k := fun k hne => by
    have : Nat.beq K k = false := by cases hb : Nat.beq K k; rfl; exact absurd (beq_t hb) hne
    simp [lkO, this]
  have es' : ∀ k x, lkO ps k = some x → lkO ((K, Res.dead) :: ps) k = some x ∧ K ≠ k := fun k x hx => by
    have hne : K ≠ k := by rintro rfl; rw [h2] at hx; cases hx
    exact ⟨by rw [ep k hne]; exact hx, hne⟩
  have kp : Keeps γ' γ' (lkO ps) (lkO ((K, Res.dead) :: ps)) := ⟨fun k r h => ⟨r, (es' k r h).1, Like.refl r, fun _ => .rfl'⟩⟩
  have live : ∀ k x, lkO ((K, Res.dead) :: ps) k = some x → x ≠ .dead → lkO ps k = some x := fun k x hx hn => by
    by_cases hne : K = k
    · subst hne; rw [ed] at hx; cases hx; exact (hn rfl).elim
    · rw [ep k hne] at hx; exact hx
  have bE : ∀ b, Blk γ (lkO ph) (fun _ => True) b → Blk γ (lkO ((K, Res.row es ys) :: ph)) (fun _ => True) b := fun b ⟨k, r, _, hr, hn, hb⟩ => ⟨k, r, trivial, (eo k r hr).1, hn, hb⟩
  have bK : ∀ b, (γ K).has b → Blk γ (lkO ((K, Res.row es ys) :: ph)) (fun _ => True) b := fun b hb => ⟨K, _, trivial, eK, by simp, hb⟩
  refine ⟨v, S', γ', rfl, ⟨q1.os, q1.tape, q1.output, q1.size, fun b hb hn => q1.kept b hb fun he => hn (bE b he), fun b hb => q1.sub b (.inl hb), fun b hb => ?_⟩, ⟨fun k r _ hr => ?_, fun k r b _ hr hn hb => q2.out k r b trivial (live k r hr hn) hn hb, fun k k' r r' b _ _ hr hr' hn hn' => q2.apart k k' r r' b trivial trivial (live k r hr hn) (live k' r' hr' hn') hn hn'⟩, fun b hb => ?_, fun k r r' hr hr' hn => ?_, q5.mono (fun _ h => h) (fun _ _ => rfl) kp⟩
  · obtain ⟨g1, g2⟩ := q1.sup b hb
    refine ⟨g1, ?_⟩
    rcases g2 with (g2 | g2) | g2 | g2
    · exact .inl g2
    · exact .inr (.inl (bK b g2))
    · exact .inr (.inl (bE b g2))
    · exact .inr (.inr g2)
  · by_cases hd : r = .dead
    · subst hd; trivial
    · exact (q2.rep k r trivial (live k r hr hd)).mono (fun _ h => h) (fun _ _ => rfl) kp rfl (fun _ _ _ => rfl)
  · obtain ⟨k, r, _, hr, hn, hb⟩ := hb
    rcases q3 b ⟨k, r, trivial, live k r hr hn, hn, hb⟩ with h | h
    · exact .inl (bE b h)
    · exact .inr h
  · have h3 := live k r' hr' hn
    have hne : K ≠ k := (es' k r' h3).2
    have h4 : lkO ph k = some r := by
      have : Nat.beq K k = false := by cases hb : Nat.beq K k; rfl; exact absurd (beq_t hb) hne
      simpa [lkO, this] using hr
    exact q4 k r r' h4 h3 hn
/-- nil for an empty list. -/
inductive NlR : List LV → List LV → Prop
  | nil : NlR [] []
  | same (l : LV) {ls ls' : List LV} (t : NlR ls' ls) : NlR (l :: ls') (l :: ls)
  | nl (e : Nat) {ls ls' : List LV} (t : NlR ls' ls) : NlR (.nl :: ls') (.pv (.lst e []) :: ls)
theorem NlR.get {ls ls' : List LV} (h : NlR ls' ls) : ls'.length = ls.length ∧ ∀ (i : Nat) (l : LV), ls[i]? = some l → ∃ l', ls'[i]? = some l' ∧ (l' = l ∨ (l' = .nl ∧ ∃ e, l = .pv (.lst e []))) := by
  induction h with
  | nil => exact ⟨rfl, fun i l h => by simp at h⟩
  | same l t ih =>
    refine ⟨by simp [ih.1], fun i l' hl => ?_⟩
    cases i with
    | zero => cases hl; exact ⟨_, rfl, .inl rfl⟩
    | succ i => exact ih.2 i l' hl
  | nl e t ih =>
    refine ⟨by simp [ih.1], fun i l' hl => ?_⟩
    cases i with
    | zero => cases hl; exact ⟨_, rfl, .inr ⟨rfl, e, rfl⟩⟩
    | succ i => exact ih.2 i l' hl
theorem CallsTo.nl {P : Program} {g : Nat} {lvs lvs' : List LV} {ph ps : HS} {r : LV} (h : CallsTo P g lvs ph r ps) (ha : NlR lvs' lvs) : CallsTo P g lvs' ph r ps := by
  obtain ⟨h0, h⟩ := h
  obtain ⟨hl, ha⟩ := ha.get
  refine ⟨h0, fun w S γ vs hS hown hvs hrep => h w S γ vs hS hown (by rw [hvs, hl]) (fun i v l hv hl => ?_)⟩
  obtain ⟨l', hl', har⟩ := ha i l hl
  have hr := hrep i v l' hv hl'
  rcases har with rfl | ⟨rfl, e, rfl⟩
  · exact hr
  · cases hr; exact .pv (.lst none 0 e [] 0 0 (fun _ _ => undef) (by simp) (by simp) (by simp) (by simp) (by simp))
end Go.Proofs.Ytcpgcenlgihmnaa.Abs
/- Keys: numbers, strings, structs and arrays of them. -/
set_option linter.unusedVariables false
set_option linter.unusedSimpArgs false
namespace Go.Proofs.Ytcpgcenlgihmnaa.Abs
open Go

theorem kfit_cons {k : KD} {ks : List KD} {as : List AV} (h : kfit (k :: ks) as = true) : ∃ a r, as = a :: r ∧ kfit ks r = true ∧ ((∃ kk n, k = .int kk ∧ a = .int kk n) ∨ (∃ s, k = .str ∧ a = .str s) ∨ (∃ b, k = .bool ∧ a = .bool b)) := by
  cases as with
  | nil => cases k <;> simp [kfit] at h
  | cons a r =>
    cases k <;> cases a <;> simp only [kfit, Bool.and_eq_true] at h <;> first
      | exact ⟨_, r, rfl, h.2, .inl ⟨_, _, rfl, by rw [keqB_eq h.1]⟩⟩
      | exact ⟨_, r, rfl, h, .inr (.inl ⟨_, rfl, rfl⟩)⟩
      | exact ⟨_, r, rfl, h, .inr (.inr ⟨_, rfl, rfl⟩)⟩
      | cases h
theorem kfit_nil {as : List AV} (h : kfit [] as = true) : as = [] := by
  cases as with
  | nil => rfl
  | cons a r => simp [kfit] at h
def kdB (P : Program) (t : Nat) : KD → Bool
  | .int k => match P.underlying t with | some (.int k') => k == k' | _ => false
  | .str => match P.underlying t with | some .string => true | _ => false
  | .bool => match P.underlying t with | some .bool => true | _ => false
/-- A cell of a kind, of a type. -/
inductive KV (P : Program) (t : Nat) : KD → AV → Prop
  | int (k : IntKind) (n : Int) (h : P.underlying t = some (.int k)) : KV P t (.int k) (.int k n)
  | str (s : ByteArray) (h : P.underlying t = some .string) : KV P t .str (.str s)
  | bool (b : Bool) (h : P.underlying t = some .bool) : KV P t .bool (.bool b)
theorem kv_of {P : Program} {t : Nat} {k : KD} {a : AV} (hk : kdB P t k = true) (ha : (∃ kk n, k = .int kk ∧ a = .int kk n) ∨ (∃ s, k = .str ∧ a = .str s) ∨ (∃ b, k = .bool ∧ a = .bool b)) : KV P t k a := by
  rcases ha with ⟨kk, n, rfl, rfl⟩ | ⟨s, rfl, rfl⟩ | ⟨b, rfl, rfl⟩
  · simp only [kdB] at hk
    split at hk
    · rename_i k' h; simp at hk; subst hk; exact .int _ _ h
    · cases hk
  · simp only [kdB] at hk
    split at hk
    · rename_i h; exact .str _ h
    · cases hk
  · simp only [kdB] at hk
    split at hk
    · rename_i h; exact .bool _ h
    · cases hk
section
variable {P : Program} {w : World} {t : Nat}
theorem KV.part {k : KD} {a : AV} (h : KV P t k a) {xs : Array Value} {off : Nat} (hx : xs[off]? = some (valOf a)) : (part t xs off).run P w = .ok (valOf a) w := by
  cases h <;> rename_i hu <;> simp [Go.part, isAgg, underlying, hu, hx]
theorem KV.chk {k : KD} {a : AV} (h : KV P t k a) (e : Bool) (n : Nat) : (Instr.checkKey e (n + 1) t (valOf a)).run P w = .ok () w := by
  cases h <;> rename_i hu <;> simp [Instr.checkKey, run_und hu, valOf]
theorem KV.eq {k : KD} {a b : AV} (h : KV P t k a) (h' : KV P t k b) (d : Nat) : ∃ r, (Op.equalIn (d + 1) t (valOf a) (valOf b)).run P w = .ok r w ∧ (r = true ↔ a = b) := by
  cases h with
  | int k n hu => cases h' with | int _ m _ => exact ⟨n == m, run_equalIn_int w d t k k n m hu, by simp⟩
  | str s hu => cases h' with | str s' _ => exact ⟨s.toList == s'.toList, run_equalIn_string w d t s s' hu, by rw [← beq_toListBytes, MapKept.bytes_beq]; simp⟩
  | bool b hu => cases h' with | bool b' _ => exact ⟨b == b', run_equalIn_bool' w d t b b' hu, by simp⟩
theorem KV.now {k : KD} {a b : AV} (h : KV P t k a) (h' : KV P t k b) {d : TypeDesc} (hd : P.underlying t = some d) : ∃ r, Instr.sameNow d (valOf a) (valOf b) = some r ∧ (r = true ↔ a = b) := by
  cases h with
  | int k n hu => cases h' with | int _ m _ => rw [hu] at hd; cases hd; exact ⟨n == m, by simp [valOf, Instr.sameNow], by simp⟩
  | str s hu => cases h' with | str s' _ => rw [hu] at hd; cases hd; exact ⟨s == s', by simp [valOf, Instr.sameNow], by rw [MapKept.bytes_beq]; simp⟩
  | bool b hu => cases h' with | bool b' _ => rw [hu] at hd; cases hd; exact ⟨b == b', by simp [valOf, Instr.sameNow], by simp⟩
end
/-- A key of one cell. -/
theorem KeyOk.one {P : Program} {kt : Nat} (k : KD) (hk : kdB P kt k = true) (hg : P.eqGuardType P.depth kt = false) : KeyOk P kt [k] := by
  have und : ∃ d, P.underlying kt = some d := by
    cases k <;> simp only [kdB] at hk <;> split at hk <;> first | exact ⟨_, by assumption⟩ | cases hk
  obtain ⟨d, hd⟩ := und
  have cell : ∀ a, kfit [k] a = true → ∃ x, a = [x] ∧ KV P kt k x := fun a ha => by
    obtain ⟨x, r, rfl, hr, hx⟩ := kfit_cons ha
    rw [kfit_nil hr]
    exact ⟨x, rfl, kv_of hk hx⟩
  refine ⟨⟨d, hd, fun a b ha hb => ?_⟩, fun e w a ha => ?_, hg, fun w a b ha hb => ?_⟩
  · obtain ⟨x, rfl, hx⟩ := cell a ha
    obtain ⟨y, rfl, hy⟩ := cell b hb
    obtain ⟨r, h1, h2⟩ := hx.now hy hd
    exact .inr ⟨r, h1, by rw [h2]; simp⟩
  · obtain ⟨x, rfl, hx⟩ := cell a ha
    exact hx.chk e 9999
  · obtain ⟨x, rfl, hx⟩ := cell a ha
    obtain ⟨y, rfl, hy⟩ := cell b hb
    obtain ⟨r, h1, h2⟩ := hx.eq (w := w) hy 9999
    exact ⟨r, h1, by rw [h2]; simp⟩
/-- A struct's fields, a cell each. -/
def fkB (P : Program) : List Field → Nat → List KD → Bool
  | [], _, [] => true
  | f :: fs, i, k :: ks => f.offset == i && f.name != "_" && kdB P f.type k && fkB P fs (i + 1) ks
  | _, _, _ => false
section
variable {P : Program} {w : World}
theorem fk_part (e : Bool) (n : Nat) : ∀ (fs : List Field) (i : Nat) (ks : List KD) (as : List AV) (xs : Array Value), fkB P fs i ks = true → kfit ks as = true → (∀ j a, as[j]? = some a → xs[i + j]? = some (valOf a)) →
    ∀ f ∈ fs, f.name ≠ "_" ∧ ∃ v, (part f.type xs f.offset).run P w = .ok v w ∧ (Instr.checkKey e (n + 1) f.type v).run P w = .ok () w
  | [], i, ks, as, xs, _, _, _ => by simp
  | f :: fs, i, [], as, xs, h, _, _ => by simp [fkB] at h
  | f :: fs, i, k :: ks, as, xs, h, ha, hx => by
    simp only [fkB, Bool.and_eq_true, beq_iff_eq, bne_iff_ne, ne_eq] at h
    obtain ⟨⟨⟨h1, h2⟩, h3⟩, h4⟩ := h
    obtain ⟨a, r, rfl, hr, ha⟩ := kfit_cons ha
    have hv := kv_of h3 ha
    have hp := hv.part (w := w) (xs := xs) (off := f.offset) (by rw [h1]; exact hx 0 a rfl)
    have ih := fk_part e n fs (i + 1) ks r xs h4 hr fun j b hb => by have := hx (j + 1) b (by simpa using hb); rwa [show i + (j + 1) = i + 1 + j by omega] at this
    intro g hg
    rcases List.mem_cons.1 hg with rfl | hg
    · exact ⟨h2, _, hp, hv.chk e n⟩
    · exact ih g hg
theorem run_ck {t : Nat} {fs : Array Field} (hu : P.underlying t = some (.struct fs)) (e : Bool) (n : Nat) (xs : Array Value) (h : ∀ f ∈ fs.toList, f.name ≠ "_" ∧ ∃ v, (part f.type xs f.offset).run P w = .ok v w ∧ (Instr.checkKey e (n + 1) f.type v).run P w = .ok () w) : (Instr.checkKey e (n + 2) t (.agg xs)).run P w = .ok () w := by
  have e0 : (Instr.checkKey e ((n + 1) + 1) t (.agg xs)).run P w = .ok () w := by
    rw [Instr.checkKey]
    simp only [Sem.run_bind, run_und hu, Result.andThen_ok]
    rw [← Array.forIn_toList]
    generalize fs.toList = l at h ⊢
    induction l with
    | nil => simp
    | cons f l ih =>
      obtain ⟨h1, v, h2, h3⟩ := h f (by simp)
      have ih := ih fun g hg => h g (by simp [hg])
      simp only [List.forIn_cons, Sem.run_bind, h1, ne_eq, not_false_eq_true, if_true, h2, Result.andThen_ok, h3, Sem.run_pure]
      exact ih
  exact e0
theorem fk_eq (d : Nat) : ∀ (fs : List Field) (i : Nat) (ks : List KD) (as bs : List AV) (xs ys : Array Value), fkB P fs i ks = true → kfit ks as = true → kfit ks bs = true → (∀ j a, as[j]? = some a → xs[i + j]? = some (valOf a)) → (∀ j a, bs[j]? = some a → ys[i + j]? = some (valOf a)) →
    ∃ r, (Op.eqFields (d + 1) xs ys fs).run P w = .ok r w ∧ (r = true ↔ as = bs)
  | [], i, ks, as, bs, xs, ys, h, ha, hb, _, _ => by
    cases ks with
    | nil => rw [kfit_nil ha, kfit_nil hb]; exact ⟨true, by simp [Op.eqFields], by simp⟩
    | cons k ks => simp [fkB] at h
  | f :: fs, i, [], as, bs, xs, ys, h, _, _, _, _ => by simp [fkB] at h
  | f :: fs, i, k :: ks, as, bs, xs, ys, h, ha, hb, hx, hy => by
    simp only [fkB, Bool.and_eq_true, beq_iff_eq, bne_iff_ne, ne_eq] at h
    obtain ⟨⟨⟨h1, h2⟩, h3⟩, h4⟩ := h
    obtain ⟨a, r, rfl, hr, ha⟩ := kfit_cons ha
    obtain ⟨b, s, rfl, hs, hb⟩ := kfit_cons hb
    have hv := kv_of h3 ha
    have hv' := kv_of h3 hb
    have hp := hv.part (w := w) (xs := xs) (off := f.offset) (by rw [h1]; exact hx 0 a rfl)
    have hp' := hv'.part (w := w) (xs := ys) (off := f.offset) (by rw [h1]; exact hy 0 b rfl)
    obtain ⟨q, g1, g2⟩ := hv.eq (w := w) hv' d
    obtain ⟨r', g3, g4⟩ := fk_eq d fs (i + 1) ks r s xs ys h4 hr hs (fun j b hb => by have := hx (j + 1) b (by simpa using hb); rwa [show i + (j + 1) = i + 1 + j by omega] at this) (fun j b hb => by have := hy (j + 1) b (by simpa using hb); rwa [show i + (j + 1) = i + 1 + j by omega] at this)
    simp only [Op.eqFields, h2, ne_eq, not_false_eq_true, if_true, Sem.run_bind, hp, hp', Result.andThen_ok, g1]
    cases q with
    | false => exact ⟨false, by simp, by simp only [Bool.false_eq_true, false_iff]; intro e; cases e; have := g2.2 rfl; cases this⟩
    | true =>
      have := g2.1 rfl
      subst this
      exact ⟨r', by simpa using g3, by rw [g4]; simp⟩
end
theorem kval_agg {as : List AV} (h : as.length ≠ 1) : kval as = .agg (as.map valOf).toArray := by
  match as, h with
  | [], _ => rfl
  | _ :: _ :: _, _ => rfl
theorem kfit_len : ∀ {sg : List KD} {as : List AV}, kfit sg as = true → as.length = sg.length
  | [], as, h => by rw [kfit_nil h]; rfl
  | k :: ks, as, h => by obtain ⟨a, r, rfl, hr, _⟩ := kfit_cons h; simp [kfit_len hr]
theorem kval_get {as : List AV} (j : Nat) (a : AV) (h : as[j]? = some a) : (as.map valOf).toArray[0 + j]? = some (valOf a) := by simp [h]
theorem KeyOk.struct {P : Program} {kt : Nat} {fs : Array Field} (sg : List KD) (hu : P.underlying kt = some (.struct fs)) (hf : fkB P fs.toList 0 sg = true) (hl : sg.length ≠ 1) (hst : P.stoodInHeld kt = false) (hg : P.eqGuardType P.depth kt = false) : KeyOk P kt sg := by
  have agg : ∀ a, kfit sg a = true → kval a = .agg (a.map valOf).toArray := fun a ha => kval_agg (by rw [kfit_len ha]; exact hl)
  refine ⟨⟨_, hu, fun a b ha hb => .inl (by rw [agg a ha, agg b hb]; rfl)⟩, fun e w a ha => ?_, hg, fun w a b ha hb => ?_⟩
  · rw [agg a ha]
    exact run_ck hu e 9998 _ (fk_part (P := P) (w := w) e 9998 fs.toList 0 sg a (a.map valOf).toArray hf ha fun j x hx => kval_get j x hx)
  · rw [agg a ha, agg b hb]
    have hfo : P.fieldsOf kt = fs := by simp [Program.fieldsOf, hu]
    obtain ⟨r, g1, g2⟩ := fk_eq (P := P) (w := w) 9998 fs.toList 0 sg a b (a.map valOf).toArray (b.map valOf).toArray hf ha hb (fun j x hx => kval_get j x hx) (fun j x hx => kval_get j x hx)
    refine ⟨r, ?_, g2⟩
    show (Op.equalIn (9999 + 1) kt _ _).run P w = _
    rw [run_equalIn_struct w 9999 kt _ _ (by rw [hfo]; exact hu) hst, hfo]
    exact g1
end Go.Proofs.Ytcpgcenlgihmnaa.Abs
/- Keys that are arrays. -/
set_option linter.unusedVariables false
set_option linter.unusedSimpArgs false
namespace Go.Proofs.Ytcpgcenlgihmnaa.Abs
open Go

section
variable {P : Program} {w : World}
theorem run_ck_arr {t el len : Nat} (hu : P.underlying t = some (.array len el)) (hs : (Go.sizeOf el).run P w = .ok 1 w) (e : Bool) (n : Nat) (xs : Array Value) (h : ∀ i, i < len → ∃ v, (part el xs i).run P w = .ok v w ∧ (Instr.checkKey e (n + 1) el v).run P w = .ok () w) : (Instr.checkKey e (n + 2) t (.agg xs)).run P w = .ok () w := by
  have e0 : (Instr.checkKey e ((n + 1) + 1) t (.agg xs)).run P w = .ok () w := by
    rw [Instr.checkKey]
    simp only [Sem.run_bind, run_und hu, Result.andThen_ok, Std.Legacy.Range.forIn_eq_forIn_range', Std.Legacy.Range.size]
    have key : ∀ m s, s + m ≤ len → ((forIn (List.range' s m) PUnit.unit fun i (__s : PUnit) => do
            let __do_lift ← sizeOf el
            let __do_lift ← part el xs (i * __do_lift)
            Instr.checkKey e (n + 1) el __do_lift
            pure (ForInStep.yield PUnit.unit)) : Sem PUnit).run P w = .ok PUnit.unit w := fun m => by
      induction m with
      | zero => intro s _; simp
      | succ m ih =>
        intro s hs'
        obtain ⟨v, h1, h2⟩ := h s (by omega)
        have ih := ih (s + 1) (by omega)
        simp only [List.range'_succ, List.forIn_cons, Sem.run_bind, hs, Result.andThen_ok, Nat.mul_one, h1, h2, Sem.run_pure]
        exact ih
    rw [key _ 0 (by omega)]
    simp
  exact e0
theorem run_eq_arr {t el len : Nat} (hu : P.underlying t = some (.array len el)) (hs : (Go.sizeOf el).run P w = .ok 1 w) (d : Nat) (k : KD) (hk : kdB P el k = true) (as bs : List AV) (ha : kfit (List.replicate len k) as = true) (hb : kfit (List.replicate len k) bs = true) :
    ∃ r, (Op.equalIn (d + 2) t (.agg (as.map valOf).toArray) (.agg (bs.map valOf).toArray)).run P w = .ok r w ∧ (r = true ↔ as = bs) := by
  classical
  have e1 : ∃ r, (Op.equalIn ((d + 1) + 1) t (.agg (as.map valOf).toArray) (.agg (bs.map valOf).toArray)).run P w = .ok r w ∧ (r = true ↔ as = bs) := by
    rw [Op.equalIn]
    simp only [Sem.run_bind, run_und hu, Result.andThen_ok, Std.Legacy.Range.forIn_eq_forIn_range', Std.Legacy.Range.size, hs]
    have key : ∀ m s (as' bs' : List AV), kfit (List.replicate m k) as' = true → kfit (List.replicate m k) bs' = true → (∀ j a, as'[j]? = some a → (as.map valOf).toArray[s + j]? = some (valOf a)) → (∀ j a, bs'[j]? = some a → (bs.map valOf).toArray[s + j]? = some (valOf a)) →
        ((forIn (List.range' s m) ((none : Option Bool), ()) fun i (__s : Option Bool × Unit) => do
          let __do_lift ← part el (List.map valOf as).toArray (i * 1)
          let __do_lift_1 ← part el (List.map valOf bs).toArray (i * 1)
          let __do_lift ← Op.equalIn (d + 1) el __do_lift __do_lift_1
          if (!__do_lift) = true then pure (ForInStep.done (some false, ()))
            else pure (ForInStep.yield (none, ()))) : Sem (Option Bool × Unit)).run P w = .ok (if as' = bs' then (none, ()) else (some false, ())) w := fun m => by
      induction m with
      | zero =>
        intro s as' bs' h1 h2 _ _
        rw [kfit_nil h1, kfit_nil h2]
        simp
      | succ m ih =>
        intro s as' bs' h1 h2 g1 g2
        rw [List.replicate_succ] at h1 h2
        obtain ⟨a, ra, rfl, hra, ha⟩ := kfit_cons h1
        obtain ⟨b, rb, rfl, hrb, hb⟩ := kfit_cons h2
        have hva := kv_of hk ha
        have hvb := kv_of hk hb
        have p1 := hva.part (w := w) (xs := (as.map valOf).toArray) (off := s) (by simpa using g1 0 a rfl)
        have p2 := hvb.part (w := w) (xs := (bs.map valOf).toArray) (off := s) (by simpa using g2 0 b rfl)
        obtain ⟨q, q1, q2⟩ := hva.eq (w := w) hvb d
        have ih := ih (s + 1) ra rb hra hrb (fun j c hj => by have := g1 (j + 1) c (by simpa using hj); rwa [show s + (j + 1) = s + 1 + j by omega] at this) (fun j c hj => by have := g2 (j + 1) c (by simpa using hj); rwa [show s + (j + 1) = s + 1 + j by omega] at this)
        simp only [List.range'_succ, List.forIn_cons, Sem.run_bind, Nat.mul_one, p1, p2, Result.andThen_ok, q1]
        cases q with
        | false =>
          have hne : a ≠ b := fun e => by have := q2.2 e; cases this
          simp [hne]
        | true =>
          have he := q2.1 rfl
          subst he
          simp only [Bool.not_true, Bool.false_eq_true, if_false, Sem.run_pure, Result.andThen_ok]
          simp only [Nat.mul_one] at ih
          rw [ih]
          simp
    rw [show (len - 0 + 1 - 1) / 1 = len by omega, key len 0 as bs ha hb (fun j a h => by simp [h]) (fun j a h => by simp [h])]
    by_cases e : as = bs
    · exact ⟨true, by simp [e], by simp [e]⟩
    · exact ⟨false, by simp [e], by simp [e]⟩
  exact e1
end
/-- An array of so many cells. -/
theorem KeyOk.array {P : Program} {kt el len : Nat} (k : KD) (hu : P.underlying kt = some (.array len el)) (hs : ∀ w, (Go.sizeOf el).run P w = .ok 1 w) (hk : kdB P el k = true) (hl : len ≠ 1) (hg : P.eqGuardType P.depth kt = false) : KeyOk P kt (List.replicate len k) := by
  have agg : ∀ a, kfit (List.replicate len k) a = true → kval a = .agg (a.map valOf).toArray := fun a ha => kval_agg (by rw [kfit_len ha, List.length_replicate]; exact hl)
  have cell : ∀ (a : List AV), kfit (List.replicate len k) a = true → ∀ i, i < len → ∃ x, a[i]? = some x ∧ KV P el k x := fun a ha => by
    have : ∀ (m : Nat) (a : List AV), kfit (List.replicate m k) a = true → ∀ i, i < m → ∃ x, a[i]? = some x ∧ KV P el k x := fun m => by
      induction m with
      | zero => intro a _ i hi; omega
      | succ m ih =>
        intro a ha i hi
        rw [List.replicate_succ] at ha
        obtain ⟨x, r, rfl, hr, hx⟩ := kfit_cons ha
        cases i with
        | zero => exact ⟨x, rfl, kv_of hk hx⟩
        | succ i => exact ih r hr i (by omega)
    exact this len a ha
  refine ⟨⟨_, hu, fun a b ha hb => .inl (by rw [agg a ha, agg b hb]; rfl)⟩, fun e w a ha => ?_, hg, fun w a b ha hb => ?_⟩
  · rw [agg a ha]
    refine run_ck_arr hu (hs w) e 9998 _ fun i hi => ?_
    obtain ⟨x, hx, hv⟩ := cell a ha i hi
    exact ⟨_, hv.part (by simp [hx]), hv.chk e 9998⟩
  · rw [agg a ha, agg b hb]
    exact run_eq_arr hu (hs w) 9998 k hk a b ha hb
theorem AEqv_intro {P : Program} {ty : Nat} {a b : List AV} {K : Bool → Prop} (sg : List KD) (r : Bool) (hk : KeyOk P ty sg) (h1 : kfit sg a = true) (h2 : kfit sg b = true) (h3 : r = true ↔ a = b) (k : K r) : AEqv P ty a b K := by unfold AEqv; exact ⟨sg, r, hk, h1, h2, h3, k⟩
end Go.Proofs.Ytcpgcenlgihmnaa.Abs
