/- A logic of abstract states for the program and what its functions come to: texts N4. -/
import Derived.Test.YtcpgcenlgihmnaaU7
/- canopylaw4.RunsNorm: the walk. -/
set_option linter.unusedVariables false
set_option linter.unusedSimpArgs false
set_option maxRecDepth 100000
set_option maxHeartbeats 1000000
namespace Go.Proofs.Ytcpgcenlgihmnaa.Abs
open Go

/-- The same rules, however often, in whatever order. -/
structure Same (a b : Auto) : Prop where
  init : ∀ x, x ∈ a.init ↔ x ∈ b.init
  fin : ∀ x, x ∈ a.fin ↔ x ∈ b.fin
  opens : ∀ x, x ∈ a.opens ↔ x ∈ b.opens
  closes : ∀ x, x ∈ a.closes ↔ x ∈ b.closes
  inners : ∀ x, x ∈ a.inners ↔ x ∈ b.inners
theorem Same.step {a b : Auto} (h : Same a b) (l : List Sym) (R : List At) (s : Int) : stepL l a R s = stepL l b R s := by
  have ss : ∀ a : Auto, SS lessA (stepL l a R s) := fun a => (onceR_spec _).1
  refine SS.ext stoA (ss a) (ss b) fun y => ?_
  rw [stepL_mem, stepL_mem]
  simp only [h.opens, h.closes, h.inners]
theorem Same.run {a b : Auto} (h : Same a b) (l : List Sym) (w : List Int) : runL l a w = runL l b w := by
  have e0 : onceR (startL a) = onceR (startL b) := onceR_eq fun x => by simp only [startL, List.mem_map, h.init]
  unfold runL
  rw [e0]
  generalize onceR (startL b) = R
  induction w generalizing R with
  | nil => rfl
  | cons s w ih => rw [List.foldl_cons, List.foldl_cons, h.step, ih]
theorem Same.tak {a b : Auto} (h : Same a b) (l : List Sym) (w : List Int) : takF a l w = takF b l w := by
  rw [takF_ends, takF_ends, h.run, Bool.eq_iff_iff]
  unfold ends
  simp only [List.any_eq_true, beq_iff_eq, h.fin]
theorem same_norm (a : Auto) : Same a (normA a) := by
  refine ⟨fun x => ((ints_spec a.init).2 x).symm, fun x => ((ints_spec a.fin).2 x).symm, fun x => ((uniqQ_spec a.opens).2 x).symm, fun x => ((uniqQ_spec a.closes).2 x).symm, fun x => ?_⟩
  show _ ↔ x ∈ (uniqQ (a.inners.map up3)).map dn4
  simp only [List.mem_map, (uniqQ_spec _).2]
  constructor
  · intro h; exact ⟨up3 x, ⟨x, h, rfl⟩, rfl⟩
  · rintro ⟨q, ⟨r, hr, rfl⟩, rfl⟩; exact hr
def twice (a : Auto) : Auto := { a with opens := a.opens ++ a.opens, inners := a.inners ++ a.inners }
theorem same_twice (a : Auto) : Same a (twice a) := ⟨fun _ => Iff.rfl, fun _ => Iff.rfl, fun x => by simp [twice], fun _ => Iff.rfl, fun x => by simp [twice]⟩
theorem tgt_len (a : Auto) : (tgt a).length = a.init.length + a.opens.length + a.closes.length + a.inners.length := by simp [tgt]; omega
theorem norm_len (a : Auto) : (normA a).init.length ≤ a.init.length ∧ (normA a).fin.length ≤ a.fin.length ∧ (normA a).opens.length ≤ a.opens.length ∧ (normA a).closes.length ≤ a.closes.length ∧ (normA a).inners.length ≤ a.inners.length :=
  ⟨ints_len _, ints_len _, uniqQ_len _, uniqQ_len _, by show ((uniqQ (a.inners.map up3)).map dn4).length ≤ _; rw [List.length_map]; have := uniqQ_len (a.inners.map up3); rw [List.length_map] at this; exact this⟩
theorem SetUp.c27 {l : List Sym} {a b : Auto} {w : List Int} {N G k : Nat} (h : SetUp l a w N G k) (hb : Same a b) (h1 : b.init.length ≤ 100) (h2 : b.fin.length ≤ 100) (h3 : b.opens.length ≤ 100) (h4 : b.closes.length ≤ 100) (h5 : b.inners.length ≤ 100) :
    CallsTo Try.prog 27 [.pv (sl l), autoL b, .pv (il w)] [] (.pv (.bool (takF a l w))) [] := by
  rw [hb.tak]
  exact Abs.c27 l b w h.l1 h.w1 (by have := h.w2; omega) (by omega) (by omega) (by omega) (by omega) (by omega) (by rw [tgt_len]; omega)
theorem same_refl (a : Auto) : Same a a := ⟨fun _ => Iff.rfl, fun _ => Iff.rfl, fun _ => Iff.rfl, fun _ => Iff.rfl, fun _ => Iff.rfl⟩

theorem tw {α : Type} (f : α → List AV) (l : List α) : (l ++ l).map f = List.take (0 + (l.map f).length + (l.map f).length) (List.take (0 + (l.map f).length) (List.take 0 [] ++ l.map f) ++ l.map f) := by
  have e1 : List.take (0 + (l.map f).length) (List.take 0 [] ++ l.map f) = l.map f := by rw [List.take_zero, List.nil_append, Nat.zero_add, List.take_length]
  rw [e1, List.map_append]
  exact (List.take_of_length_le (by simp)).symm
theorem c4 (n size : Int) (ns ws : List Int) (hs0 : -9223372036854775808 ≤ size) (hs1 : size ≤ 9223372036854775807) :
    CallsTo Try.prog 4 [.pv (.int .i64 n), .pv (.int .i64 size), .pv (il ns), .pv (il ws)] [] (.pv (.bool true)) [] := by
  have hsu := setUp n size ns ws (most := 4) (m := 10) (f := 4) (by omega) (by omega) (by omega) (by omega)
  obtain ⟨hl0, hl1⟩ := syms_len n ns
  refine callsTo_of (ann := [7]) Try.func4 rfl (by kernel_rfl) (by kernel_rfl) mixed tab_ok (Nat.le_of_ble_eq_true rfl) rfl ?_
  conv => whnf
  refine ACall_pv c16 rfl ?_
  repeat ((conv => whnf); first | refine ASpl_t ?_ | refine ASpl_f ?_)
  conv => whnf
  refine ACall_pv (c17 n ns) rfl ?_
  conv => whnf
  refine ACall_pv (c18 (syms n ns) size ns 4 (by omega) (by omega) (by omega) hs0 hs1) rfl ?_
  obtain ⟨f1, f2, f3, f4, f5⟩ := hsu.few
  generalize hma : make (syms n ns) size ns 4 = a at *
  conv => whnf
  refine ACall_pv (c29 a (by omega) (by omega) (by omega) (by omega) (by omega)) rfl ?_
  conv => whnf
  conv => whnf
  refine AFits_intro (by simp <;> omega) ?_
  conv => whnf
  conv => whnf
  refine AFits_intro (by simp <;> omega) ?_
  conv => whnf
  conv => whnf
  refine AFits_intro (by simp <;> omega) ?_
  conv => whnf
  conv => whnf
  refine AFits_intro (by simp <;> omega) ?_
  conv => whnf
  refine AChk_intro (by kernel_rfl) ?_
  conv => whnf
  refine AStop_intro [(3, .pv (il ws)), (9, .pv (sl (syms n ns))), (10, .bx 10 0), (11, .bx 11 0), (12, .bx 12 0)] [(10, .box (autoC a)), (11, .box (autoC (normA a))), (12, .box (autoC (twice a)))] [] [32, 39] [] ?_ ?_
  · repeat ((conv => whnf); first | refine AEq_intro (by first | with_reducible rfl | (exact tw _ _; done) | rfl) ?_ | refine APerm_intro (by first | exact .refl _ | assumption | (exact tw _ _; done)) ?_)
    trivial
  conv => whnf
  refine ACall_pv (c20 ((syms n ns).map es) ws 10 (by simpa using hl0) (by simp; omega) (by omega)) rfl ?_
  rw [List.length_map]
  conv => whnf
  refine ACall_pv (c19 (syms n ns) (word (syms n ns).length ws 10) 4 (word_mem hl0 ws 10) (by omega) (by omega) (by simp [word]; omega)) rfl ?_
  change SetUp _ _ (few (syms n ns) (word (syms n ns).length ws 10) 4) _ _ _ at hsu
  generalize few (syms n ns) (word (syms n ns).length ws 10) 4 = w at *
  obtain ⟨g1, g2, g3, g4, g5⟩ := norm_len a
  have k1 := hsu.c27 (same_refl a) (by omega) (by omega) (by omega) (by omega) (by omega)
  have k2 := hsu.c27 (same_norm a) (by omega) (by omega) (by omega) (by omega) (by omega)
  have k3 := hsu.c27 (same_twice a) (by show a.init.length ≤ _; omega) (by show a.fin.length ≤ _; omega) (by simp [twice]; omega) (by show a.closes.length ≤ _; omega) (by simp [twice]; omega)
  generalize syms n ns = l at *
  conv => whnf
  refine ACall_pv k1 rfl ?_
  conv => whnf
  refine ACall_pv k2 rfl ?_
  have hbb : (takF a l w == takF a l w) = true := by simp
  conv => whnf
  rw [hbb]
  repeat ((conv => whnf); first | refine ASpl_t ?_ | refine ASpl_f ?_)
  conv => whnf
  refine ACall_pv k1 rfl ?_
  repeat ((conv => whnf); first | refine ASpl_t ?_ | refine ASpl_f ?_)
  conv => whnf
  refine ACall_pv k3 rfl ?_
  repeat ((conv => whnf); first | refine ASpl_t ?_ | refine ASpl_f ?_)
  conv => whnf
  refine AChk_intro (by kernel_rfl) ?_
  conv => whnf
  refine AFin_intro [(8, _)] [] [] [] rfl ?_
  conv => whnf
  refine AEq_intro ?_ trivial
  rw [hbb]
end Go.Proofs.Ytcpgcenlgihmnaa.Abs
