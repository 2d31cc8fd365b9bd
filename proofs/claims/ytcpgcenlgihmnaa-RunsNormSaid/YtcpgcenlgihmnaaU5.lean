/- A logic of abstract states for the program and what its functions come to: texts 27, G1, G2, G3, G4, G5, G6, G7, G8, G9, G10, G11, G12, G13. -/
import Derived.Test.YtcpgcenlgihmnaaU4
import Derived.Test.YtcpgcenlgihmnaaProg
import Derived.Laws.BitsLemmas
import Derived.Laws.Closers25
/- The program's types, as they are told. -/
namespace Go.Proofs.Ytcpgcenlgihmnaa.Abs
open Go
abbrev zi (k : IntKind) : LV := .pv (.int k 0)
abbrev zb : LV := .pv (.bool false)
abbrev zs : LV := .pv (.str ⟨#[]⟩)
def tab : Tab := [
  (3, ⟨.int .i64, 1, 8, [3], [zi .i64]⟩),
  (4, ⟨.bool, 1, 1, [4], [zb]⟩),
  (22, ⟨.sl 3, 1, 24, [22], [.nl]⟩),
  (24, ⟨.sl 85, 1, 24, [24], [.nl]⟩),
  (30, ⟨.st [(0, 3), (1, 3), (2, 22), (3, 22), (4, 26), (5, 27), (6, 28)], 7, 136, [3, 3, 22, 22, 26, 27, 28], [zi .i64, zi .i64, .nl, .nl, .nl, .nl, .nl]⟩),
  (33, ⟨.sl 56, 1, 24, [33], [.nl]⟩),
  (35, ⟨.sl 95, 1, 24, [35], [.nl]⟩),
  (26, ⟨.sl 46, 1, 24, [26], [.nl]⟩),
  (27, ⟨.sl 48, 1, 24, [27], [.nl]⟩),
  (28, ⟨.sl 50, 1, 24, [28], [.nl]⟩),
  (9, ⟨.str, 1, 16, [9], [zs]⟩),
  (85, ⟨.st [(0, 9), (1, 3)], 2, 24, [9, 3], [zs, zi .i64]⟩),
  (46, ⟨.st [(0, 3), (1, 3), (2, 3), (3, 3)], 4, 32, [3, 3, 3, 3], [zi .i64, zi .i64, zi .i64, zi .i64]⟩),
  (48, ⟨.st [(0, 3), (1, 3), (2, 3), (3, 3)], 4, 32, [3, 3, 3, 3], [zi .i64, zi .i64, zi .i64, zi .i64]⟩),
  (50, ⟨.st [(0, 3), (1, 3), (2, 3)], 3, 24, [3, 3, 3], [zi .i64, zi .i64, zi .i64]⟩),
  (56, ⟨.st [(0, 3), (1, 22)], 2, 32, [3, 22], [zi .i64, .nl]⟩),
  (95, ⟨.st [(0, 3), (1, 22)], 2, 32, [3, 22], [zi .i64, .nl]⟩),
  (5, ⟨.int .u8, 1, 1, [5], [zi .u8]⟩),
  (81, ⟨.st [(0, 3), (1, 3)], 2, 16, [3, 3], [zi .i64, zi .i64]⟩),
  (72, ⟨.sl 81, 1, 24, [72], [.nl]⟩),
  (77, ⟨.sl 4, 1, 24, [77], [.nl]⟩),
  (60, ⟨.st [(0, 3), (1, 3), (2, 3), (3, 58)], 4, 48, [3, 3, 3, 58], [zi .i64, zi .i64, zi .i64, .nl]⟩),
  (58, ⟨.sl 60, 1, 24, [58], [.nl]⟩),
  (66, ⟨.sl 79, 1, 24, [66], [.nl]⟩),
  (79, ⟨.st [(0, 3), (1, 3)], 2, 16, [3, 3], [zi .i64, zi .i64]⟩),
  (2, ⟨.int .i64, 1, 8, [2], [zi .i64]⟩),
  (6, ⟨.int .u8, 1, 1, [6], [zi .u8]⟩),
  (7, ⟨.st [(0, 2), (1, 3), (2, 4), (3, 6)], 4, 24, [2, 3, 4, 6], [zi .i64, zi .i64, zb, zi .u8]⟩),
  (8, ⟨.st [(0, 2), (1, 3), (2, 4), (3, 6)], 4, 24, [2, 3, 4, 6], [zi .i64, zi .i64, zb, zi .u8]⟩),
  (10, ⟨.str, 1, 16, [10], [zs]⟩),
  (11, ⟨.str, 1, 16, [11], [zs]⟩),
  (12, ⟨.int .u64, 1, 8, [12], [zi .u64]⟩),
  (13, ⟨.st [(0, 9), (1, 12)], 2, 24, [9, 12], [zs, zi .u64]⟩),
  (14, ⟨.st [(0, 9), (1, 12)], 2, 24, [9, 12], [zs, zi .u64]⟩),
  (18, ⟨.st [(0, 17)], 1, 8, [17], [.un]⟩),
  (19, ⟨.st [(0, 17)], 1, 8, [17], [.un]⟩),
  (21, ⟨.int .i32, 1, 4, [21], [zi .i32]⟩),
  (29, ⟨.st [(0, 3), (1, 3), (2, 22), (3, 22), (4, 26), (5, 27), (6, 28)], 7, 136, [3, 3, 22, 22, 26, 27, 28], [zi .i64, zi .i64, .nl, .nl, .nl, .nl, .nl]⟩),
  (45, ⟨.st [(0, 3), (1, 3), (2, 3), (3, 3)], 4, 32, [3, 3, 3, 3], [zi .i64, zi .i64, zi .i64, zi .i64]⟩),
  (47, ⟨.st [(0, 3), (1, 3), (2, 3), (3, 3)], 4, 32, [3, 3, 3, 3], [zi .i64, zi .i64, zi .i64, zi .i64]⟩),
  (49, ⟨.st [(0, 3), (1, 3), (2, 3)], 3, 24, [3, 3, 3], [zi .i64, zi .i64, zi .i64]⟩),
  (55, ⟨.st [(0, 3), (1, 22)], 2, 32, [3, 22], [zi .i64, .nl]⟩),
  (59, ⟨.st [(0, 3), (1, 3), (2, 3), (3, 58)], 4, 48, [3, 3, 3, 58], [zi .i64, zi .i64, zi .i64, .nl]⟩),
  (64, ⟨.sl 124, 1, 24, [64], [.nl]⟩),
  (78, ⟨.st [(0, 3), (1, 3)], 2, 16, [3, 3], [zi .i64, zi .i64]⟩),
  (80, ⟨.st [(0, 3), (1, 3)], 2, 16, [3, 3], [zi .i64, zi .i64]⟩),
  (84, ⟨.st [(0, 9), (1, 3)], 2, 24, [9, 3], [zs, zi .i64]⟩),
  (86, ⟨.sl 9, 1, 24, [86], [.nl]⟩),
  (87, ⟨.sl 72, 1, 24, [87], [.nl]⟩),
  (96, ⟨.ptr 98, 1, 8, [96], [.un]⟩),
  (97, ⟨.st [(0, 30), (7, 3), (8, 33)], 9, 168, [3, 3, 22, 22, 26, 27, 28, 3, 33], [zi .i64, zi .i64, .nl, .nl, .nl, .nl, .nl, zi .i64, .nl]⟩),
  (98, ⟨.st [(0, 30), (7, 3), (8, 33)], 9, 168, [3, 3, 22, 22, 26, 27, 28, 3, 33], [zi .i64, zi .i64, .nl, .nl, .nl, .nl, .nl, zi .i64, .nl]⟩),
  (102, ⟨.mp 81 3, 1, 8, [102], [.un]⟩),
  (103, ⟨.st [(0, 102), (1, 3)], 2, 16, [102, 3], [.un, zi .i64]⟩),
  (104, ⟨.st [(0, 102), (1, 3)], 2, 16, [102, 3], [.un, zi .i64]⟩),
  (105, ⟨.sl 104, 1, 24, [105], [.nl]⟩),
  (108, ⟨.sl 109, 1, 24, [108], [.nl]⟩),
  (109, ⟨.ar 4 3, 4, 32, [3, 3, 3, 3], [zi .i64, zi .i64, zi .i64, zi .i64]⟩),
  (112, ⟨.st [(0, 77), (1, 3)], 2, 32, [77, 3], [.nl, zi .i64]⟩),
  (113, ⟨.st [(0, 77), (1, 3)], 2, 32, [77, 3], [.nl, zi .i64]⟩),
  (114, ⟨.sl 113, 1, 24, [114], [.nl]⟩),
  (117, ⟨.ptr 119, 1, 8, [117], [.un]⟩),
  (118, ⟨.st [(0, 24), (1, 22), (2, 3)], 3, 56, [24, 22, 3], [.nl, .nl, zi .i64]⟩),
  (119, ⟨.st [(0, 24), (1, 22), (2, 3)], 3, 56, [24, 22, 3], [.nl, .nl, zi .i64]⟩),
  (124, ⟨.st [(0, 3), (1, 3)], 2, 16, [3, 3], [zi .i64, zi .i64]⟩),
  (125, ⟨.st [(0, 4), (1, 22), (2, 22), (3, 72)], 4, 80, [4, 22, 22, 72], [zb, .nl, .nl, .nl]⟩),
  (126, ⟨.st [(0, 4), (1, 22), (2, 22), (3, 72)], 4, 80, [4, 22, 22, 72], [zb, .nl, .nl, .nl]⟩),
  (137, ⟨.ptr 139, 1, 8, [137], [.un]⟩),
  (138, ⟨.st [(0, 22), (1, 3)], 2, 32, [22, 3], [.nl, zi .i64]⟩),
  (139, ⟨.st [(0, 22), (1, 3)], 2, 32, [22, 3], [.nl, zi .i64]⟩),
  (140, ⟨.sl 77, 1, 24, [140], [.nl]⟩),
  (142, ⟨.ptr 144, 1, 8, [142], [.un]⟩),
  (143, ⟨.st [(0, 24), (1, 9), (2, 3), (3, 3), (4, 3), (5, 3)], 6, 72, [24, 9, 3, 3, 3, 3], [.nl, zs, zi .i64, zi .i64, zi .i64, zi .i64]⟩),
  (144, ⟨.st [(0, 24), (1, 9), (2, 3), (3, 3), (4, 3), (5, 3)], 6, 72, [24, 9, 3, 3, 3, 3], [.nl, zs, zi .i64, zi .i64, zi .i64, zi .i64]⟩),
  (155, ⟨.mp 3 22, 1, 8, [155], [.un]⟩),
  (160, ⟨.ptr 162, 1, 8, [160], [.un]⟩),
  (161, ⟨.st [(0, 66)], 1, 24, [66], [.nl]⟩),
  (162, ⟨.st [(0, 66)], 1, 24, [66], [.nl]⟩),
  (167, ⟨.int .u64, 1, 8, [167], [zi .u64]⟩),
  (168, ⟨.ar 2 3, 2, 16, [3, 3], [zi .i64, zi .i64]⟩),
  (178, ⟨.sl 22, 1, 24, [178], [.nl]⟩),
  (183, ⟨.int .i64, 1, 8, [183], [zi .i64]⟩)]
theorem tab_ok : TabOk Try.prog tab := tabOk_of _ _ (by kernel_rfl)
theorem mixed : Try.prog.follows .mixedOrders = true := by kernel_rfl
end Go.Proofs.Ytcpgcenlgihmnaa.Abs
/- Small functions. -/
set_option linter.unusedVariables false
namespace Go.Proofs.Ytcpgcenlgihmnaa.Abs
open Go

theorem wr {a : Int} (h0 : -9223372036854775808 ≤ a) (h1 : a ≤ 9223372036854775807) : IntKind.i64.wrap a = a := by rw [IntKind.wrap_i64]; omega

theorem AIdx_map {α : Type} {f : α → List AV} {xs : List α} {i : Int} {K : List AV → Prop} (n : Nat) (hi : i = n) (h : n < xs.length) (hk : K (f xs[n])) : AIdx (xs.map f) i K := by
  subst hi
  exact AIdx_intro (f xs[n]) (by omega) (by simp [h]) hk

def within (a n : Int) : Int := if a.tmod n < 0 then a.tmod n + n else a.tmod n

theorem c55 (a n : Int) (hn : 0 < n) (hn2 : n ≤ 9223372036854775807) : CallsTo Try.prog 55 [.pv (.int .i64 a), .pv (.int .i64 n)] [] (.pv (.int .i64 (within a n))) [] := by
  refine callsTo_of (ann := []) Try.func55 rfl (by kernel_rfl) (by kernel_rfl) mixed tab_ok (Nat.le_of_ble_eq_true rfl) rfl ?_
  have hm := Int.tmod_lt_of_pos a hn
  have hm2 : -n < a.tmod n := Int.lt_tmod_of_pos a hn
  conv => whnf
  refine ANe0_intro (by omega) ?_
  conv => whnf
  refine ASpl_intro (fun hb => ?_) (fun hb => ?_)
  · conv => whnf
    refine AFin_intro [(4, _)] [] [] [] rfl ?_
    conv => whnf
    refine AEq_intro ?_ trivial
    simp at hb
    rw [wr (by omega) (by omega), within, if_pos hb]
  · conv => whnf
    refine AFin_intro [(4, _)] [] [] [] rfl ?_
    conv => whnf
    refine AEq_intro ?_ trivial
    simp at hb
    rw [within, if_neg (by omega)]

/-- Are two lists of numbers one? -/
def I (n : Int) : AV := .int .i64 n
abbrev il (xs : List Int) : AV := .lst 1 (xs.map fun x => [.int .i64 x])

theorem c33 (xs ys : List Int) (hx : xs.length ≤ 9000000000000000000) : CallsTo Try.prog 33 [.pv (il xs), .pv (il ys)] [] (.pv (.bool (xs == ys))) [] := by
  refine callsTo_of (ann := []) Try.func33 rfl (by kernel_rfl) (by kernel_rfl) mixed tab_ok (Nat.le_of_ble_eq_true rfl) rfl ?_
  conv => whnf
  refine ASpl_intro (fun hb => ?_) (fun hb => ?_)
  · conv => whnf
    refine AFin_intro [(4, _)] [] [] [] rfl ?_
    conv => whnf
    refine AEq_intro ?_ trivial
    simp at hb
    congr 1
    symm
    simp
    rintro rfl
    exact hb rfl
  · simp at hb
    conv => whnf
    refine ALoop_intro (fun n => n ≤ xs.length ∧ xs.take n = ys.take n) (fun n : Nat => [(0, .pv (il xs)), (1, .pv (il ys)), (5, .pv (.int .i64 n))]) (fun _ => []) (fun n => xs.length - n) 0 [] [] [] (by simp) ?_ ?_
    · conv => whnf
      refine AEq_intro rfl ?_
      conv => whnf
      refine AEq_intro rfl ?_
      conv => whnf
      refine AEq_intro rfl trivial
    · rintro n ⟨hn, he⟩
      conv => whnf
      refine ASpl_intro (fun hl => ?_) (fun hl => ?_)
      · simp at hl
        conv => whnf
        refine AIdx_map n rfl hl ?_
        conv => whnf
        refine AIdx_map n rfl (by omega) ?_
        conv => whnf
        refine AChk_intro (by kernel_rfl) ?_
        conv => whnf
        refine ASpl_intro (fun hc => ?_) (fun hc => ?_)
        · conv => whnf
          refine AFin_intro [(4, _)] [] [] [] rfl ?_
          conv => whnf
          refine AEq_intro ?_ trivial
          simp at hc
          congr 1
          symm
          simp
          rintro rfl
          exact hc rfl
        · simp at hc
          conv => whnf
          refine ABack_intro (n + 1) [] [] [] ⟨by omega, ?_⟩ ?_ ?_
          · rw [List.take_succ_eq_append_getElem hl, List.take_succ_eq_append_getElem (by omega), he, hc]
          · show xs.length - (n + 1) < xs.length - n
            omega
          · conv => whnf
            refine AEq_intro rfl ?_
            conv => whnf
            refine AEq_intro rfl ?_
            conv => whnf
            refine AEq_intro ?_ trivial
            show AV.int .i64 (IntKind.i64.wrap (n + 1)) = _
            rw [wr (by omega) (by omega)]; rfl
      · simp at hl
        conv => whnf
        refine AFin_intro [(4, _)] [] [] [] rfl ?_
        conv => whnf
        refine AEq_intro ?_ trivial
        have h1 : n = xs.length := by omega
        subst h1
        congr 1
        symm
        simp at he
        simp
        rw [he, List.take_of_length_le (by omega)]
end Go.Proofs.Ytcpgcenlgihmnaa.Abs
/- canopylaw1.Word; canopylaw4.few; canopylaw3.pick. -/
set_option linter.unusedVariables false
set_option linter.unusedSimpArgs false
namespace Go.Proofs.Ytcpgcenlgihmnaa.Abs
open Go

abbrev ei (x : Int) : List AV := [.int .i64 x]
theorem wrS (n : Nat) (h : n ≤ 9000000000000000000) : AV.int .i64 (IntKind.i64.wrap (n + 1)) = AV.int .i64 ((n + 1 : Nat) : Int) := by rw [wr (by omega) (by omega)]; rfl

def word (L : Nat) (ns : List Int) (most : Nat) : List Int := (ns.take most).map (within · L)

theorem word_succ (L : Nat) (ns : List Int) {n : Nat} (h : n < ns.length) : word L ns (n + 1) = word L ns n ++ [within ns[n] L] := by
  unfold word
  rw [List.take_succ_eq_append_getElem h, List.map_append]
  rfl
theorem word_len (L : Nat) (ns : List Int) {n : Nat} (h : n ≤ ns.length) : (word L ns n).length = n := by simp [word]; omega
theorem c20 {e : Nat} (ls : List (List AV)) (ns : List Int) (most : Nat) (hL : 0 < ls.length) (hL2 : ls.length ≤ 1000) (hm : most ≤ 1000) : CallsTo Try.prog 20 [.pv (.lst e ls), .pv (il ns), .pv (.int .i64 most)] [] (.pv (il (word ls.length ns most))) [] := by
  refine callsTo_of (ann := []) Try.func20 rfl (by kernel_rfl) (by kernel_rfl) mixed tab_ok (Nat.le_of_ble_eq_true rfl) rfl ?_
  conv => whnf
  refine ALoop_intro (fun n : Nat => n ≤ ns.length ∧ n ≤ most) (fun n => [(0, .pv (.lst e ls)), (1, .pv (il ns)), (2, .pv (.int .i64 most)), (7, .rw 7 n), (8, .pv (.int .i64 n))]) (fun n => [(7, .row 1 ((word ls.length ns n).map ei))]) (fun n => ns.length - n) 0 [] [] [] (by simp) ?_ ?_
  · repeat ((conv => whnf); refine AEq_intro (by first | with_reducible rfl | rfl) ?_)
    trivial
  · rintro n ⟨hn, hm'⟩
    conv => whnf
    refine ASpl_intro (fun hl => ?_) (fun hl => ?_) <;> rw [hl]
    · repeat ((conv => whnf); refine ASpl_t ?_)
      simp at hl
      conv => whnf
      refine ASpl_intro (fun hb => ?_) (fun hb => ?_)
      · simp at hb
        conv => whnf
        refine AIdx_map n rfl hl ?_
        conv => whnf
        refine ACall_pv (c55 _ _ (by simpa using by omega) (by omega)) rfl ?_
        conv => whnf
        refine AFits_intro (by simp; omega) ?_
        conv => whnf
        refine ABack_intro (n + 1) [(7, 29)] [] [] ⟨by omega, by omega⟩ (by show _ - (n + 1) < _ - n; omega) ?_
        conv => whnf
        refine AEq_intro ?_ ?_
        · rw [word_succ _ _ hl]
          rw [List.take_of_length_le (by simp [word_len _ _ hn])]
          simp
        repeat ((conv => whnf); refine AEq_intro (by first | with_reducible rfl | exact wrS n (by omega) | rfl) ?_)
        trivial
      · simp at hb
        conv => whnf
        refine AFin_intro [(6, _)] [] [7] [] rfl ?_
        conv => whnf
        refine AEq_intro ?_ trivial
        obtain rfl : n = most := by omega
        rw [List.take_of_length_le (by simp [word]; omega)]
    · repeat ((conv => whnf); refine ASpl_f ?_)
      simp at hl
      conv => whnf
      refine AFin_intro [(6, _)] [] [7] [] rfl ?_
      conv => whnf
      refine AEq_intro ?_ trivial
      obtain rfl : n = ns.length := by omega
      rw [List.take_of_length_le (by simp [word]), word, word, List.take_of_length_le (by omega), List.take_of_length_le (by omega)]
end Go.Proofs.Ytcpgcenlgihmnaa.Abs
/- canopylaw4.few; canopylaw3.pick. -/
set_option linter.unusedVariables false
set_option linter.unusedSimpArgs false
namespace Go.Proofs.Ytcpgcenlgihmnaa.Abs
open Go

abbrev Sym := ByteArray × Int
abbrev es (s : Sym) : List AV := [.str s.1, .int .i64 s.2]
abbrev sl (l : List Sym) : AV := .lst 2 (l.map es)
def kindOf (l : List Sym) (x : Int) : Int := ((l[x.toNat]?).map (·.2)).getD 0
theorem kindOf_get {l : List Sym} {x : Int} (h : x.toNat < l.length) : l[x.toNat].2 = kindOf l x := by simp [kindOf, h]

def fewG (l : List Sym) (most : Int) : List Int → Int → List Int
  | [], _ => []
  | x :: w, n => let n' := if kindOf l x = 1 then n + 1 else n; if n' > most then [] else x :: fewG l most w n'
def few (l : List Sym) (w : List Int) (most : Int) : List Int := fewG l most w 0

theorem AIdx_map' {α : Type} {f : α → List AV} {xs : List α} {i : Int} {K : List AV → Prop} (h0 : 0 ≤ i) (h : i.toNat < xs.length) (hk : K (f xs[i.toNat])) : AIdx (xs.map f) i K := AIdx_intro (f xs[i.toNat]) h0 (by simp [h]) hk

theorem c19 (l : List Sym) (w : List Int) (most : Int) (hw : ∀ x ∈ w, 0 ≤ x ∧ x.toNat < l.length) (hm0 : 0 ≤ most) (hm : most ≤ 1000) (hlen : w.length ≤ 1000) : CallsTo Try.prog 19 [.pv (sl l), .pv (il w), .pv (.int .i64 most)] [] (.pv (il (few l w most))) [] := by
  refine callsTo_of (ann := []) Try.func19 rfl (by kernel_rfl) (by kernel_rfl) mixed tab_ok (Nat.le_of_ble_eq_true rfl) rfl ?_
  conv => whnf
  refine ALoop_intro (fun i : Nat × Nat => i.1 ≤ w.length ∧ i.2 ≤ i.1 ∧ few l w most = w.take i.1 ++ fewG l most (w.drop i.1) i.2) (fun i => [(0, .pv (sl l)), (1, .pv (il w)), (2, .pv (.int .i64 most)), (7, .pv (.int .i64 i.2)), (8, .pv (.int .i64 i.1))]) (fun _ => []) (fun i => w.length - i.1) (0, 0) [] [] [] (by simp [few]) ?_ ?_
  · repeat ((conv => whnf); refine AEq_intro (by first | with_reducible rfl | rfl) ?_)
    trivial
  · rintro ⟨i, n⟩ ⟨hi, hn, hf⟩
    dsimp only at hi hn hf
    conv => whnf
    refine ASpl_intro (fun hl => ?_) (fun hl => ?_)
    · simp at hl
      have hx := hw w[i] (List.getElem_mem hl)
      conv => whnf
      refine AIdx_map i rfl hl ?_
      conv => whnf
      refine AIdx_map' hx.1 hx.2 ?_
      conv => whnf
      have hd : w.drop i = w[i] :: w.drop (i + 1) := List.drop_eq_getElem_cons hl
      refine ASpl_intro (fun hb => ?_) (fun hb => ?_) <;> (simp at hb; rw [kindOf_get hx.2] at hb; conv => whnf)
      · refine ASpl_intro (fun hc => ?_) (fun hc => ?_)
        · simp at hc
          rw [wr (by omega) (by omega)] at hc
          conv => whnf
          refine ALe_intro (by simp) (by simp; omega) ?_
          conv => whnf
          refine AFin_intro [(6, _)] [] [] [] rfl ?_
          conv => whnf
          refine AEq_intro ?_ trivial
          rw [hf, hd, fewG]
          simp [hb, hc]
        · simp at hc
          rw [wr (by omega) (by omega)] at hc
          conv => whnf
          refine ABack_intro (i + 1, n + 1) [] [] [] ⟨by simp; omega, by simp; omega, ?_⟩ (by show _ - (i + 1) < _ - i; omega) ?_
          · rw [hf, hd, fewG]
            simp [hb]
            rw [if_neg (by omega), List.take_succ_eq_append_getElem hl, List.append_assoc]
            rfl
          · repeat ((conv => whnf); refine AEq_intro (by first | with_reducible rfl | exact wrS n (by omega) | exact wrS i (by omega)) ?_)
            trivial
      · refine ASpl_intro (fun hc => ?_) (fun hc => ?_)
        · simp at hc
          conv => whnf
          refine ALe_intro (by simp) (by simp; omega) ?_
          conv => whnf
          refine AFin_intro [(6, _)] [] [] [] rfl ?_
          conv => whnf
          refine AEq_intro ?_ trivial
          rw [hf, hd, fewG]
          simp [hb, hc]
        · simp at hc
          conv => whnf
          refine ABack_intro (i + 1, n) [] [] [] ⟨by simp; omega, by simp; omega, ?_⟩ (by show _ - (i + 1) < _ - i; omega) ?_
          · rw [hf, hd, fewG]
            simp [hb]
            rw [if_neg (by omega), List.take_succ_eq_append_getElem hl, List.append_assoc]
            rfl
          · repeat ((conv => whnf); refine AEq_intro (by first | with_reducible rfl | exact wrS i (by omega)) ?_)
            trivial
    · simp at hl
      conv => whnf
      refine AFin_intro [(6, _)] [] [] [] rfl ?_
      conv => whnf
      refine AEq_intro ?_ trivial
      obtain rfl : i = w.length := by omega
      rw [hf]
      simp [fewG]

/-! pick. -/
def kinds (l : List Sym) (kind : Int) : List Nat → List Nat
  | [] => []
  | i :: is => if kindOf l i = kind then i :: kinds l kind is else kinds l kind is
def pick (l : List Sym) (kind : Int) (n : Nat) : Int := let k := kinds l kind (List.range l.length); if k = [] then -1 else ((k[n % k.length]?).getD 0 : Nat)
theorem kinds_append (l : List Sym) (kind : Int) : ∀ (a b : List Nat), kinds l kind (a ++ b) = kinds l kind a ++ kinds l kind b
  | [], b => rfl
  | i :: a, b => by simp only [List.cons_append, kinds, kinds_append l kind a b]; split <;> rfl
theorem kinds_len (l : List Sym) (kind : Int) : ∀ (a : List Nat), (kinds l kind a).length ≤ a.length
  | [] => by simp [kinds]
  | i :: a => by have := kinds_len l kind a; simp only [kinds]; split <;> simp <;> omega
theorem kinds_mem (l : List Sym) (kind : Int) : ∀ (a : List Nat) (x : Nat), x ∈ kinds l kind a → x ∈ a ∧ kindOf l x = kind
  | [], x, h => by simp [kinds] at h
  | i :: a, x, h => by
    simp only [kinds] at h
    split at h
    · rename_i hk
      rcases List.mem_cons.1 h with rfl | h
      · exact ⟨by simp, hk⟩
      · have := kinds_mem l kind a x h; exact ⟨by simp [this.1], this.2⟩
    · have := kinds_mem l kind a x h; exact ⟨by simp [this.1], this.2⟩
abbrev en (x : Nat) : List AV := [.int .i64 x]

theorem c57 (l : List Sym) (kind : Int) (n : Nat) (hl : l.length ≤ 1000) (hn : n ≤ 9000000000000000000) : CallsTo Try.prog 57 [.pv (sl l), .pv (.int .i64 kind), .pv (.int .i64 n)] [] (.pv (.int .i64 (pick l kind n))) [] := by
  refine callsTo_of (ann := []) Try.func57 rfl (by kernel_rfl) (by kernel_rfl) mixed tab_ok (Nat.le_of_ble_eq_true rfl) rfl ?_
  conv => whnf
  refine ALoop_intro (fun i : Nat => i ≤ l.length) (fun i => [(0, .pv (sl l)), (1, .pv (.int .i64 kind)), (2, .pv (.int .i64 n)), (7, .rw 7 (kinds l kind (List.range i)).length), (8, .pv (.int .i64 i))]) (fun i => [(7, .row 1 ((kinds l kind (List.range i)).map en))]) (fun i => l.length - i) 0 [] [] [] (by simp) ?_ ?_
  · repeat ((conv => whnf); refine AEq_intro (by first | with_reducible rfl | rfl) ?_)
    trivial
  · intro i hi
    have hklen := kinds_len l kind (List.range i)
    rw [List.length_range] at hklen
    conv => whnf
    refine ASpl_intro (fun hc => ?_) (fun hc => ?_)
    · simp at hc
      have hs : kinds l kind (List.range (i + 1)) = kinds l kind (List.range i) ++ kinds l kind [i] := by rw [List.range_succ, kinds_append]
      conv => whnf
      refine AIdx_map i rfl hc ?_
      conv => whnf
      have hk : kindOf l i = l[i].2 := by simp [kindOf, hc]
      refine ASpl_intro (fun hb => ?_) (fun hb => ?_)
      · simp at hb
        rw [← hk] at hb
        conv => whnf
        refine AFits_intro (by simp; omega) ?_
        conv => whnf
        refine ABack_intro (i + 1) [(7, 25)] [] [] (by omega) (by show _ - (i + 1) < _ - i; omega) ?_
        conv => whnf
        refine AEq_intro ?_ ?_
        · rw [hs, kinds, if_pos hb]
          simp [kinds, List.take_of_length_le]
        conv => whnf
        refine AEq_intro (by with_reducible rfl) ?_
        conv => whnf
        refine AEq_intro (by with_reducible rfl) ?_
        conv => whnf
        refine AEq_intro (by with_reducible rfl) ?_
        conv => whnf
        refine AEq_intro (by rw [hs, kinds, if_pos hb]; simp [kinds]) ?_
        conv => whnf
        refine AEq_intro (wrS i (by omega)) ?_
        trivial
      · simp at hb
        rw [← hk] at hb
        conv => whnf
        have hs' : kinds l kind (List.range (i + 1)) = kinds l kind (List.range i) := by rw [hs, kinds, if_neg hb]; simp [kinds]
        refine ABack_intro (i + 1) [] [] [] (by omega) (by show _ - (i + 1) < _ - i; omega) ?_
        conv => whnf
        refine AEq_intro (by rw [hs']) ?_
        conv => whnf
        refine AEq_intro (by with_reducible rfl) ?_
        conv => whnf
        refine AEq_intro (by with_reducible rfl) ?_
        conv => whnf
        refine AEq_intro (by with_reducible rfl) ?_
        conv => whnf
        refine AEq_intro (by rw [hs']) ?_
        conv => whnf
        refine AEq_intro (wrS i (by omega)) ?_
        trivial
    · simp at hc
      obtain rfl : i = l.length := by omega
      conv => whnf
      refine ASpl_intro (fun hb => ?_) (fun hb => ?_)
      · simp at hb
        conv => whnf
        refine AFin_intro [(6, _)] [] [] [] rfl ?_
        conv => whnf
        refine AEq_intro ?_ trivial
        simp [pick, hb]
      · simp at hb
        conv => whnf
        refine ANe0_intro (by simpa using hb) ?_
        have hpos : 0 < (kinds l kind (List.range l.length)).length := List.length_pos_iff.2 hb
        have hlt := Nat.mod_lt n hpos
        conv => whnf
        have ht : (n : Int).tmod ((kinds l kind (List.range l.length)).map en).length = ((n % (kinds l kind (List.range l.length)).length : Nat) : Int) := by rw [List.length_map]; rfl
        have ht2 : (n : Int).tmod (kinds l kind (List.range l.length)).length = ((n % (kinds l kind (List.range l.length)).length : Nat) : Int) := rfl
        refine ARow_intro (by rw [ht2]; omega) (by rw [ht2]; omega) ?_
        conv => whnf
        refine AGet_intro (en ((kinds l kind (List.range l.length))[n % (kinds l kind (List.range l.length)).length])) (by rw [ht2, Int.toNat_natCast, List.getElem?_map, List.getElem?_eq_getElem hlt]; rfl) ?_
        conv => whnf
        refine AFin_intro [(6, _)] [] [] [] rfl ?_
        conv => whnf
        refine AEq_intro ?_ trivial
        simp [pick, hb, hlt]
end Go.Proofs.Ytcpgcenlgihmnaa.Abs
/- canopylaw1.Syms; canopylaw3.within. -/
set_option linter.unusedVariables false
set_option linter.unusedSimpArgs false
set_option maxRecDepth 100000
namespace Go.Proofs.Ytcpgcenlgihmnaa.Abs
open Go

theorem c56 (a n : Int) (hn : 0 < n) (hn2 : n ≤ 9223372036854775807) : CallsTo Try.prog 56 [.pv (.int .i64 a), .pv (.int .i64 n)] [] (.pv (.int .i64 (within a n))) [] := by
  refine callsTo_of (ann := []) Try.func56 rfl (by kernel_rfl) (by kernel_rfl) mixed tab_ok (Nat.le_of_ble_eq_true rfl) rfl ?_
  have hm := Int.tmod_lt_of_pos a hn
  have hm2 : -n < a.tmod n := Int.lt_tmod_of_pos a hn
  conv => whnf
  refine ANe0_intro (by omega) ?_
  conv => whnf
  refine ASpl_intro (fun hb => ?_) (fun hb => ?_)
  · conv => whnf
    refine AFin_intro [(4, _)] [] [] [] rfl ?_
    conv => whnf
    refine AEq_intro ?_ trivial
    simp at hb
    rw [wr (by omega) (by omega), within, if_pos hb]
  · conv => whnf
    refine AFin_intro [(4, _)] [] [] [] rfl ?_
    conv => whnf
    refine AEq_intro ?_ trivial
    simp at hb
    rw [within, if_neg (by omega)]

theorem within_lt {a n : Int} (hn : 0 < n) : 0 ≤ within a n ∧ within a n < n := by
  have hm := Int.tmod_lt_of_pos a hn
  have hm2 : -n < a.tmod n := Int.lt_tmod_of_pos a hn
  unfold within
  split <;> omega

def syms7 : List Sym := [(⟨#[97]⟩, 1), (⟨#[97]⟩, 2), (⟨#[98]⟩, 3), (⟨#[99]⟩, 1), (⟨#[99]⟩, 2), (⟨#[100]⟩, 3), (⟨#[120]⟩, 2)]
def syms (n : Int) (ns : List Int) : List Sym :=
  if within n 7 = 1 then [(⟨#[98]⟩, 3), (⟨#[97]⟩, 2), (⟨#[97]⟩, 1)]
  else match ns with
    | x :: _ => if within n 11 = 2 then [(syms7[(within x 7).toNat]?).getD (⟨#[]⟩, 0)] else syms7.take (3 + within n 5).toNat
    | [] => syms7.take (3 + within n 5).toNat

theorem c17 (n : Int) (ns : List Int) : CallsTo Try.prog 17 [.pv (.int .i64 n), .pv (il ns)] [] (.pv (sl (syms n ns))) [] := by
  refine callsTo_of (ann := []) Try.func17 rfl (by kernel_rfl) (by kernel_rfl) mixed tab_ok (Nat.le_of_ble_eq_true rfl) rfl ?_
  have h5 := within_lt (a := n) (n := 5) (by decide)
  have h7 := within_lt (a := n) (n := 7) (by decide)
  have h11 := within_lt (a := n) (n := 11) (by decide)
  conv => whnf
  refine ACall_pv (c55 n 5 (by decide) (by decide)) rfl ?_
  conv => whnf
  refine ACall_pv (c55 n 7 (by decide) (by decide)) rfl ?_
  conv => whnf
  refine ASpl_intro (fun hb => ?_) (fun hb => ?_)
  · simp at hb
    conv => whnf
    refine ARow_intro (by decide) (by decide) ?_
    conv => whnf
    refine AGet_intro _ rfl ?_
    conv => whnf
    refine ARow_intro (by decide) (by decide) ?_
    conv => whnf
    refine AGet_intro _ rfl ?_
    conv => whnf
    refine ARow_intro (by decide) (by decide) ?_
    conv => whnf
    refine AGet_intro _ rfl ?_
    conv => whnf
    refine AChk_intro (by kernel_rfl) ?_
    conv => whnf
    refine AFin_intro [(4, _)] [] [30] [] rfl ?_
    conv => whnf
    refine AEq_intro ?_ trivial
    rw [show syms n ns = [(⟨#[98]⟩, 3), (⟨#[97]⟩, 2), (⟨#[97]⟩, 1)] from by unfold syms; rw [if_pos hb]]
    rfl
  · simp at hb
    have e3 : IntKind.i64.wrap (3 + within n 5) = 3 + within n 5 := wr (by omega) (by omega)
    rw [e3]
    conv => whnf
    refine ACall_pv (c55 n 11 (by decide) (by decide)) rfl ?_
    conv => whnf
    have small : ∀ k : Int, k = 3 + within n 5 → syms n ns = syms7.take k.toNat → List.map es (syms n ns) = List.take k.toNat (syms7.map es) := fun k hk hs => by rw [hs]; simp
    have len7 : ((syms7.map es).length : Int) = 7 := rfl
    refine ASpl_intro (fun hc => ?_) (fun hc => ?_) <;> rw [hc]
    · simp at hc
      repeat ((conv => whnf); refine ASpl_t ?_)
      conv => whnf
      refine ASpl_intro (fun hd => ?_) (fun hd => ?_)
      · simp at hd
        cases ns with
        | nil => simp at hd
        | cons x ns =>
          have hx := within_lt (a := x) (n := 7) (by decide)
          conv => whnf
          refine AIdx_intro (ei x) (by decide) rfl ?_
          conv => whnf
          refine ACall_pv (c55 x 7 (by decide) (by decide)) rfl ?_
          conv => whnf
          refine ARow_intro hx.1 (by omega) ?_
          conv => whnf
          have hlt : (within x 7).toNat < syms7.length := by show _ < 7; omega
          refine AGet_intro (es (syms7[(within x 7).toNat])) (by show (syms7.map es)[_]? = _; rw [List.getElem?_map, List.getElem?_eq_getElem hlt]; rfl) ?_
          conv => whnf
          refine AFin_intro [(4, _)] [] [46] [] rfl ?_
          conv => whnf
          refine AEq_intro ?_ trivial
          have hs : syms n (x :: ns) = [syms7[(within x 7).toNat]] := by
            unfold syms; rw [if_neg hb]; simp only; rw [if_pos hc]; simp [hlt]
          rw [hs]
          rfl
      · simp at hd
        conv => whnf
        refine ALe_intro (by omega) (by show _ ≤ (7 : Int); omega) ?_
        conv => whnf
        refine AFin_intro [(4, _)] [] [14] [] rfl ?_
        conv => whnf
        refine AEq_intro (small _ rfl ?_) trivial
        unfold syms; rw [if_neg hb]
        cases ns with
        | nil => rfl
        | cons x ns => simp at hd
    · simp at hc
      repeat ((conv => whnf); refine ASpl_f ?_)
      conv => whnf
      refine ALe_intro (by omega) (by show _ ≤ (7 : Int); omega) ?_
      conv => whnf
      refine AFin_intro [(4, _)] [] [14] [] rfl ?_
      conv => whnf
      refine AEq_intro (small _ rfl ?_) trivial
      unfold syms; rw [if_neg hb]
      cases ns with
      | nil => rfl
      | cons x ns => simp only; rw [if_neg hc]
end Go.Proofs.Ytcpgcenlgihmnaa.Abs
/- canopylaw3.Make. -/
set_option linter.unusedVariables false
set_option linter.unusedSimpArgs false
set_option maxRecDepth 100000
namespace Go.Proofs.Ytcpgcenlgihmnaa.Abs
open Go

abbrev R4 := Int × Int × Int × Int
abbrev R3 := Int × Int × Int
/-- A machine: opens are From, Sym, To, Push; closes From, Sym, Top, To; inners From, Sym, To. -/
structure Auto where
  N : Int
  G : Int
  init : List Int
  fin : List Int
  opens : List R4
  closes : List R4
  inners : List R3
abbrev e4 (r : R4) : List AV := [.int .i64 r.1, .int .i64 r.2.1, .int .i64 r.2.2.1, .int .i64 r.2.2.2]
abbrev e3 (r : R3) : List AV := [.int .i64 r.1, .int .i64 r.2.1, .int .i64 r.2.2]
abbrev l4 (l : List R4) : AV := .lst 4 (l.map e4)
abbrev l3 (l : List R3) : AV := .lst 3 (l.map e3)
abbrev autoL (a : Auto) : LV := .ag [.pv (.int .i64 a.N), .pv (.int .i64 a.G), .pv (il a.init), .pv (il a.fin), .pv (l4 a.opens), .pv (l4 a.closes), .pv (l3 a.inners)]

def mkStep (l : List Sym) (N G : Nat) (a : Auto) (m : Nat) : Auto :=
  if m % 8 = 0 then { a with init := a.init ++ [((m / 8 % N : Nat) : Int)] }
  else if m % 8 = 1 then { a with fin := a.fin ++ [((m / 8 % N : Nat) : Int)] }
  else if m % 8 = 2 ∨ m % 8 = 3 then (if 0 ≤ pick l 1 (m / 800 % 7) then { a with opens := a.opens ++ [(((m / 8 % N : Nat) : Int), pick l 1 (m / 800 % 7), ((m / 80 % N : Nat) : Int), 1 + ((m / 8000 % G : Nat) : Int))] } else a)
  else if m % 8 = 4 ∨ m % 8 = 5 then (if 0 ≤ pick l 2 (m / 800 % 7) then { a with closes := a.closes ++ [(((m / 8 % N : Nat) : Int), pick l 2 (m / 800 % 7), ((m / 8000 % (G + 1) : Nat) : Int), ((m / 80 % N : Nat) : Int))] } else a)
  else (if 0 ≤ pick l 3 (m / 800 % 7) then { a with inners := a.inners ++ [(((m / 8 % N : Nat) : Int), pick l 3 (m / 800 % 7), ((m / 80 % N : Nat) : Int))] } else a)
def mkN (size most : Int) : Nat := (1 + within size most).toNat
def mkG (size : Int) : Nat := (1 + within (size.tdiv 7) 2).toNat
def mkAt (l : List Sym) (size : Int) (ns : List Int) (most : Int) (i : Nat) : Auto :=
  (ns.take i).foldl (fun a x => mkStep l (mkN size most) (mkG size) a (within x 1099511627776).toNat) ⟨mkN size most, mkG size, [], [], [], [], []⟩
def make (l : List Sym) (size : Int) (ns : List Int) (most : Int) : Auto :=
  let a := mkAt l size ns most 24
  if a.init = [] then { a with init := [0] } else a

theorem mkAt_succ {l : List Sym} {size : Int} {ns : List Int} {most : Int} {i : Nat} (h : i < ns.length) : mkAt l size ns most (i + 1) = mkStep l (mkN size most) (mkG size) (mkAt l size ns most i) (within ns[i] 1099511627776).toNat := by
  unfold mkAt
  rw [List.take_succ_eq_append_getElem h, List.foldl_append]
  rfl
structure Few (i : Nat) (a : Auto) : Prop where
  init : a.init.length ≤ i
  fin : a.fin.length ≤ i
  opens : a.opens.length ≤ i
  closes : a.closes.length ≤ i
  inners : a.inners.length ≤ i
theorem mkStep_few {l : List Sym} {N G i : Nat} {a : Auto} {m : Nat} (h : Few i a) : Few (i + 1) (mkStep l N G a m) ∧ (mkStep l N G a m).N = a.N ∧ (mkStep l N G a m).G = a.G := by
  obtain ⟨h1, h2, h3, h4, h5⟩ := h
  unfold mkStep
  repeat' split
  all_goals refine ⟨⟨?_, ?_, ?_, ?_, ?_⟩, rfl, rfl⟩ <;> (try simp only [List.length_append, List.length_singleton]) <;> omega
theorem mkAt_few (l : List Sym) (size : Int) (ns : List Int) (most : Int) : ∀ i, i ≤ ns.length → Few i (mkAt l size ns most i) ∧ (mkAt l size ns most i).N = mkN size most ∧ (mkAt l size ns most i).G = mkG size
  | 0, _ => by simp [mkAt]; exact ⟨by simp, by simp, by simp, by simp, by simp⟩
  | i + 1, h => by
    obtain ⟨h1, h2, h3⟩ := mkAt_few l size ns most i (by omega)
    rw [mkAt_succ (by omega)]
    obtain ⟨g1, g2, g3⟩ := mkStep_few (l := l) (N := mkN size most) (G := mkG size) (m := (within (ns[i]'(by omega)) 1099511627776).toNat) h1
    exact ⟨g1, g2.trans h2, g3.trans h3⟩

abbrev boxOf (a : Auto) : List LV := [.pv (.int .i64 a.N), .pv (.int .i64 a.G), .rw 201 a.init.length, .rw 202 a.fin.length, .rw 203 a.opens.length, .rw 204 a.closes.length, .rw 205 a.inners.length]
abbrev rowsOf (a : Auto) : HS := [(201, .row 1 (a.init.map ei)), (202, .row 1 (a.fin.map ei)), (203, .row 4 (a.opens.map e4)), (204, .row 4 (a.closes.map e4)), (205, .row 3 (a.inners.map e3))]

theorem c18 (l : List Sym) (size : Int) (ns : List Int) (most : Int) (hl : l.length ≤ 1000) (hm0 : 0 < most) (hm : most ≤ 100) (hs0 : -9223372036854775808 ≤ size) (hs1 : size ≤ 9223372036854775807) :
    CallsTo Try.prog 18 [.pv (sl l), .pv (.int .i64 size), .pv (il ns), .pv (.int .i64 most)] [] (autoL (make l size ns most)) [] := by
  refine callsTo_of (ann := []) Try.func18 rfl (by kernel_rfl) (by kernel_rfl) mixed tab_ok (Nat.le_of_ble_eq_true rfl) rfl ?_
  have hN := within_lt (a := size) hm0
  have hG := within_lt (a := size.tdiv 7) (n := 2) (by decide)
  have hNe : IntKind.i64.wrap (1 + within size most) = (mkN size most : Int) := by rw [wr (by omega) (by omega), mkN]; omega
  have hq : IntKind.i64.wrap (size.tdiv 7) = size.tdiv 7 := wrap_i64_tdiv _ _ hs0 hs1 (by decide)
  have hGe : IntKind.i64.wrap (1 + within (size.tdiv 7) 2) = (mkG size : Int) := by rw [wr (by omega) (by omega), mkG]; omega
  conv => whnf
  refine ACall_pv (c56 size most hm0 (by omega)) rfl ?_
  conv => whnf
  refine ANe0_intro (by decide) ?_
  rw [hNe, hq]
  conv => whnf
  refine ACall_pv (c56 (size.tdiv 7) 2 (by decide) (by decide)) rfl ?_
  conv => whnf
  rw [hGe]
  refine ALoop_intro (fun i : Nat => i ≤ ns.length ∧ i ≤ 24) (fun i => [(0, .pv (sl l)), (2, .pv (il ns)), (8, .bx 8 0), (9, .bx 9 0), (10, .pv (.int .i64 i))]) (fun i => (8, .box [zi .i64, zi .i64, .nl, .nl, .nl, .nl, .nl]) :: (9, .box (boxOf (mkAt l size ns most i))) :: rowsOf (mkAt l size ns most i)) (fun i => ns.length - i) 0 [] [] [201, 202, 203, 204, 205] (by simp) ?_ ?_
  · repeat ((conv => whnf); refine AEq_intro (by first | with_reducible rfl | rfl) ?_)
    trivial
  · rintro i ⟨hi, hi2⟩
    obtain ⟨⟨f1, f2, f3, f4, f5⟩, hNa, hGa⟩ := mkAt_few l size ns most i hi
    conv => whnf
    refine ASpl_intro (fun hc => ?_) (fun hc => ?_) <;> rw [hc]
    · simp at hc
      repeat ((conv => whnf); refine ASpl_t ?_)
      conv => whnf
      refine ASpl_intro (fun hd => ?_) (fun hd => ?_)
      · simp at hd
        have hsucc := mkAt_succ (l := l) (size := size) (most := most) hc
        have hw := within_lt (a := ns[i]) (n := 1099511627776) (by decide)
        obtain ⟨m, hm1⟩ : ∃ m : Nat, within ns[i] 1099511627776 = m := ⟨(within ns[i] 1099511627776).toNat, by omega⟩
        rw [hm1] at hsucc hw
        conv => whnf
        refine AIdx_map i rfl hc ?_
        conv => whnf
        refine ACall_pv (c56 ns[i] 1099511627776 (by decide) (by decide)) rfl ?_
        rw [hm1]
        have hN0 : (mkAt l size ns most i).N ≠ 0 := by rw [hNa, mkN]; omega
        have w8 : IntKind.i64.wrap ((m : Int).tdiv 8) = ((m / 8 : Nat) : Int) := by rw [show (m : Int).tdiv 8 = ((m / 8 : Nat) : Int) from rfl, wr (by omega) (by omega)]
        have w80 : IntKind.i64.wrap ((m : Int).tdiv 80) = ((m / 80 : Nat) : Int) := by rw [show (m : Int).tdiv 80 = ((m / 80 : Nat) : Int) from rfl, wr (by omega) (by omega)]
        have w800 : IntKind.i64.wrap ((m : Int).tdiv 800) = ((m / 800 : Nat) : Int) := by rw [show (m : Int).tdiv 800 = ((m / 800 : Nat) : Int) from rfl, wr (by omega) (by omega)]
        have w8000 : IntKind.i64.wrap ((m : Int).tdiv 8000) = ((m / 8000 : Nat) : Int) := by rw [show (m : Int).tdiv 8000 = ((m / 8000 : Nat) : Int) from rfl, wr (by omega) (by omega)]
        have hp : ((m / 8 : Nat) : Int).tmod (mkAt l size ns most i).N = ((m / 8 % mkN size most : Nat) : Int) := by rw [hNa]; rfl
        have hq' : ((m / 80 : Nat) : Int).tmod (mkAt l size ns most i).N = ((m / 80 % mkN size most : Nat) : Int) := by rw [hNa]; rfl
        have h8 : (m : Int).tmod 8 = ((m % 8 : Nat) : Int) := rfl
        conv => whnf
        refine ANe0_intro (by decide) ?_
        rw [w8]
        conv => whnf
        refine ANe0_intro hN0 ?_
        rw [hp]
        conv => whnf
        refine ANe0_intro (by decide) ?_
        rw [w80]
        conv => whnf
        refine ANe0_intro hN0 ?_
        rw [hq']
        conv => whnf
        refine AChk_intro (by kernel_rfl) ?_
        conv => whnf
        refine ANe0_intro (by decide) ?_
        rw [h8]
        conv => whnf
        have up : ∀ {α : Type} (f : α → List AV) (xs : List α) (y : α), List.map f (xs ++ [y]) = List.take xs.length (List.map f xs) ++ [f y] := fun f xs y => by
          rw [List.take_of_length_le (by simp)]; simp
        have w7 : ((m / 800 : Nat) : Int).tmod 7 = ((m / 800 % 7 : Nat) : Int) := rfl
        have hG0 : (mkAt l size ns most i).G ≠ 0 := by rw [hGa, mkG]; omega
        have hG8 : ((m / 8000 : Nat) : Int).tmod (mkAt l size ns most i).G = ((m / 8000 % mkG size : Nat) : Int) := by rw [hGa]; rfl
        have hGle := Nat.mod_le (m / 8000) (mkG size)
        have hG9 : IntKind.i64.wrap (1 + ((m / 8000 % mkG size : Nat) : Int)) = 1 + ((m / 8000 % mkG size : Nat) : Int) := wr (by omega) (by omega)
        have hGs : mkG size ≤ 2 := by rw [mkG]; omega
        have hG1 : IntKind.i64.wrap ((mkAt l size ns most i).G + 1) = ((mkG size + 1 : Nat) : Int) := by rw [hGa, wr (by omega) (by omega)]; rfl
        have hG10 : ((m / 8000 : Nat) : Int).tmod ((mkG size + 1 : Nat) : Int) = ((m / 8000 % (mkG size + 1) : Nat) : Int) := rfl
        refine ASpl_intro (fun h0 => ?_) (fun h0 => ?_)
        · have h0 : m % 8 = 0 := by simp at h0; omega
          have hs : mkAt l size ns most (i + 1) = { mkAt l size ns most i with init := (mkAt l size ns most i).init ++ [((m / 8 % mkN size most : Nat) : Int)] } := by rw [hsucc, Int.toNat_natCast, mkStep, if_pos h0]
          conv => whnf
          refine AFits_intro (by simp; omega) ?_
          conv => whnf
          refine ABack_intro (i + 1) [(201, 75)] [] [] ⟨by omega, by omega⟩ (by show _ - (i + 1) < _ - i; omega) ?_
          repeat ((conv => whnf); refine AEq_intro (by first | with_reducible rfl | exact wrS i (by omega) | (rw [hs]; done) | (rw [hs]; exact up _ _ _) | (rw [hs]; simp; done)) ?_)
          trivial
        · have h0 : m % 8 ≠ 0 := by simp at h0; omega
          conv => whnf
          refine ASpl_intro (fun h1 => ?_) (fun h1 => ?_)
          · have h1 : m % 8 = 1 := by simp at h1; omega
            have hs : mkAt l size ns most (i + 1) = { mkAt l size ns most i with fin := (mkAt l size ns most i).fin ++ [((m / 8 % mkN size most : Nat) : Int)] } := by rw [hsucc, Int.toNat_natCast, mkStep, if_neg h0, if_pos h1]
            conv => whnf
            refine AFits_intro (by simp; omega) ?_
            conv => whnf
            refine ABack_intro (i + 1) [(202, 83)] [] [] ⟨by omega, by omega⟩ (by show _ - (i + 1) < _ - i; omega) ?_
            repeat ((conv => whnf); refine AEq_intro (by first | with_reducible rfl | exact wrS i (by omega) | (rw [hs]; done) | (rw [hs]; exact up _ _ _) | (rw [hs]; simp; done)) ?_)
            trivial
          · have h1 : ¬ m % 8 = 1 := by simp at h1; omega
            conv => whnf
            refine ASpl_intro (fun h2 => ?_) (fun h2 => ?_) <;> rw [h2]
            · have h2 : m % 8 = 2 := by simp at h2; omega
              have h23 : m % 8 = 2 ∨ m % 8 = 3 := .inl h2
              conv => whnf
              refine ASpl_t ?_
              conv => whnf
              refine ANe0_intro (by decide) ?_
              rw [w800]
              conv => whnf
              refine ANe0_intro (by decide) ?_
              rw [w7]
              conv => whnf
              refine ACall_pv (c57 l 1 (m / 800 % 7) hl (by omega)) rfl ?_
              conv => whnf
              refine ASpl_intro (fun hg => ?_) (fun hg => ?_) <;> simp at hg
              · have hs : mkAt l size ns most (i + 1) = { mkAt l size ns most i with opens := (mkAt l size ns most i).opens ++ [(((m / 8 % mkN size most : Nat) : Int), pick l 1 (m / 800 % 7), ((m / 80 % mkN size most : Nat) : Int), 1 + ((m / 8000 % mkG size : Nat) : Int))] } := by rw [hsucc, Int.toNat_natCast, mkStep, if_neg h0, if_neg h1, if_pos h23, if_pos hg]
                conv => whnf
                refine ANe0_intro (by decide) ?_
                rw [w8000]
                conv => whnf
                refine ANe0_intro hG0 ?_
                rw [hG8]
                conv => whnf
                refine AFits_intro (by simp; omega) ?_
                rw [hG9]
                conv => whnf
                refine AChk_intro (by kernel_rfl) ?_
                conv => whnf
                refine ABack_intro (i + 1) [(203, 108)] [] [] ⟨by omega, by omega⟩ (by show _ - (i + 1) < _ - i; omega) ?_
                repeat ((conv => whnf); refine AEq_intro (by first | with_reducible rfl | exact wrS i (by omega) | (rw [hs]; done) | (rw [hs]; exact up _ _ _) | (rw [hs]; simp; done)) ?_)
                trivial
              · have hs : mkAt l size ns most (i + 1) = mkAt l size ns most i := by rw [hsucc, Int.toNat_natCast, mkStep, if_neg h0, if_neg h1, if_pos h23, if_neg (by omega)]
                conv => whnf
                refine ABack_intro (i + 1) [] [] [] ⟨by omega, by omega⟩ (by show _ - (i + 1) < _ - i; omega) ?_
                repeat ((conv => whnf); refine AEq_intro (by first | with_reducible rfl | exact wrS i (by omega) | (rw [hs]; done) | (rw [hs]; exact up _ _ _) | (rw [hs]; simp; done)) ?_)
                trivial
            · have h2 : ¬ m % 8 = 2 := by simp at h2; omega
              conv => whnf
              refine ASpl_intro (fun h3 => ?_) (fun h3 => ?_)
              · have h3 : m % 8 = 3 := by simp at h3; omega
                have h23 : m % 8 = 2 ∨ m % 8 = 3 := .inr h3
                conv => whnf
                refine ANe0_intro (by decide) ?_
                rw [w800]
                conv => whnf
                refine ANe0_intro (by decide) ?_
                rw [w7]
                conv => whnf
                refine ACall_pv (c57 l 1 (m / 800 % 7) hl (by omega)) rfl ?_
                conv => whnf
                refine ASpl_intro (fun hg => ?_) (fun hg => ?_) <;> simp at hg
                · have hs : mkAt l size ns most (i + 1) = { mkAt l size ns most i with opens := (mkAt l size ns most i).opens ++ [(((m / 8 % mkN size most : Nat) : Int), pick l 1 (m / 800 % 7), ((m / 80 % mkN size most : Nat) : Int), 1 + ((m / 8000 % mkG size : Nat) : Int))] } := by rw [hsucc, Int.toNat_natCast, mkStep, if_neg h0, if_neg h1, if_pos h23, if_pos hg]
                  conv => whnf
                  refine ANe0_intro (by decide) ?_
                  rw [w8000]
                  conv => whnf
                  refine ANe0_intro hG0 ?_
                  rw [hG8]
                  conv => whnf
                  refine AFits_intro (by simp; omega) ?_
                  rw [hG9]
                  conv => whnf
                  refine AChk_intro (by kernel_rfl) ?_
                  conv => whnf
                  refine ABack_intro (i + 1) [(203, 108)] [] [] ⟨by omega, by omega⟩ (by show _ - (i + 1) < _ - i; omega) ?_
                  repeat ((conv => whnf); refine AEq_intro (by first | with_reducible rfl | exact wrS i (by omega) | (rw [hs]; done) | (rw [hs]; exact up _ _ _) | (rw [hs]; simp; done)) ?_)
                  trivial
                · have hs : mkAt l size ns most (i + 1) = mkAt l size ns most i := by rw [hsucc, Int.toNat_natCast, mkStep, if_neg h0, if_neg h1, if_pos h23, if_neg (by omega)]
                  conv => whnf
                  refine ABack_intro (i + 1) [] [] [] ⟨by omega, by omega⟩ (by show _ - (i + 1) < _ - i; omega) ?_
                  repeat ((conv => whnf); refine AEq_intro (by first | with_reducible rfl | exact wrS i (by omega) | (rw [hs]; done) | (rw [hs]; exact up _ _ _) | (rw [hs]; simp; done)) ?_)
                  trivial
              · have h3 : ¬ m % 8 = 3 := by simp at h3; omega
                have h23 : ¬ (m % 8 = 2 ∨ m % 8 = 3) := by omega
                conv => whnf
                refine ASpl_intro (fun h4 => ?_) (fun h4 => ?_) <;> rw [h4]
                · have h4 : m % 8 = 4 := by simp at h4; omega
                  have h45 : m % 8 = 4 ∨ m % 8 = 5 := .inl h4
                  conv => whnf
                  refine ASpl_t ?_
                  conv => whnf
                  refine ANe0_intro (by decide) ?_
                  rw [w800]
                  conv => whnf
                  refine ANe0_intro (by decide) ?_
                  rw [w7]
                  conv => whnf
                  refine ACall_pv (c57 l 2 (m / 800 % 7) hl (by omega)) rfl ?_
                  conv => whnf
                  refine ASpl_intro (fun hg => ?_) (fun hg => ?_) <;> simp at hg
                  · have hs : mkAt l size ns most (i + 1) = { mkAt l size ns most i with closes := (mkAt l size ns most i).closes ++ [(((m / 8 % mkN size most : Nat) : Int), pick l 2 (m / 800 % 7), ((m / 8000 % (mkG size + 1) : Nat) : Int), ((m / 80 % mkN size most : Nat) : Int))] } := by rw [hsucc, Int.toNat_natCast, mkStep, if_neg h0, if_neg h1, if_neg h23, if_pos h45, if_pos hg]
                    conv => whnf
                    refine ANe0_intro (by decide) ?_
                    rw [w8000]
                    conv => whnf
                    rw [hG1]
                    refine ANe0_intro (by omega) ?_
                    rw [hG10]
                    conv => whnf
                    refine AFits_intro (by simp; omega) ?_
                    conv => whnf
                    refine AChk_intro (by kernel_rfl) ?_
                    conv => whnf
                    refine ABack_intro (i + 1) [(204, 133)] [] [] ⟨by omega, by omega⟩ (by show _ - (i + 1) < _ - i; omega) ?_
                    repeat ((conv => whnf); refine AEq_intro (by first | with_reducible rfl | exact wrS i (by omega) | (rw [hs]; done) | (rw [hs]; exact up _ _ _) | (rw [hs]; simp; done)) ?_)
                    trivial
                  · have hs : mkAt l size ns most (i + 1) = mkAt l size ns most i := by rw [hsucc, Int.toNat_natCast, mkStep, if_neg h0, if_neg h1, if_neg h23, if_pos h45, if_neg (by omega)]
                    conv => whnf
                    refine ABack_intro (i + 1) [] [] [] ⟨by omega, by omega⟩ (by show _ - (i + 1) < _ - i; omega) ?_
                    repeat ((conv => whnf); refine AEq_intro (by first | with_reducible rfl | exact wrS i (by omega) | (rw [hs]; done) | (rw [hs]; exact up _ _ _) | (rw [hs]; simp; done)) ?_)
                    trivial
                · have h4 : ¬ m % 8 = 4 := by simp at h4; omega
                  conv => whnf
                  refine ASpl_intro (fun h5 => ?_) (fun h5 => ?_)
                  · have h5 : m % 8 = 5 := by simp at h5; omega
                    have h45 : m % 8 = 4 ∨ m % 8 = 5 := .inr h5
                    conv => whnf
                    refine ANe0_intro (by decide) ?_
                    rw [w800]
                    conv => whnf
                    refine ANe0_intro (by decide) ?_
                    rw [w7]
                    conv => whnf
                    refine ACall_pv (c57 l 2 (m / 800 % 7) hl (by omega)) rfl ?_
                    conv => whnf
                    refine ASpl_intro (fun hg => ?_) (fun hg => ?_) <;> simp at hg
                    · have hs : mkAt l size ns most (i + 1) = { mkAt l size ns most i with closes := (mkAt l size ns most i).closes ++ [(((m / 8 % mkN size most : Nat) : Int), pick l 2 (m / 800 % 7), ((m / 8000 % (mkG size + 1) : Nat) : Int), ((m / 80 % mkN size most : Nat) : Int))] } := by rw [hsucc, Int.toNat_natCast, mkStep, if_neg h0, if_neg h1, if_neg h23, if_pos h45, if_pos hg]
                      conv => whnf
                      refine ANe0_intro (by decide) ?_
                      rw [w8000]
                      conv => whnf
                      rw [hG1]
                      refine ANe0_intro (by omega) ?_
                      rw [hG10]
                      conv => whnf
                      refine AFits_intro (by simp; omega) ?_
                      conv => whnf
                      refine AChk_intro (by kernel_rfl) ?_
                      conv => whnf
                      refine ABack_intro (i + 1) [(204, 133)] [] [] ⟨by omega, by omega⟩ (by show _ - (i + 1) < _ - i; omega) ?_
                      repeat ((conv => whnf); refine AEq_intro (by first | with_reducible rfl | exact wrS i (by omega) | (rw [hs]; done) | (rw [hs]; exact up _ _ _) | (rw [hs]; simp; done)) ?_)
                      trivial
                    · have hs : mkAt l size ns most (i + 1) = mkAt l size ns most i := by rw [hsucc, Int.toNat_natCast, mkStep, if_neg h0, if_neg h1, if_neg h23, if_pos h45, if_neg (by omega)]
                      conv => whnf
                      refine ABack_intro (i + 1) [] [] [] ⟨by omega, by omega⟩ (by show _ - (i + 1) < _ - i; omega) ?_
                      repeat ((conv => whnf); refine AEq_intro (by first | with_reducible rfl | exact wrS i (by omega) | (rw [hs]; done) | (rw [hs]; exact up _ _ _) | (rw [hs]; simp; done)) ?_)
                      trivial
                  · have h5 : ¬ m % 8 = 5 := by simp at h5; omega
                    have h45 : ¬ (m % 8 = 4 ∨ m % 8 = 5) := by omega
                    conv => whnf
                    refine ANe0_intro (by decide) ?_
                    rw [w800]
                    conv => whnf
                    refine ANe0_intro (by decide) ?_
                    rw [w7]
                    conv => whnf
                    refine ACall_pv (c57 l 3 (m / 800 % 7) hl (by omega)) rfl ?_
                    conv => whnf
                    refine ASpl_intro (fun hg => ?_) (fun hg => ?_) <;> simp at hg
                    · have hs : mkAt l size ns most (i + 1) = { mkAt l size ns most i with inners := (mkAt l size ns most i).inners ++ [(((m / 8 % mkN size most : Nat) : Int), pick l 3 (m / 800 % 7), ((m / 80 % mkN size most : Nat) : Int))] } := by rw [hsucc, Int.toNat_natCast, mkStep, if_neg h0, if_neg h1, if_neg h23, if_neg h45, if_pos hg]
                      conv => whnf
                      refine AFits_intro (by simp; omega) ?_
                      conv => whnf
                      refine ABack_intro (i + 1) [(205, 67)] [] [] ⟨by omega, by omega⟩ (by show _ - (i + 1) < _ - i; omega) ?_
                      repeat ((conv => whnf); refine AEq_intro (by first | with_reducible rfl | exact wrS i (by omega) | (rw [hs]; done) | (rw [hs]; exact up _ _ _) | (rw [hs]; simp; done)) ?_)
                      trivial
                    · have hs : mkAt l size ns most (i + 1) = mkAt l size ns most i := by rw [hsucc, Int.toNat_natCast, mkStep, if_neg h0, if_neg h1, if_neg h23, if_neg h45, if_neg (by omega)]
                      conv => whnf
                      refine ABack_intro (i + 1) [] [] [] ⟨by omega, by omega⟩ (by show _ - (i + 1) < _ - i; omega) ?_
                      repeat ((conv => whnf); refine AEq_intro (by first | with_reducible rfl | exact wrS i (by omega) | (rw [hs]; done) | (rw [hs]; exact up _ _ _) | (rw [hs]; simp; done)) ?_)
                      trivial
      · simp at hd
        have hend : mkAt l size ns most 24 = mkAt l size ns most i := by
          unfold mkAt
          congr 1
          rcases Nat.lt_or_ge i 24 with h | h
          · have : i = ns.length := by omega
            rw [List.take_of_length_le (by omega), List.take_of_length_le (by omega)]
          · have : i = 24 := by omega
            rw [this]
        conv => whnf
        refine ASpl_intro (fun hz => ?_) (fun hz => ?_)
        · have hz : (mkAt l size ns most i).init = [] := by simpa using hz
          have hmk : make l size ns most = { mkAt l size ns most i with init := [0] } := by unfold make; rw [hend]; simp [hz]
          rw [hmk]
          conv => whnf
          refine AFin_cell [(8, .bx 8 0)] [(8, .box [_, _, _, _, _, _, _])] [] [139, 202, 203, 204, 205] [] ⟨8, 0, _, _, rfl, rfl, rfl, Nat.le_of_ble_eq_true rfl, rfl, rfl⟩ ?_
          repeat ((conv => whnf); refine AEq_intro (by first | with_reducible rfl | (rw [List.take_of_length_le (by simp)]; done) | rfl) ?_)
          trivial
        · have hz : (mkAt l size ns most i).init ≠ [] := by simpa using hz
          have hmk : make l size ns most = mkAt l size ns most i := by unfold make; rw [hend]; simp [hz]
          rw [hmk]
          conv => whnf
          refine AFin_cell [(8, .bx 8 0)] [(8, .box [_, _, _, _, _, _, _])] [] [201, 202, 203, 204, 205] [] ⟨8, 0, _, _, rfl, rfl, rfl, Nat.le_of_ble_eq_true rfl, rfl, rfl⟩ ?_
          repeat ((conv => whnf); refine AEq_intro (by first | with_reducible rfl | (rw [List.take_of_length_le (by simp)]; done) | rfl) ?_)
          trivial
    · simp at hc
      repeat ((conv => whnf); refine ASpl_f ?_)
      have hend : mkAt l size ns most 24 = mkAt l size ns most i := by
        unfold mkAt
        congr 1
        rcases Nat.lt_or_ge i 24 with h | h
        · have : i = ns.length := by omega
          rw [List.take_of_length_le (by omega), List.take_of_length_le (by omega)]
        · have : i = 24 := by omega
          rw [this]
      conv => whnf
      refine ASpl_intro (fun hz => ?_) (fun hz => ?_)
      · have hz : (mkAt l size ns most i).init = [] := by simpa using hz
        have hmk : make l size ns most = { mkAt l size ns most i with init := [0] } := by unfold make; rw [hend]; simp [hz]
        rw [hmk]
        conv => whnf
        refine AFin_cell [(8, .bx 8 0)] [(8, .box [_, _, _, _, _, _, _])] [] [139, 202, 203, 204, 205] [] ⟨8, 0, _, _, rfl, rfl, rfl, Nat.le_of_ble_eq_true rfl, rfl, rfl⟩ ?_
        repeat ((conv => whnf); refine AEq_intro (by first | with_reducible rfl | (rw [List.take_of_length_le (by simp)]; done) | rfl) ?_)
        trivial
      · have hz : (mkAt l size ns most i).init ≠ [] := by simpa using hz
        have hmk : make l size ns most = mkAt l size ns most i := by unfold make; rw [hend]; simp [hz]
        rw [hmk]
        conv => whnf
        refine AFin_cell [(8, .bx 8 0)] [(8, .box [_, _, _, _, _, _, _])] [] [201, 202, 203, 204, 205] [] ⟨8, 0, _, _, rfl, rfl, rfl, Nat.le_of_ble_eq_true rfl, rfl, rfl⟩ ?_
        repeat ((conv => whnf); refine AEq_intro (by first | with_reducible rfl | (rw [List.take_of_length_le (by simp)]; done) | rfl) ?_)
        trivial
end Go.Proofs.Ytcpgcenlgihmnaa.Abs
/- canopylaw4.as; canopyref4.Same, Ends. -/
set_option linter.unusedVariables false
set_option linter.unusedSimpArgs false
set_option maxRecDepth 100000
namespace Go.Proofs.Ytcpgcenlgihmnaa.Abs
open Go

abbrev At := Int × List Int
abbrev ea (x : At) : List AV := [.int .i64 x.1, il x.2]
abbrev al (l : List At) : AV := .lst 2 (l.map ea)

theorem take_up {α : Type} (f : α → List AV) {l : List α} {n : Nat} (h : n < l.length) : (l.take (n + 1)).map f = List.take n ((l.take n).map f) ++ [f l[n]] := by
  have e : List.take n ((l.take n).map f) = (l.take n).map f := List.take_of_length_le (by simp; omega)
  rw [e, List.take_succ_eq_append_getElem h, List.map_append]
  rfl

theorem c24 (l : List At) (hl : l.length ≤ 1000000) : CallsTo Try.prog 24 [.pv (al l)] [] (.pv (al l)) [] := by
  refine callsTo_of (ann := []) Try.func24 rfl (by kernel_rfl) (by kernel_rfl) mixed tab_ok (Nat.le_of_ble_eq_true rfl) rfl ?_
  conv => whnf
  refine ALoop_intro (fun n : Nat => n ≤ l.length) (fun n => [(0, .pv (al l)), (3, .rw 3 n), (4, .pv (.int .i64 n))]) (fun n => [(3, .row 2 ((l.take n).map ea))]) (fun n => l.length - n) 0 [] [] [] (by simp) ?_ ?_
  · repeat ((conv => whnf); refine AEq_intro (by first | with_reducible rfl | rfl) ?_)
    trivial
  · intro n hn
    conv => whnf
    refine ASpl_intro (fun hc => ?_) (fun hc => ?_)
    · simp at hc
      conv => whnf
      refine AIdx_map n rfl hc ?_
      conv => whnf
      refine AFits_intro (by simp; omega) ?_
      conv => whnf
      refine ABack_intro (n + 1) [(3, 17)] [] [] (by omega) (by show _ - (n + 1) < _ - n; omega) ?_
      conv => whnf
      refine AEq_intro (take_up ea hc) ?_
      repeat ((conv => whnf); refine AEq_intro (by first | with_reducible rfl | exact wrS n (by omega) | rfl) ?_)
      trivial
    · simp at hc
      obtain rfl : n = l.length := by omega
      conv => whnf
      refine AFin_intro [(2, _)] [] [3] [] rfl ?_
      conv => whnf
      refine AEq_intro ?_ trivial
      rw [List.take_of_length_le (by simp), List.take_of_length_le (by simp)]

theorem c23 (a b : List At) (ha : a.length ≤ 1000000) (hs : ∀ x ∈ a, x.2.length ≤ 1000000) : CallsTo Try.prog 23 [.pv (al a), .pv (al b)] [] (.pv (.bool (decide (a = b)))) [] := by
  refine callsTo_of (ann := []) Try.func23 rfl (by kernel_rfl) (by kernel_rfl) mixed tab_ok (Nat.le_of_ble_eq_true rfl) rfl ?_
  conv => whnf
  refine ASpl_intro (fun hb => ?_) (fun hb => ?_)
  · conv => whnf
    refine AFin_intro [(4, _)] [] [] [] rfl ?_
    conv => whnf
    refine AEq_intro ?_ trivial
    simp at hb
    congr 1
    symm
    simp
    rintro rfl
    exact hb rfl
  · simp at hb
    conv => whnf
    refine ALoop_intro (fun n : Nat => n ≤ a.length ∧ a.take n = b.take n) (fun n => [(0, .pv (al a)), (1, .pv (al b)), (5, .pv (.int .i64 n))]) (fun _ => []) (fun n => a.length - n) 0 [] [] [] (by simp) ?_ ?_
    · repeat ((conv => whnf); refine AEq_intro (by first | with_reducible rfl | rfl) ?_)
      trivial
    · rintro n ⟨hn, he⟩
      conv => whnf
      refine ASpl_intro (fun hl => ?_) (fun hl => ?_)
      · simp at hl
        have hlb : n < b.length := by omega
        have out : (a[n] ≠ b[n]) → a ≠ b := by rintro h rfl; exact h rfl
        conv => whnf
        refine AIdx_map n rfl hl ?_
        conv => whnf
        refine AIdx_map n rfl hlb ?_
        conv => whnf
        refine ASpl_intro (fun hc => ?_) (fun hc => ?_) <;> rw [hc]
        · simp at hc
          repeat ((conv => whnf); refine ASpl_t ?_)
          conv => whnf
          refine AChk_intro (by kernel_rfl) ?_
          repeat ((conv => whnf); refine ASpl_t ?_)
          conv => whnf
          refine AFin_intro [(4, _)] [] [] [] rfl ?_
          conv => whnf
          refine AEq_intro ?_ trivial
          have := out fun e => hc (by rw [e])
          simp [this]
        · simp at hc
          repeat ((conv => whnf); refine ASpl_f ?_)
          conv => whnf
          refine AIdx_map n rfl hl ?_
          repeat ((conv => whnf); refine ASpl_f ?_)
          conv => whnf
          refine AIdx_map n rfl hlb ?_
          repeat ((conv => whnf); refine ASpl_f ?_)
          conv => whnf
          refine ACall_pv (c33 _ _ (by have := hs a[n] (List.getElem_mem hl); omega)) rfl ?_
          repeat ((conv => whnf); refine ASpl_f ?_)
          conv => whnf
          refine AChk_intro (by kernel_rfl) ?_
          conv => whnf
          refine ASpl_intro (fun hd => ?_) (fun hd => ?_)
          · simp at hd
            conv => whnf
            refine AFin_intro [(4, _)] [] [] [] rfl ?_
            conv => whnf
            refine AEq_intro ?_ trivial
            have := out fun e => hd (by rw [e])
            simp [this]
          · simp at hd
            conv => whnf
            refine ABack_intro (n + 1) [] [] [] ⟨by omega, ?_⟩ (by show _ - (n + 1) < _ - n; omega) ?_
            · rw [List.take_succ_eq_append_getElem hl, List.take_succ_eq_append_getElem hlb, he, Prod.ext hc hd]
            · repeat ((conv => whnf); refine AEq_intro (by first | with_reducible rfl | exact wrS n (by omega)) ?_)
              trivial
      · simp at hl
        conv => whnf
        refine AFin_intro [(4, _)] [] [] [] rfl ?_
        conv => whnf
        refine AEq_intro ?_ trivial
        have h1 : n = a.length := by omega
        subst h1
        congr 1
        symm
        simp at he
        simp
        rw [he, List.take_of_length_le (by omega)]
end Go.Proofs.Ytcpgcenlgihmnaa.Abs
/- canopyref4.Ends. -/
set_option linter.unusedVariables false
set_option linter.unusedSimpArgs false
set_option maxRecDepth 100000
namespace Go.Proofs.Ytcpgcenlgihmnaa.Abs
open Go

abbrev autoC (a : Auto) : List LV := [.pv (.int .i64 a.N), .pv (.int .i64 a.G), .pv (il a.init), .pv (il a.fin), .pv (l4 a.opens), .pv (l4 a.closes), .pv (l3 a.inners)]
def ends (a : Auto) (l : List At) : Bool := l.any fun x => a.fin.any fun f => f == x.1

theorem c28 (a : Auto) (l : List At) (hl : l.length ≤ 1000000) (hf : a.fin.length ≤ 1000000) : CallsTo Try.prog 28 [autoL a, .pv (al l)] [] (.pv (.bool (ends a l))) [] := by
  refine callsTo_of (ann := []) Try.func28 rfl (by kernel_rfl) (by kernel_rfl) mixed tab_ok (Nat.le_of_ble_eq_true rfl) rfl ?_
  conv => whnf
  refine ALoop_intro (fun n : Nat => n ≤ l.length ∧ ends a l = ends a (l.drop n)) (fun n => [(1, .pv (al l)), (2, .bx 2 0), (5, .pv (.int .i64 n))]) (fun _ => [(2, .box (autoC a))]) (fun n => l.length - n) 0 [] [] [] (by simp) ?_ ?_
  · repeat ((conv => whnf); refine AEq_intro (by first | with_reducible rfl | rfl) ?_)
    trivial
  · rintro n ⟨hn, he⟩
    conv => whnf
    refine ASpl_intro (fun hc => ?_) (fun hc => ?_)
    · simp at hc
      have hd : l.drop n = l[n] :: l.drop (n + 1) := List.drop_eq_getElem_cons hc
      conv => whnf
      refine ALoop_intro (fun m : Nat => m ≤ a.fin.length ∧ ends a l = ((a.fin.drop m).any (· == l[n].1) || ends a (l.drop (n + 1)))) (fun m => [(1, .pv (al l)), (2, .bx 2 0), (5, .pv (.int .i64 n)), (6, .pv (.int .i64 m))]) (fun _ => [(2, .box (autoC a))]) (fun m => a.fin.length - m) 0 [] [] [] ⟨Nat.zero_le _, by rw [he]; unfold ends; rw [hd, List.any_cons]; rfl⟩ ?_ ?_
      · repeat ((conv => whnf); refine AEq_intro (by first | with_reducible rfl | rfl) ?_)
        trivial
      · rintro m ⟨hm, hme⟩
        conv => whnf
        refine ASpl_intro (fun hb => ?_) (fun hb => ?_)
        · simp at hb
          have hfd : a.fin.drop m = a.fin[m] :: a.fin.drop (m + 1) := List.drop_eq_getElem_cons hb
          conv => whnf
          refine AIdx_map m rfl hb ?_
          conv => whnf
          refine AIdx_map n rfl hc ?_
          conv => whnf
          refine AChk_intro (by kernel_rfl) ?_
          conv => whnf
          refine ASpl_intro (fun hx => ?_) (fun hx => ?_)
          · conv => whnf
            refine AFin_intro [(4, _)] [] [] [] rfl ?_
            conv => whnf
            refine AEq_intro ?_ trivial
            rw [hme, hfd, List.any_cons, hx]
            rfl
          · conv => whnf
            refine ABack_intro (m + 1) [] [] [] ⟨by omega, ?_⟩ (by show _ - (m + 1) < _ - m; omega) ?_
            · rw [hme, hfd, List.any_cons, hx]
              rfl
            · repeat ((conv => whnf); refine AEq_intro (by first | with_reducible rfl | exact wrS m (by omega)) ?_)
              trivial
        · simp at hb
          conv => whnf
          refine ABack_intro (n + 1) [] [] [] ⟨by omega, ?_⟩ (by show _ - (n + 1) < _ - n; omega) ?_
          · rw [hme, List.drop_eq_nil_of_le (by omega)]
            simp
          · repeat ((conv => whnf); refine AEq_intro (by first | with_reducible rfl | exact wrS n (by omega)) ?_)
            trivial
    · simp at hc
      conv => whnf
      refine AFin_intro [(4, _)] [] [] [] rfl ?_
      conv => whnf
      refine AEq_intro ?_ trivial
      rw [he, List.drop_eq_nil_of_le (by omega)]
      rfl
end Go.Proofs.Ytcpgcenlgihmnaa.Abs
/- canopyref1.Less; canopyref4.less. -/
set_option linter.unusedVariables false
set_option linter.unusedSimpArgs false
set_option maxRecDepth 100000
namespace Go.Proofs.Ytcpgcenlgihmnaa.Abs
open Go

def lessI : List Int → List Int → Bool
  | [], [] => false
  | [], _ :: _ => true
  | _ :: _, [] => false
  | a :: x, b :: y => if a ≠ b then decide (a < b) else lessI x y

theorem c129 (xs ys : List Int) (hx : xs.length ≤ 1000000) : CallsTo Try.prog 129 [.pv (il xs), .pv (il ys)] [] (.pv (.bool (lessI xs ys))) [] := by
  refine callsTo_of (ann := []) Try.func129 rfl (by kernel_rfl) (by kernel_rfl) mixed tab_ok (Nat.le_of_ble_eq_true rfl) rfl ?_
  conv => whnf
  refine ALoop_intro (fun n : Nat => n ≤ xs.length ∧ n ≤ ys.length ∧ lessI xs ys = lessI (xs.drop n) (ys.drop n)) (fun n => [(0, .pv (il xs)), (1, .pv (il ys)), (5, .pv (.int .i64 n))]) (fun _ => []) (fun n => xs.length - n) 0 [] [] [] (by simp) ?_ ?_
  · repeat ((conv => whnf); refine AEq_intro (by first | with_reducible rfl | rfl) ?_)
    trivial
  · rintro n ⟨hn, hn2, he⟩
    conv => whnf
    have out : ¬ (n < xs.length ∧ n < ys.length) → lessI xs ys = decide ((xs.length : Int) < ys.length) := fun h => by
      rw [he]
      rcases Nat.lt_or_ge n xs.length with h1 | h1
      · have : n = ys.length := by omega
        rw [List.drop_eq_getElem_cons h1, (List.drop_eq_nil_of_le (by omega) : ys.drop n = [])]
        simp [lessI]; omega
      · rw [(List.drop_eq_nil_of_le (by omega) : xs.drop n = [])]
        rcases Nat.lt_or_ge n ys.length with h2 | h2
        · rw [List.drop_eq_getElem_cons h2]
          simp [lessI]; omega
        · rw [(List.drop_eq_nil_of_le (by omega) : ys.drop n = [])]
          simp [lessI]; omega
    refine ASpl_intro (fun hl => ?_) (fun hl => ?_) <;> rw [hl]
    · simp at hl
      repeat ((conv => whnf); refine ASpl_t ?_)
      conv => whnf
      refine ASpl_intro (fun hb => ?_) (fun hb => ?_)
      · simp at hb
        have hd1 : xs.drop n = xs[n] :: xs.drop (n + 1) := List.drop_eq_getElem_cons hl
        have hd2 : ys.drop n = ys[n] :: ys.drop (n + 1) := List.drop_eq_getElem_cons hb
        conv => whnf
        refine AIdx_map n rfl hl ?_
        conv => whnf
        refine AIdx_map n rfl hb ?_
        conv => whnf
        refine AChk_intro (by kernel_rfl) ?_
        conv => whnf
        refine ASpl_intro (fun hc => ?_) (fun hc => ?_)
        · simp at hc
          conv => whnf
          refine AIdx_map n rfl hl ?_
          conv => whnf
          refine AIdx_map n rfl hb ?_
          conv => whnf
          refine AChk_intro (by kernel_rfl) ?_
          conv => whnf
          refine AFin_intro [(4, _)] [] [] [] rfl ?_
          conv => whnf
          refine AEq_intro ?_ trivial
          rw [he, hd1, hd2, lessI, if_pos hc]
        · simp at hc
          conv => whnf
          refine ABack_intro (n + 1) [] [] [] ⟨by omega, by omega, ?_⟩ (by show _ - (n + 1) < _ - n; omega) ?_
          · rw [he, hd1, hd2, lessI, if_neg (by simp [hc])]
          · repeat ((conv => whnf); refine AEq_intro (by first | with_reducible rfl | exact wrS n (by omega)) ?_)
            trivial
      · simp at hb
        conv => whnf
        refine AFin_intro [(4, _)] [] [] [] rfl ?_
        conv => whnf
        refine AEq_intro ?_ trivial
        rw [out (by omega)]
        simp
    · simp at hl
      repeat ((conv => whnf); refine ASpl_f ?_)
      conv => whnf
      refine AFin_intro [(4, _)] [] [] [] rfl ?_
      conv => whnf
      refine AEq_intro ?_ trivial
      rw [out (by omega)]
      simp

abbrev atL (x : At) : LV := .ag [.pv (.int .i64 x.1), .pv (il x.2)]
def lessA (a b : At) : Bool := decide (a.1 < b.1) || (a.1 == b.1 && lessI a.2 b.2)
theorem c101 (a b : At) (ha : a.2.length ≤ 1000000) : CallsTo Try.prog 101 [atL a, atL b] [] (.pv (.bool (lessA a b))) [] := by
  refine callsTo_of (ann := []) Try.func101 rfl (by kernel_rfl) (by kernel_rfl) mixed tab_ok (Nat.le_of_ble_eq_true rfl) rfl ?_
  conv => whnf
  refine ASpl_intro (fun h1 => ?_) (fun h1 => ?_) <;> rw [h1]
  · repeat ((conv => whnf); refine ASpl_t ?_)
    conv => whnf
    refine AFin_intro [(4, _)] [] [] [] rfl ?_
    conv => whnf
    refine AEq_intro ?_ trivial
    rw [lessA, h1]
    rfl
  · repeat ((conv => whnf); refine ASpl_f ?_)
    conv => whnf
    refine ASpl_intro (fun h2 => ?_) (fun h2 => ?_) <;> rw [h2]
    · repeat ((conv => whnf); refine ASpl_t ?_)
      conv => whnf
      refine ACall_pv (c129 _ _ ha) rfl ?_
      repeat ((conv => whnf); first | refine ASpl_t ?_ | refine ASpl_f ?_)
      conv => whnf
      refine AFin_intro [(4, _)] [] [] [] rfl ?_
      conv => whnf
      refine AEq_intro ?_ trivial
      rw [lessA, h1, h2]
      simp
    · repeat ((conv => whnf); refine ASpl_f ?_)
      conv => whnf
      refine AFin_intro [(4, _)] [] [] [] rfl ?_
      conv => whnf
      refine AEq_intro ?_ trivial
      rw [lessA, h1, h2]
      rfl
end Go.Proofs.Ytcpgcenlgihmnaa.Abs
/- canopyref4.put. -/
set_option linter.unusedVariables false
set_option linter.unusedSimpArgs false
set_option maxRecDepth 100000
namespace Go.Proofs.Ytcpgcenlgihmnaa.Abs
open Go

def putK (l : List At) (x : At) : Nat → Nat
  | 0 => 0
  | k + 1 => if lessA x ((l[k]?).getD (0, [])) = true then putK l x k else k + 1
def put (l : List At) (x : At) : List At :=
  let k := putK l x l.length
  if 0 < k ∧ lessA ((l[k - 1]?).getD (0, [])) x = false then l else l.take k ++ [x] ++ l.drop k

theorem wrP (k : Nat) (h : k ≤ 1000000) : IntKind.i64.wrap (((k + 1 : Nat) : Int) - 1) = (k : Int) := by rw [wr (by omega) (by omega)]; omega

theorem tk (A : List (List AV)) (n : Nat) (h : A.length ≤ n) : A.take n = A := List.take_of_length_le h
theorem puts3 (l : List At) (x : At) (k : Nat) (hk : k ≤ l.length) :
    List.take (0 + (List.take k (l.map ea)).length + (List.take 1 [ea x]).length + (List.drop k (l.map ea)).length) (List.take (0 + (List.take k (l.map ea)).length + (List.take 1 [ea x]).length) (List.take (0 + (List.take k (l.map ea)).length) (List.take 0 ([] : List (List AV)) ++ List.take k (l.map ea)) ++ List.take 1 [ea x]) ++ List.drop k (l.map ea)) = (l.take k ++ [x] ++ l.drop k).map ea := by
  have e1 : List.take (0 + (List.take k (l.map ea)).length) (List.take 0 ([] : List (List AV)) ++ List.take k (l.map ea)) = List.take k (l.map ea) := by
    rw [tk _ _ (by simp)]; simp
  have e2 : List.take (0 + (List.take k (l.map ea)).length + (List.take 1 [ea x]).length) (List.take k (l.map ea) ++ List.take 1 [ea x]) = List.take k (l.map ea) ++ [ea x] := by
    rw [tk _ _ (by simp)]; rfl
  rw [e1, e2, tk _ _ (by simp; omega)]
  simp

theorem c64 (l : List At) (x : At) (hl : l.length ≤ 100000) (hs : ∀ y ∈ l, y.2.length ≤ 1000000) (hx : x.2.length ≤ 1000000) : CallsTo Try.prog 64 [.pv (al l), atL x] [] (.pv (al (put l x))) [] := by
  refine callsTo_of (ann := []) Try.func64 rfl (by kernel_rfl) (by kernel_rfl) mixed tab_ok (Nat.le_of_ble_eq_true rfl) rfl ?_
  conv => whnf
  refine ALoop_intro (fun k : Nat => k ≤ l.length ∧ putK l x l.length = putK l x k) (fun k => [(0, .pv (al l)), (3, .bx 3 0), (5, .pv (.int .i64 k))]) (fun _ => [(3, .box [.pv (.int .i64 x.1), .pv (il x.2)])]) (fun k => k) l.length [] [] [] ⟨Nat.le_refl _, rfl⟩ ?_ ?_
  · repeat ((conv => whnf); refine AEq_intro (by first | with_reducible rfl | simp) ?_)
    trivial
  · rintro k ⟨hk, he⟩
    conv => whnf
    refine ASpl_intro (fun h1 => ?_) (fun h1 => ?_) <;> rw [h1]
    · simp at h1
      obtain ⟨j, rfl⟩ : ∃ j, k = j + 1 := ⟨k - 1, by omega⟩
      have hj : j < l.length := by omega
      have hg : (l[j]?).getD (0, []) = l[j] := by simp [hj]
      repeat ((conv => whnf); refine ASpl_t ?_)
      conv => whnf
      refine AIdx_map j (wrP j (by omega)) hj ?_
      repeat ((conv => whnf); refine ASpl_t ?_)
      conv => whnf
      refine ACall_pv (c101 x l[j] hx) rfl ?_
      repeat ((conv => whnf); refine ASpl_t ?_)
      conv => whnf
      refine AChk_intro (by kernel_rfl) ?_
      conv => whnf
      refine ASpl_intro (fun h2 => ?_) (fun h2 => ?_)
      · conv => whnf
        refine ABack_intro j [] [] [] ⟨by omega, by rw [he, putK, hg, if_pos h2]⟩ (Nat.lt_succ_self j) ?_
        repeat ((conv => whnf); refine AEq_intro (by first | with_reducible rfl | rw [wrP j (by omega)]) ?_)
        trivial
      · have hkk : putK l x l.length = j + 1 := by rw [he, putK, hg, if_neg (by rw [h2]; decide)]
        conv => whnf
        refine ASpl_intro (fun h3 => ?_) (fun h3 => ?_) <;> rw [h3]
        · repeat ((conv => whnf); refine ASpl_t ?_)
          conv => whnf
          refine AIdx_map j (wrP j (by omega)) hj ?_
          repeat ((conv => whnf); refine ASpl_t ?_)
          conv => whnf
          refine ACall_pv (c101 l[j] x (hs _ (List.getElem_mem hj))) rfl ?_
          repeat ((conv => whnf); refine ASpl_t ?_)
          conv => whnf
          refine AChk_intro (by kernel_rfl) ?_
          conv => whnf
          refine ASpl_intro (fun h4 => ?_) (fun h4 => ?_)
          · conv => whnf
            refine AFin_intro [(4, _)] [] [] [] rfl ?_
            conv => whnf
            refine AEq_intro ?_ trivial
            have h4 : lessA l[j] x = false := by simpa using h4
            have hp : put l x = l := by unfold put; rw [hkk]; simp [hj, h4]
            rw [hp]
          · have h4 : lessA l[j] x = true := by simpa using h4
            have hp : put l x = l.take (j + 1) ++ [x] ++ l.drop (j + 1) := by unfold put; rw [hkk]; simp [hj, h4]
            conv => whnf
            refine ALe_intro (by omega) (by simp; omega) ?_
            conv => whnf
            refine AFits_intro (by simp; omega) ?_
            conv => whnf
            refine AFits_intro (by simp; omega) ?_
            conv => whnf
            refine ALe_intro (by omega) (by simp; omega) ?_
            conv => whnf
            refine AFits_intro (by simp; omega) ?_
            conv => whnf
            refine AChk_intro (by kernel_rfl) ?_
            conv => whnf
            refine AFin_intro [(4, _)] [] [45] [] rfl ?_
            conv => whnf
            refine AEq_intro ?_ trivial
            rw [hp]
            exact (puts3 l x (j + 1) (by omega)).symm
        · simp at h3
    · have h0 : k = 0 := by simpa using h1
      subst h0
      have hkk : putK l x l.length = 0 := by rw [he]; rfl
      have hp : put l x = l.take 0 ++ [x] ++ l.drop 0 := by unfold put; rw [hkk]; simp
      repeat ((conv => whnf); refine ASpl_f ?_)
      conv => whnf
      refine AChk_intro (by kernel_rfl) ?_
      repeat ((conv => whnf); refine ASpl_f ?_)
      repeat ((conv => whnf); refine ASpl_f ?_)
      conv => whnf
      refine AChk_intro (by kernel_rfl) ?_
      repeat ((conv => whnf); refine ASpl_f ?_)
      conv => whnf
      refine ALe_intro (by omega) (by simp) ?_
      conv => whnf
      refine AFits_intro (by simp <;> omega) ?_
      conv => whnf
      refine AFits_intro (by simp <;> omega) ?_
      conv => whnf
      refine ALe_intro (by omega) (by simp) ?_
      conv => whnf
      refine AFits_intro (by simp <;> omega) ?_
      conv => whnf
      refine AChk_intro (by kernel_rfl) ?_
      conv => whnf
      refine AFin_intro [(4, _)] [] [45] [] rfl ?_
      conv => whnf
      refine AEq_intro ?_ trivial
      rw [hp]
      exact (puts3 l x 0 (by omega)).symm
end Go.Proofs.Ytcpgcenlgihmnaa.Abs
/- canopyref2.Ints; canopyref4.Start. -/
set_option linter.unusedVariables false
set_option linter.unusedSimpArgs false
set_option maxRecDepth 100000
namespace Go.Proofs.Ytcpgcenlgihmnaa.Abs
open Go

def insK (l : List Int) (x : Int) : Nat → Nat
  | 0 => 0
  | k + 1 => if x < (l[k]?).getD 0 then insK l x k else k + 1
def insI (l : List Int) (x : Int) : List Int :=
  let k := insK l x l.length
  if k = 0 ∨ (l[k - 1]?).getD 0 ≠ x then l.take k ++ [x] ++ l.drop k else l
def ints (l : List Int) : List Int := l.foldl insI []
theorem insI_len (l : List Int) (x : Int) : (insI l x).length ≤ l.length + 1 := by
  unfold insI
  dsimp only
  split
  · simp; omega
  · omega
theorem ints_len (l : List Int) : (ints l).length ≤ l.length := by
  have : ∀ (l acc : List Int), (l.foldl insI acc).length ≤ acc.length + l.length := by
    intro l
    induction l with
    | nil => intro acc; simp
    | cons x l ih => intro acc; have := ih (insI acc x); have := insI_len acc x; simp at *; omega
  simpa [ints] using this l []
theorem ints_succ {l : List Int} {n : Nat} (h : n < l.length) : ints (l.take (n + 1)) = insI (ints (l.take n)) l[n] := by
  unfold ints
  rw [List.take_succ_eq_append_getElem h, List.foldl_append]
  rfl
theorem puts3i (l : List Int) (x : Int) (k : Nat) (hk : k ≤ l.length) :
    List.take (0 + (List.take k (l.map ei)).length + (List.take 1 [ei x]).length + (List.drop k (l.map ei)).length) (List.take (0 + (List.take k (l.map ei)).length + (List.take 1 [ei x]).length) (List.take (0 + (List.take k (l.map ei)).length) (List.take 0 ([] : List (List AV)) ++ List.take k (l.map ei)) ++ List.take 1 [ei x]) ++ List.drop k (l.map ei)) = (l.take k ++ [x] ++ l.drop k).map ei := by
  have e1 : List.take (0 + (List.take k (l.map ei)).length) (List.take 0 ([] : List (List AV)) ++ List.take k (l.map ei)) = List.take k (l.map ei) := by
    rw [tk _ _ (by simp)]; simp
  have e2 : List.take (0 + (List.take k (l.map ei)).length + (List.take 1 [ei x]).length) (List.take k (l.map ei) ++ List.take 1 [ei x]) = List.take k (l.map ei) ++ [ei x] := by
    rw [tk _ _ (by simp)]; rfl
  rw [e1, e2, tk _ _ (by simp; omega)]
  simp

theorem c59 (l : List Int) (hl : l.length ≤ 100000) : CallsTo Try.prog 59 [.pv (il l)] [] (.pv (il (ints l))) [] := by
  refine callsTo_of (ann := []) Try.func59 rfl (by kernel_rfl) (by kernel_rfl) mixed tab_ok (Nat.le_of_ble_eq_true rfl) rfl ?_
  conv => whnf
  refine ALoop_intro (fun n : Nat => n ≤ l.length) (fun n => [(0, .pv (il l)), (3, .pv (il (ints (l.take n)))), (4, .pv (.int .i64 n))]) (fun _ => []) (fun n => l.length - n) 0 [] [3] [] (by simp) ?_ ?_
  · repeat ((conv => whnf); refine AEq_intro (by first | with_reducible rfl | rfl) ?_)
    trivial
  · intro n hn
    have hlen := ints_len (l.take n)
    rw [List.length_take] at hlen
    conv => whnf
    refine ASpl_intro (fun hc => ?_) (fun hc => ?_)
    · simp at hc
      have hsucc := ints_succ hc
      generalize ho : ints (l.take n) = o at *
      conv => whnf
      refine ALoop_intro (fun k : Nat => k ≤ o.length ∧ insK o l[n] o.length = insK o l[n] k) (fun k => [(0, .pv (il l)), (3, .pv (il o)), (4, .pv (.int .i64 n)), (5, .pv (.int .i64 k))]) (fun _ => []) (fun k => k) o.length [] [] [] ⟨Nat.le_refl _, rfl⟩ ?_ ?_
      · repeat ((conv => whnf); refine AEq_intro (by first | with_reducible rfl | simp) ?_)
        trivial
      · rintro k ⟨hk, he⟩
        conv => whnf
        refine ASpl_intro (fun h1 => ?_) (fun h1 => ?_) <;> rw [h1]
        · simp at h1
          obtain ⟨j, rfl⟩ : ∃ j, k = j + 1 := ⟨k - 1, by omega⟩
          have hj : j < o.length := by omega
          have hg : (o[j]?).getD 0 = o[j] := by simp [hj]
          repeat ((conv => whnf); refine ASpl_t ?_)
          conv => whnf
          refine AIdx_map n rfl hc ?_
          repeat ((conv => whnf); refine ASpl_t ?_)
          conv => whnf
          refine AIdx_map j (wrP j (by omega)) hj ?_
          repeat ((conv => whnf); refine ASpl_t ?_)
          conv => whnf
          refine AChk_intro (by kernel_rfl) ?_
          conv => whnf
          refine ASpl_intro (fun h2 => ?_) (fun h2 => ?_)
          · simp at h2
            conv => whnf
            refine ABack_intro j [] [] [] ⟨by omega, by rw [he, insK, hg, if_pos h2]⟩ (Nat.lt_succ_self j) ?_
            repeat ((conv => whnf); refine AEq_intro (by first | with_reducible rfl | rw [wrP j (by omega)]) ?_)
            trivial
          · simp at h2
            have hkk : insK o l[n] o.length = j + 1 := by rw [he, insK, hg, if_neg (by omega)]
            conv => whnf
            refine ASpl_intro (fun h3 => ?_) (fun h3 => ?_) <;> rw [h3]
            · simp at h3
              omega
            · repeat ((conv => whnf); refine ASpl_f ?_)
              conv => whnf
              refine AIdx_map j (wrP j (by omega)) hj ?_
              repeat ((conv => whnf); refine ASpl_f ?_)
              conv => whnf
              refine AIdx_map n rfl hc ?_
              repeat ((conv => whnf); refine ASpl_f ?_)
              conv => whnf
              refine AChk_intro (by kernel_rfl) ?_
              conv => whnf
              refine ASpl_intro (fun h4 => ?_) (fun h4 => ?_) <;> simp at h4
              · have hp : insI o l[n] = o.take (j + 1) ++ [l[n]] ++ o.drop (j + 1) := by unfold insI; rw [hkk]; simp [hj, h4]
                conv => whnf
                refine ALe_intro (by omega) (by simp <;> omega) ?_
                conv => whnf
                refine AFits_intro (by simp <;> omega) ?_
                conv => whnf
                refine AIdx_map n rfl hc ?_
                conv => whnf
                refine AFits_intro (by simp <;> omega) ?_
                conv => whnf
                refine ALe_intro (by omega) (by simp <;> omega) ?_
                conv => whnf
                refine AFits_intro (by simp <;> omega) ?_
                conv => whnf
                refine AChk_intro (by kernel_rfl) ?_
                conv => whnf
                refine ABack_intro (n + 1) [] [58] [] (by omega) (by show _ - (n + 1) < _ - n; omega) ?_
                conv => whnf
                refine AEq_intro (by with_reducible rfl) ?_
                conv => whnf
                refine AEq_intro (by rw [hsucc, hp]; exact (puts3i o l[n] (j + 1) (by omega)).symm) ?_
                conv => whnf
                refine AEq_intro (wrS n (by omega)) trivial
              · have hp : insI o l[n] = o := by unfold insI; rw [hkk]; simp [hj, h4]
                conv => whnf
                refine ABack_intro (n + 1) [] [] [] (by omega) (by show _ - (n + 1) < _ - n; omega) ?_
                conv => whnf
                refine AEq_intro (by with_reducible rfl) ?_
                conv => whnf
                refine AEq_intro (by rw [hsucc, hp]) ?_
                conv => whnf
                refine AEq_intro (wrS n (by omega)) trivial
        · have h0 : k = 0 := by simpa using h1
          subst h0
          have hkk : insK o l[n] o.length = 0 := by rw [he]; rfl
          have hp : insI o l[n] = o.take 0 ++ [l[n]] ++ o.drop 0 := by unfold insI; rw [hkk]; simp
          repeat ((conv => whnf); refine ASpl_f ?_)
          conv => whnf
          refine AChk_intro (by kernel_rfl) ?_
          repeat ((conv => whnf); refine ASpl_f ?_)
          repeat ((conv => whnf); refine ASpl_t ?_)
          conv => whnf
          refine AChk_intro (by kernel_rfl) ?_
          repeat ((conv => whnf); refine ASpl_t ?_)
          conv => whnf
          refine ALe_intro (by omega) (by simp <;> omega) ?_
          conv => whnf
          refine AFits_intro (by simp <;> omega) ?_
          conv => whnf
          refine AIdx_map n rfl hc ?_
          conv => whnf
          refine AFits_intro (by simp <;> omega) ?_
          conv => whnf
          refine ALe_intro (by omega) (by simp <;> omega) ?_
          conv => whnf
          refine AFits_intro (by simp <;> omega) ?_
          conv => whnf
          refine AChk_intro (by kernel_rfl) ?_
          conv => whnf
          refine ABack_intro (n + 1) [] [58] [] (by omega) (by show _ - (n + 1) < _ - n; omega) ?_
          conv => whnf
          refine AEq_intro (by with_reducible rfl) ?_
          conv => whnf
          refine AEq_intro (by rw [hsucc, hp]; exact (puts3i o l[n] (0) (by omega)).symm) ?_
          conv => whnf
          refine AEq_intro (wrS n (by omega)) trivial
    · simp at hc
      conv => whnf
      refine AFin_intro [(2, _)] [] [] [] rfl ?_
      conv => whnf
      refine AEq_intro ?_ trivial
      rw [List.take_of_length_le (by omega)]

def startR (a : Auto) : List At := (ints a.init).map fun s => (s, [])
theorem c22 (a : Auto) (ha : a.init.length ≤ 100000) : CallsTo Try.prog 22 [autoL a] [] (.pv (al (startR a))) [] := by
  refine callsTo_of (ann := []) Try.func22 rfl (by kernel_rfl) (by kernel_rfl) mixed tab_ok (Nat.le_of_ble_eq_true rfl) rfl ?_
  have hlen := ints_len a.init
  conv => whnf
  refine ACall_pv (c59 a.init ha) rfl ?_
  conv => whnf
  refine ALoop_intro (fun n : Nat => n ≤ (ints a.init).length) (fun n => [(3, .rw 3 n), (4, .pv (il (ints a.init))), (5, .pv (.int .i64 n))]) (fun n => [(3, .row 2 (((startR a).take n).map ea))]) (fun n => (ints a.init).length - n) 0 [] [] [] (by simp) ?_ ?_
  · repeat ((conv => whnf); refine AEq_intro (by first | with_reducible rfl | rfl) ?_)
    trivial
  · intro n hn
    have hsl : (startR a).length = (ints a.init).length := by simp [startR]
    conv => whnf
    refine ASpl_intro (fun hc => ?_) (fun hc => ?_)
    · simp at hc
      have hg : (startR a)[n]'(by omega) = ((ints a.init)[n], []) := by simp [startR]
      conv => whnf
      refine AIdx_map n rfl hc ?_
      conv => whnf
      refine AFits_intro (by simp; omega) ?_
      conv => whnf
      refine ABack_intro (n + 1) [(3, 22)] [] [] (by omega) (by show _ - (n + 1) < _ - n; omega) ?_
      conv => whnf
      refine AEq_intro (by rw [take_up ea (by omega : n < (startR a).length), hg]; rfl) ?_
      repeat ((conv => whnf); refine AEq_intro (by first | with_reducible rfl | exact wrS n (by omega) | rfl) ?_)
      trivial
    · simp at hc
      obtain rfl : n = (ints a.init).length := by omega
      conv => whnf
      refine AFin_intro [(2, _)] [] [3] [] rfl ?_
      conv => whnf
      refine AEq_intro ?_ trivial
      rw [tk _ _ (by simp; omega), List.take_of_length_le (by omega)]
end Go.Proofs.Ytcpgcenlgihmnaa.Abs
/- canopyref4.step. -/
set_option linter.unusedVariables false
set_option linter.unusedSimpArgs false
set_option maxRecDepth 100000
namespace Go.Proofs.Ytcpgcenlgihmnaa.Abs
open Go

def stI (x : At) (sym : Int) (r : R3) : List At := if r.1 = x.1 ∧ r.2.1 = sym then [(r.2.2, x.2)] else []
def stO (x : At) (sym : Int) (r : R4) : List At := if r.1 = x.1 ∧ r.2.1 = sym then [(r.2.2.1, r.2.2.2 :: x.2)] else []
def stC (x : At) (sym : Int) (r : R4) : List At :=
  if r.1 = x.1 ∧ r.2.1 = sym then (match x.2 with
    | [] => if r.2.2.1 = 0 then [(r.2.2.2, [])] else []
    | t :: s => if r.2.2.1 = t then [(r.2.2.2, s)] else []) else []
def step (a : Auto) (x : At) (sym : Int) : List At := a.inners.flatMap (stI x sym) ++ a.opens.flatMap (stO x sym) ++ a.closes.flatMap (stC x sym)

theorem flat_succ {α β : Type} (f : α → List β) {l : List α} {n : Nat} (h : n < l.length) : (l.take (n + 1)).flatMap f = (l.take n).flatMap f ++ f l[n] := by
  rw [List.take_succ_eq_append_getElem h, List.flatMap_append]
  simp
theorem stI_len (x : At) (sym : Int) (r : R3) : (stI x sym r).length ≤ 1 := by unfold stI; split <;> simp
theorem stO_len (x : At) (sym : Int) (r : R4) : (stO x sym r).length ≤ 1 := by unfold stO; split <;> simp
theorem stC_len (x : At) (sym : Int) (r : R4) : (stC x sym r).length ≤ 1 := by
  unfold stC
  split
  · split <;> split <;> simp
  · simp
theorem flat_len {α β : Type} (f : α → List β) (hf : ∀ x, (f x).length ≤ 1) : ∀ l : List α, (l.flatMap f).length ≤ l.length
  | [] => by simp
  | x :: l => by have := flat_len f hf l; have := hf x; simp at *; omega

theorem grow (I : List At) (y : At) : (I ++ [y]).map ea = List.take I.length (I.map ea) ++ List.take 1 [ea y] := by
  rw [List.take_of_length_le (by simp)]; simp

theorem cp (xs : List Int) : List.take (0 + (xs.map fun x => [AV.int .i64 x]).length) (List.take 0 ([] : List (List AV)) ++ xs.map fun x => [AV.int .i64 x]) = xs.map fun x => [AV.int .i64 x] := by
  rw [List.take_of_length_le (by simp)]; simp

theorem cpp (y : Int) (xs : List Int) : List.take (1 + (xs.map fun x => [AV.int .i64 x]).length) (List.take 1 [[AV.int .i64 y]] ++ xs.map fun x => [AV.int .i64 x]) = (y :: xs).map fun x => [AV.int .i64 x] := by
  rw [List.take_of_length_le (by simp; omega)]; rfl

theorem cpd (xs : List Int) : List.take (0 + (List.drop 1 (xs.map fun x => [AV.int .i64 x])).length) (List.take 0 ([] : List (List AV)) ++ List.drop 1 (xs.map fun x => [AV.int .i64 x])) = (xs.drop 1).map fun x => [AV.int .i64 x] := by
  rw [List.take_of_length_le (by simp)]; simp

theorem c63 (a : Auto) (x : At) (sym : Int) (hi : a.inners.length ≤ 100000) (ho : a.opens.length ≤ 100000) (hc : a.closes.length ≤ 100000) (hx : x.2.length ≤ 1000000) :
    CallsTo Try.prog 63 [autoL a, atL x, .pv (.int .i64 sym)] [] (.pv (al (step a x sym))) [] := by
  refine callsTo_of (ann := []) Try.func63 rfl (by kernel_rfl) (by kernel_rfl) mixed tab_ok (Nat.le_of_ble_eq_true rfl) rfl ?_
  conv => whnf
  refine ALoop_intro (fun n : Nat => n ≤ a.inners.length) (fun n => [(2, .pv (.int .i64 sym)), (3, .bx 3 0), (4, .bx 4 0), (7, .rw 7 ((a.inners.take n).flatMap (stI x sym)).length), (8, .pv (.int .i64 n))]) (fun n => [(3, .box (autoC a)), (4, .box [.pv (.int .i64 x.1), .pv (il x.2)]), (7, .row 2 (((a.inners.take n).flatMap (stI x sym)).map ea))]) (fun n => a.inners.length - n) 0 [] [] [] (by simp) ?_ ?_
  · repeat ((conv => whnf); refine AEq_intro (by first | with_reducible rfl | rfl | simp) ?_)
    trivial
  · intro n hn
    have hfl := flat_len (stI x sym) (stI_len x sym) (a.inners.take n)
    rw [List.length_take] at hfl
    conv => whnf
    refine ASpl_intro (fun h1 => ?_) (fun h1 => ?_)
    · simp at h1
      have hs0 := flat_succ (stI x sym) h1
      have hIl : ((a.inners.take n).flatMap (stI x sym)).length ≤ 300000 := by (try simp only [List.length_append]); omega
      have hs : (a.inners.take (n + 1)).flatMap (stI x sym) = ((a.inners.take n).flatMap (stI x sym)) ++ stI x sym a.inners[n] := by rw [hs0]
      generalize hI : (a.inners.take n).flatMap (stI x sym) = I at *
      have back : stI x sym a.inners[n] = [] → (a.inners.take (n + 1)).flatMap (stI x sym) = I := fun h => by rw [hs, h]; simp
      conv => whnf
      refine AIdx_map n rfl h1 ?_
      conv => whnf
      refine ASpl_intro (fun h2 => ?_) (fun h2 => ?_) <;> rw [h2]
      · simp at h2
        repeat ((conv => whnf); refine ASpl_t ?_)
        conv => whnf
        refine ASpl_intro (fun h3 => ?_) (fun h3 => ?_)
        · simp at h3
          have hst : stI x sym a.inners[n] = [(a.inners[n].2.2, x.2)] := by simp [stI, h2, h3]
          conv => whnf
          refine AFits_intro (by simp; omega) ?_
          conv => whnf
          refine AFits_intro (by simp; omega) ?_
          conv => whnf
          refine AChk_intro (by kernel_rfl) ?_
          conv => whnf
          have hnew := hs
          rw [hst] at hnew
          refine ABack_intro (n + 1) [(7, 46)] [] [] (by omega) (by show _ - (n + 1) < _ - n; omega) ?_
          repeat ((conv => whnf); refine AEq_intro (by first | with_reducible rfl | exact wrS n (by omega) | (rw [hnew]; done) | (rw [hnew, List.length_append]; rfl) | (rw [hnew]; exact (grow I _).trans (by rw [cp])) | (rw [hnew]; exact (grow I _).trans (by rw [cpp])) | (rw [hnew]; exact (grow I _))) ?_)
          trivial
        · simp at h3
          have hnew := back (by simp [stI, h3])
          conv => whnf
          refine ABack_intro (n + 1) [] [] [] (by omega) (by show _ - (n + 1) < _ - n; omega) ?_
          repeat ((conv => whnf); refine AEq_intro (by first | with_reducible rfl | exact wrS n (by omega) | (rw [hnew]; done) | (rw [hnew, List.length_append]; rfl) | (rw [hnew]; exact (grow I _).trans (by rw [cp])) | (rw [hnew]; exact (grow I _).trans (by rw [cpp])) | (rw [hnew]; exact (grow I _))) ?_)
          trivial
      · simp at h2
        have hnew := back (by simp [stI, h2])
        repeat ((conv => whnf); refine ASpl_f ?_)
        conv => whnf
        refine ABack_intro (n + 1) [] [] [] (by omega) (by show _ - (n + 1) < _ - n; omega) ?_
        repeat ((conv => whnf); refine AEq_intro (by first | with_reducible rfl | exact wrS n (by omega) | (rw [hnew]; done) | (rw [hnew, List.length_append]; rfl) | (rw [hnew]; exact (grow I _).trans (by rw [cp])) | (rw [hnew]; exact (grow I _).trans (by rw [cpp])) | (rw [hnew]; exact (grow I _))) ?_)
        trivial
    · simp at h1
      obtain rfl : n = a.inners.length := by omega
      rw [List.take_length] at *
      conv => whnf
      refine ALoop_intro (fun n : Nat => n ≤ a.opens.length) (fun n => [(2, .pv (.int .i64 sym)), (3, .bx 3 0), (4, .bx 4 0), (7, .rw 7 (a.inners.flatMap (stI x sym) ++ (a.opens.take n).flatMap (stO x sym)).length), (10, .pv (.int .i64 n))]) (fun n => [(3, .box (autoC a)), (4, .box [.pv (.int .i64 x.1), .pv (il x.2)]), (7, .row 2 ((a.inners.flatMap (stI x sym) ++ (a.opens.take n).flatMap (stO x sym)).map ea))]) (fun n => a.opens.length - n) 0 [] [] [] (by simp) ?_ ?_
      · repeat ((conv => whnf); refine AEq_intro (by first | with_reducible rfl | rfl | simp) ?_)
        trivial
      · intro n hn
        have hfl := flat_len (stO x sym) (stO_len x sym) (a.opens.take n)
        rw [List.length_take] at hfl
        conv => whnf
        refine ASpl_intro (fun h1 => ?_) (fun h1 => ?_)
        · simp at h1
          have hs0 := flat_succ (stO x sym) h1
          have hIl : (a.inners.flatMap (stI x sym) ++ (a.opens.take n).flatMap (stO x sym)).length ≤ 300000 := by (try simp only [List.length_append]); omega
          have hs : a.inners.flatMap (stI x sym) ++ (a.opens.take (n + 1)).flatMap (stO x sym) = (a.inners.flatMap (stI x sym) ++ (a.opens.take n).flatMap (stO x sym)) ++ stO x sym a.opens[n] := by rw [hs0]; simp only [List.append_assoc]
          generalize hI : a.inners.flatMap (stI x sym) ++ (a.opens.take n).flatMap (stO x sym) = I at *
          have back : stO x sym a.opens[n] = [] → a.inners.flatMap (stI x sym) ++ (a.opens.take (n + 1)).flatMap (stO x sym) = I := fun h => by rw [hs, h]; simp
          conv => whnf
          refine AIdx_map n rfl h1 ?_
          conv => whnf
          refine ASpl_intro (fun h2 => ?_) (fun h2 => ?_) <;> rw [h2]
          · simp at h2
            repeat ((conv => whnf); refine ASpl_t ?_)
            conv => whnf
            refine ASpl_intro (fun h3 => ?_) (fun h3 => ?_)
            · simp at h3
              have hst : stO x sym a.opens[n] = [(a.opens[n].2.2.1, a.opens[n].2.2.2 :: x.2)] := by simp [stO, h2, h3]
              conv => whnf
              refine AFits_intro (by simp; omega) ?_
              conv => whnf
              refine AFits_intro (by simp; omega) ?_
              conv => whnf
              refine AChk_intro (by kernel_rfl) ?_
              conv => whnf
              have hnew := hs
              rw [hst] at hnew
              refine ABack_intro (n + 1) [(7, 81)] [] [] (by omega) (by show _ - (n + 1) < _ - n; omega) ?_
              repeat ((conv => whnf); refine AEq_intro (by first | with_reducible rfl | exact wrS n (by omega) | (rw [hnew]; done) | (rw [hnew, List.length_append]; rfl) | (rw [hnew]; exact (grow I _).trans (by rw [cp])) | (rw [hnew]; exact (grow I _).trans (by rw [cpp])) | (rw [hnew]; exact (grow I _))) ?_)
              trivial
            · simp at h3
              have hnew := back (by simp [stO, h3])
              conv => whnf
              refine ABack_intro (n + 1) [] [] [] (by omega) (by show _ - (n + 1) < _ - n; omega) ?_
              repeat ((conv => whnf); refine AEq_intro (by first | with_reducible rfl | exact wrS n (by omega) | (rw [hnew]; done) | (rw [hnew, List.length_append]; rfl) | (rw [hnew]; exact (grow I _).trans (by rw [cp])) | (rw [hnew]; exact (grow I _).trans (by rw [cpp])) | (rw [hnew]; exact (grow I _))) ?_)
              trivial
          · simp at h2
            have hnew := back (by simp [stO, h2])
            repeat ((conv => whnf); refine ASpl_f ?_)
            conv => whnf
            refine ABack_intro (n + 1) [] [] [] (by omega) (by show _ - (n + 1) < _ - n; omega) ?_
            repeat ((conv => whnf); refine AEq_intro (by first | with_reducible rfl | exact wrS n (by omega) | (rw [hnew]; done) | (rw [hnew, List.length_append]; rfl) | (rw [hnew]; exact (grow I _).trans (by rw [cp])) | (rw [hnew]; exact (grow I _).trans (by rw [cpp])) | (rw [hnew]; exact (grow I _))) ?_)
            trivial
        · simp at h1
          obtain rfl : n = a.opens.length := by omega
          rw [List.take_length] at *
          conv => whnf
          refine ALoop_intro (fun n : Nat => n ≤ a.closes.length) (fun n => [(2, .pv (.int .i64 sym)), (3, .bx 3 0), (4, .bx 4 0), (7, .rw 7 (a.inners.flatMap (stI x sym) ++ a.opens.flatMap (stO x sym) ++ (a.closes.take n).flatMap (stC x sym)).length), (12, .pv (.int .i64 n))]) (fun n => [(3, .box (autoC a)), (4, .box [.pv (.int .i64 x.1), .pv (il x.2)]), (7, .row 2 ((a.inners.flatMap (stI x sym) ++ a.opens.flatMap (stO x sym) ++ (a.closes.take n).flatMap (stC x sym)).map ea))]) (fun n => a.closes.length - n) 0 [] [] [] (by simp) ?_ ?_
          · repeat ((conv => whnf); refine AEq_intro (by first | with_reducible rfl | rfl | simp) ?_)
            trivial
          · intro n hn
            have hfl := flat_len (stC x sym) (stC_len x sym) (a.closes.take n)
            rw [List.length_take] at hfl
            conv => whnf
            refine ASpl_intro (fun h1 => ?_) (fun h1 => ?_)
            · simp at h1
              have hs0 := flat_succ (stC x sym) h1
              have hIl : (a.inners.flatMap (stI x sym) ++ a.opens.flatMap (stO x sym) ++ (a.closes.take n).flatMap (stC x sym)).length ≤ 300000 := by (try simp only [List.length_append]); omega
              have hs : a.inners.flatMap (stI x sym) ++ a.opens.flatMap (stO x sym) ++ (a.closes.take (n + 1)).flatMap (stC x sym) = (a.inners.flatMap (stI x sym) ++ a.opens.flatMap (stO x sym) ++ (a.closes.take n).flatMap (stC x sym)) ++ stC x sym a.closes[n] := by rw [hs0]; simp only [List.append_assoc]
              generalize hI : a.inners.flatMap (stI x sym) ++ a.opens.flatMap (stO x sym) ++ (a.closes.take n).flatMap (stC x sym) = I at *
              have back : stC x sym a.closes[n] = [] → a.inners.flatMap (stI x sym) ++ a.opens.flatMap (stO x sym) ++ (a.closes.take (n + 1)).flatMap (stC x sym) = I := fun h => by rw [hs, h]; simp
              conv => whnf
              refine AIdx_map n rfl h1 ?_
              conv => whnf
              refine ASpl_intro (fun h2 => ?_) (fun h2 => ?_) <;> rw [h2]
              · simp at h2
                have hnew := back (by simp [stC, h2])
                repeat ((conv => whnf); refine ASpl_t ?_)
                conv => whnf
                refine ABack_intro (n + 1) [] [] [] (by omega) (by show _ - (n + 1) < _ - n; omega) ?_
                repeat ((conv => whnf); refine AEq_intro (by first | with_reducible rfl | exact wrS n (by omega) | (rw [hnew]; done) | (rw [hnew, List.length_append]; rfl) | (rw [hnew]; exact (grow I _).trans (by rw [cp])) | (rw [hnew]; exact (grow I _).trans (by rw [cpp])) | (rw [hnew]; exact (grow I _))) ?_)
                trivial
              · simp at h2
                repeat ((conv => whnf); refine ASpl_f ?_)
                conv => whnf
                refine ASpl_intro (fun h3 => ?_) (fun h3 => ?_)
                · simp at h3
                  have hnew := back (by simp [stC, h3])
                  conv => whnf
                  refine ABack_intro (n + 1) [] [] [] (by omega) (by show _ - (n + 1) < _ - n; omega) ?_
                  repeat ((conv => whnf); refine AEq_intro (by first | with_reducible rfl | exact wrS n (by omega) | (rw [hnew]; done) | (rw [hnew, List.length_append]; rfl) | (rw [hnew]; exact (grow I _).trans (by rw [cp])) | (rw [hnew]; exact (grow I _).trans (by rw [cpp])) | (rw [hnew]; exact (grow I _))) ?_)
                  trivial
                · simp at h3
                  conv => whnf
                  refine ASpl_intro (fun h4 => ?_) (fun h4 => ?_) <;> rw [h4]
                  · have hx0 : x.2 = [] := by simpa using h4
                    repeat ((conv => whnf); refine ASpl_t ?_)
                    conv => whnf
                    refine ASpl_intro (fun h5 => ?_) (fun h5 => ?_)
                    · simp at h5
                      have hst : stC x sym a.closes[n] = [(a.closes[n].2.2.2, [])] := by simp [stC, h2, h3, hx0, h5]
                      have hnew := hs
                      rw [hst] at hnew
                      conv => whnf
                      refine AFits_intro (by simp; omega) ?_
                      conv => whnf
                      refine ASpl_intro (fun h6 => ?_) (fun h6 => ?_) <;> rw [h6]
                      · simp [hx0] at h6
                      · repeat ((conv => whnf); refine ASpl_f ?_)
                        conv => whnf
                        refine AChk_intro (by kernel_rfl) ?_
                        repeat ((conv => whnf); refine ASpl_f ?_)
                        conv => whnf
                        refine ABack_intro (n + 1) [(7, 119)] [] [] (by omega) (by show _ - (n + 1) < _ - n; omega) ?_
                        repeat ((conv => whnf); refine AEq_intro (by first | with_reducible rfl | exact wrS n (by omega) | (rw [hnew]; done) | (rw [hnew, List.length_append]; rfl) | (rw [hnew]; exact (grow I _).trans (by rw [cp])) | (rw [hnew]; exact (grow I _).trans (by rw [cpp])) | (rw [hnew]; exact (grow I _))) ?_)
                        trivial
                    · simp at h5
                      have hnew := back (by simp [stC, h2, h3, hx0, h5])
                      conv => whnf
                      refine ASpl_intro (fun h6 => ?_) (fun h6 => ?_) <;> rw [h6]
                      · simp [hx0] at h6
                      · repeat ((conv => whnf); refine ASpl_f ?_)
                        conv => whnf
                        refine AChk_intro (by kernel_rfl) ?_
                        repeat ((conv => whnf); refine ASpl_f ?_)
                        conv => whnf
                        refine ABack_intro (n + 1) [] [] [] (by omega) (by show _ - (n + 1) < _ - n; omega) ?_
                        repeat ((conv => whnf); refine AEq_intro (by first | with_reducible rfl | exact wrS n (by omega) | (rw [hnew]; done) | (rw [hnew, List.length_append]; rfl) | (rw [hnew]; exact (grow I _).trans (by rw [cp])) | (rw [hnew]; exact (grow I _).trans (by rw [cpp])) | (rw [hnew]; exact (grow I _))) ?_)
                        trivial
                  · have hx0 : x.2 ≠ [] := by simpa using h4
                    obtain ⟨tp, ts, hx1⟩ := List.exists_cons_of_ne_nil hx0
                    have hpos : 0 < x.2.length := by rw [hx1]; simp
                    have hget : x.2[0] = tp := by simp [hx1]
                    repeat ((conv => whnf); refine ASpl_f ?_)
                    conv => whnf
                    refine ASpl_intro (fun h6 => ?_) (fun h6 => ?_) <;> rw [h6]
                    · repeat ((conv => whnf); refine ASpl_t ?_)
                      conv => whnf
                      refine AIdx_map 0 rfl hpos ?_
                      repeat ((conv => whnf); refine ASpl_t ?_)
                      conv => whnf
                      refine AChk_intro (by kernel_rfl) ?_
                      repeat ((conv => whnf); refine ASpl_t ?_)
                      conv => whnf
                      refine ASpl_intro (fun h7 => ?_) (fun h7 => ?_)
                      · simp only [hget, beq_iff_eq] at h7
                        have hst : stC x sym a.closes[n] = [(a.closes[n].2.2.2, ts)] := by simp [stC, h2, h3, hx1, h7]
                        have hnew := hs
                        rw [hst] at hnew
                        conv => whnf
                        refine ALe_intro (by decide) (by simp; omega) ?_
                        conv => whnf
                        refine AFits_intro (by simp; omega) ?_
                        conv => whnf
                        refine AFits_intro (by simp; omega) ?_
                        conv => whnf
                        refine AChk_intro (by kernel_rfl) ?_
                        conv => whnf
                        have hdr : ts = x.2.drop 1 := by rw [hx1]; rfl
                        rw [hdr] at hnew
                        refine ABack_intro (n + 1) [(7, 143)] [] [] (by omega) (by show _ - (n + 1) < _ - n; omega) ?_
                        repeat ((conv => whnf); refine AEq_intro (by first | with_reducible rfl | exact wrS n (by omega) | (rw [hnew]; done) | (rw [hnew, List.length_append]; rfl) | (rw [hnew]; exact (grow I _).trans (by rw [cp])) | (rw [hnew]; exact (grow I _).trans (by rw [cpp])) | (rw [hnew]; refine (grow I _).trans ?_; show _ = _ ++ List.take 1 [[_, AV.lst 1 (List.take (0 + (List.drop 1 _).length) (List.take 0 [] ++ List.drop 1 _))]]; rw [cpd]) | (rw [hnew]; exact (grow I _))) ?_)
                        trivial
                      · simp only [hget, beq_eq_false_iff_ne] at h7
                        have hnew := back (by simp [stC, h2, h3, hx1, h7])
                        conv => whnf
                        refine ABack_intro (n + 1) [] [] [] (by omega) (by show _ - (n + 1) < _ - n; omega) ?_
                        repeat ((conv => whnf); refine AEq_intro (by first | with_reducible rfl | exact wrS n (by omega) | (rw [hnew]; done) | (rw [hnew, List.length_append]; rfl) | (rw [hnew]; exact (grow I _).trans (by rw [cp])) | (rw [hnew]; exact (grow I _).trans (by rw [cpp])) | (rw [hnew]; exact (grow I _))) ?_)
                        trivial
                    · simp at h6
                      exact (hx0 h6).elim
            · simp at h1
              obtain rfl : n = a.closes.length := by omega
              rw [List.take_length] at *
              conv => whnf
              refine AFin_intro [(6, _)] [] [7] [] rfl ?_
              conv => whnf
              refine AEq_intro ?_ trivial
              rw [tk _ _ (by simp)]
              rfl
end Go.Proofs.Ytcpgcenlgihmnaa.Abs
/- canopyref4.Step. -/
set_option linter.unusedVariables false
set_option linter.unusedSimpArgs false
set_option maxRecDepth 100000
namespace Go.Proofs.Ytcpgcenlgihmnaa.Abs
open Go

def stepF (a : Auto) (at' : List At) (sym : Int) : List At := at'.foldl (fun acc x => (step a x sym).foldl put acc) []
theorem put_len (l : List At) (x : At) : (put l x).length ≤ l.length + 1 := by
  unfold put
  dsimp only
  split
  · omega
  · simp; omega
theorem puts_len (s acc : List At) : (s.foldl put acc).length ≤ acc.length + s.length := by
  induction s generalizing acc with
  | nil => simp
  | cons x s ih => have := ih (put acc x); have := put_len acc x; simp only [List.foldl_cons, List.length_cons]; omega
theorem put_mem {l : List At} {x y : At} (h : y ∈ put l x) : y = x ∨ y ∈ l := by
  unfold put at h
  dsimp only at h
  split at h
  · exact .inr h
  · simp only [List.append_assoc, List.mem_append, List.mem_singleton] at h
    rcases h with h | h | h
    · exact .inr (List.mem_of_mem_take h)
    · exact .inl h
    · exact .inr (List.mem_of_mem_drop h)
theorem puts_mem {s acc : List At} {y : At} (h : y ∈ s.foldl put acc) : y ∈ s ∨ y ∈ acc := by
  induction s generalizing acc with
  | nil => exact .inr h
  | cons x s ih =>
    rcases ih h with h | h
    · exact .inl (by simp [h])
    · rcases put_mem h with rfl | h
      · exact .inl (by simp)
      · exact .inr h
theorem step_len (a : Auto) (x : At) (sym : Int) : (step a x sym).length ≤ a.inners.length + a.opens.length + a.closes.length := by
  have h1 := flat_len (stI x sym) (stI_len x sym) a.inners
  have h2 := flat_len (stO x sym) (stO_len x sym) a.opens
  have h3 := flat_len (stC x sym) (stC_len x sym) a.closes
  simp only [step, List.length_append]
  omega
theorem step_stack {a : Auto} {x y : At} {sym : Int} (h : y ∈ step a x sym) : y.2.length ≤ x.2.length + 1 := by
  simp only [step, List.mem_append, List.mem_flatMap] at h
  rcases h with (⟨r, _, h⟩ | ⟨r, _, h⟩) | ⟨r, _, h⟩
  · unfold stI at h; split at h
    · simp at h; subst h; simp
    · cases h
  · unfold stO at h; split at h
    · simp at h; subst h; simp
    · cases h
  · unfold stC at h
    split at h
    · split at h
      · split at h
        · simp at h; subst h; simp
        · cases h
      · rename_i t s hs
        split at h
        · simp at h; subst h; rw [hs]; simp; omega
        · cases h
    · cases h
theorem stepF_succ {a : Auto} {at' : List At} {sym : Int} {n : Nat} (h : n < at'.length) : stepF a (at'.take (n + 1)) sym = (step a at'[n] sym).foldl put (stepF a (at'.take n) sym) := by
  unfold stepF
  rw [List.take_succ_eq_append_getElem h, List.foldl_append]
  rfl
theorem stepF_len (a : Auto) (sym : Int) (R : Nat) (hR : a.inners.length + a.opens.length + a.closes.length ≤ R) : ∀ at' : List At, (stepF a at' sym).length ≤ at'.length * R := by
  have : ∀ (l acc : List At), (l.foldl (fun acc x => (step a x sym).foldl put acc) acc).length ≤ acc.length + l.length * R := by
    intro l
    induction l with
    | nil => intro acc; simp
    | cons x l ih =>
      intro acc
      have h1 := ih ((step a x sym).foldl put acc)
      have h2 := puts_len (step a x sym) acc
      have h3 := step_len a x sym
      simp only [List.foldl_cons, List.length_cons, Nat.succ_mul]
      omega
  intro at'
  have := this at' []
  simpa [stepF] using this
theorem stepF_mem {a : Auto} {sym : Int} {y : At} : ∀ {at' : List At}, y ∈ stepF a at' sym → ∃ x ∈ at', y ∈ step a x sym := by
  have : ∀ (l acc : List At), y ∈ l.foldl (fun acc x => (step a x sym).foldl put acc) acc → y ∈ acc ∨ ∃ x ∈ l, y ∈ step a x sym := by
    intro l
    induction l with
    | nil => intro acc h; exact .inl h
    | cons x l ih =>
      intro acc h
      rcases ih _ h with h | ⟨z, hz, h⟩
      · rcases puts_mem h with h | h
        · exact .inr ⟨x, by simp, h⟩
        · exact .inl h
      · exact .inr ⟨z, by simp [hz], h⟩
  intro at' h
  rcases this at' [] h with h | h
  · cases h
  · exact h

theorem c26 (l : List Sym) (a : Auto) (at' : List At) (sym : Int) (hi : a.inners.length ≤ 30) (ho : a.opens.length ≤ 30) (hc : a.closes.length ≤ 30) (hat : at'.length ≤ 1000) (hx : ∀ x ∈ at', x.2.length ≤ 1000) :
    CallsTo Try.prog 26 [.pv (sl l), autoL a, .pv (al at'), .pv (.int .i64 sym)] [] (.pv (al (stepF a at' sym))) [] := by
  refine callsTo_of (ann := []) Try.func26 rfl (by kernel_rfl) (by kernel_rfl) mixed tab_ok (Nat.le_of_ble_eq_true rfl) rfl ?_
  conv => whnf
  refine ALoop_intro (fun n : Nat => n ≤ at'.length) (fun n => [(2, .pv (al at')), (3, .pv (.int .i64 sym)), (5, .bx 5 0), (9, .pv (al (stepF a (at'.take n) sym))), (10, .pv (.int .i64 n))]) (fun _ => [(5, .box (autoC a))]) (fun n => at'.length - n) 0 [] [9] [] (by simp) ?_ ?_
  · repeat ((conv => whnf); first | refine AEq_intro (by first | with_reducible rfl | rfl) ?_ | refine APerm_intro (by first | exact .refl _ | assumption) ?_)
    trivial
  · intro n hn
    have hlen := stepF_len a sym 90 (by omega) (at'.take n)
    rw [List.length_take] at hlen
    conv => whnf
    refine ASpl_intro (fun h1 => ?_) (fun h1 => ?_)
    · simp at h1
      have hsucc := stepF_succ (a := a) (sym := sym) h1
      have hst : ∀ y ∈ stepF a (at'.take n) sym, y.2.length ≤ 1001 := fun y hy => by
        obtain ⟨x, hxm, hy⟩ := stepF_mem hy
        have := hx x (List.mem_of_mem_take hxm)
        have := step_stack hy
        omega
      have hxn := hx at'[n] (List.getElem_mem h1)
      generalize ho' : stepF a (at'.take n) sym = o at *
      conv => whnf
      refine AIdx_map n rfl h1 ?_
      conv => whnf
      refine ACall_pv (c63 a at'[n] sym (by omega) (by omega) (by omega) (by omega)) rfl ?_
      conv => whnf
      refine AChk_intro (by kernel_rfl) ?_
      have hsl := step_len a at'[n] sym
      have hss : ∀ y ∈ step a at'[n] sym, y.2.length ≤ 1001 := fun y hy => by have := step_stack hy; omega
      generalize hs : step a at'[n] sym = s at *
      conv => whnf
      refine ALoop_intro (fun k : Nat => k ≤ s.length) (fun k => [(2, .pv (al at')), (3, .pv (.int .i64 sym)), (5, .bx 5 0), (9, .pv (al ((s.take k).foldl put o))), (10, .pv (.int .i64 n)), (11, .pv (al s)), (12, .pv (.int .i64 k))]) (fun _ => [(5, .box (autoC a))]) (fun k => s.length - k) 0 [] [] [] (by simp) ?_ ?_
      · repeat ((conv => whnf); first | refine AEq_intro (by first | with_reducible rfl | rfl) ?_ | refine APerm_intro (by first | exact .refl _ | assumption) ?_)
        trivial
      · intro k hk
        have hl2 := puts_len (s.take k) o
        rw [List.length_take] at hl2
        conv => whnf
        refine ASpl_intro (fun h2 => ?_) (fun h2 => ?_)
        · simp at h2
          conv => whnf
          refine AIdx_map k rfl h2 ?_
          have hy2 : ∀ y ∈ (s.take k).foldl put o, y.2.length ≤ 1000000 := fun y hy => by
            rcases puts_mem hy with h | h
            · have := hss y (List.mem_of_mem_take h); omega
            · have := hst y h; omega
          conv => whnf
          refine ACall_pv (c64 ((s.take k).foldl put o) s[k] (by omega) hy2 (by have := hss s[k] (List.getElem_mem h2); omega)) rfl ?_
          conv => whnf
          refine ABack_intro (k + 1) [] [] [] ?_ ?_ ?_
          · omega
          · show _ - (k + 1) < _ - k; omega
          · repeat ((conv => whnf); first | refine AEq_intro (by first | with_reducible rfl | ((rw [List.take_succ_eq_append_getElem h2, List.foldl_append]; rfl); done) | (exact wrS k (by omega); done) | rfl) ?_ | refine APerm_intro (by first | exact .refl _ | assumption | ((rw [List.take_succ_eq_append_getElem h2, List.foldl_append]; rfl); done) | (exact wrS k (by omega); done)) ?_)
            trivial
        · simp at h2
          obtain rfl : k = s.length := by omega
          conv => whnf
          refine ABack_intro (n + 1) [] [] [] ?_ ?_ ?_
          · omega
          · show _ - (n + 1) < _ - n; omega
          · repeat ((conv => whnf); first | refine AEq_intro (by first | with_reducible rfl | ((rw [hsucc, List.take_length]); done) | (exact wrS n (by omega); done) | rfl) ?_ | refine APerm_intro (by first | exact .refl _ | assumption | ((rw [hsucc, List.take_length]); done) | (exact wrS n (by omega); done)) ?_)
            trivial
    · simp at h1
      conv => whnf
      refine AFin_intro [(8, _)] [] [] [] rfl ?_
      conv => whnf
      refine AEq_intro ?_ trivial
      rw [List.take_of_length_le (by omega)]
end Go.Proofs.Ytcpgcenlgihmnaa.Abs
/- Calls that hand rows on; cmp, slices: Compare, Or, Index, Contains, Clone; runs.order. -/
set_option linter.unusedVariables false
set_option linter.unusedSimpArgs false
set_option maxRecDepth 100000
namespace Go.Proofs.Ytcpgcenlgihmnaa.Abs
open Go

/-! A call that takes resources. -/
def kinB (ph : HS) : LV → Bool
  | .pv _ | .nl | .un | .sk => true
  | .bx k _ | .rw k _ | .rv k _ _ | .er k _ _ | .mr k | .it k => inL k (keysOf ph)
  | .ag cs | .fn _ cs => pvs cs
  | .tu _ => false
  | .ep _ _ => true
def kinsB (ph : HS) : List LV → Bool
  | [] => true
  | l :: ls => kinB ph l && kinsB ph ls
def boxesB (ph : HS) : HS → Bool
  | [] => true
  | (_, .box cs) :: l => kinsB ph cs && boxesB ph l
  | _ :: l => boxesB ph l
def SubH : HS → HS → Prop
  | [], _ => True
  | (k, r) :: l, h => lkO h k = some r ∧ SubH l h
def LikeH : HS → HS → Prop
  | [], _ => True
  | (k, r) :: l, ps => (∃ y, lkO ps k = some y ∧ Like r y) ∧ LikeH l ps
def freshB (ph h : HS) : HS → Bool
  | [] => true
  | (k, _) :: l => (inL k (keysOf ph) || !(inL k (keysOf h))) && freshB ph h l
theorem kinB_sound {ph : HS} {l : LV} (h : kinB ph l = true) : kin (lkO ph) l := by
  cases l <;> first | trivial | exact mem_keysOf.1 (inL_iff.1 h) | exact h | cases h
theorem kinsB_sound {ph : HS} : ∀ {ls : List LV}, kinsB ph ls = true → ∀ l ∈ ls, kin (lkO ph) l
  | [], _, l, h => by cases h
  | x :: ls, hb, l, h => by
    simp only [kinsB, Bool.and_eq_true] at hb
    rcases List.mem_cons.1 h with rfl | h
    · exact kinB_sound hb.1
    · exact kinsB_sound hb.2 l h
theorem boxesB_sound {ph : HS} : ∀ {q : HS}, boxesB ph q = true → ∀ k cs, lkO q k = some (.box cs) → ∀ c ∈ cs, kin (lkO ph) c
  | [], _, k, cs, h => by simp [lkO] at h
  | (j, r) :: q, hb, k, cs, h => by
    have hq : boxesB ph q = true := by cases r <;> simp only [boxesB, Bool.and_eq_true] at hb <;> first | exact hb.2 | exact hb
    simp only [lkO] at h
    split at h
    · cases h
      simp only [boxesB, Bool.and_eq_true] at hb
      exact kinsB_sound hb.1
    · exact boxesB_sound hq k cs h
theorem SubH_sound : ∀ {ph h : HS}, SubH ph h → ∀ k x, lkO ph k = some x → lkO h k = some x
  | [], h, _, k, x, hx => by simp [lkO] at hx
  | (j, r) :: ph, h, hs, k, x, hx => by
    simp only [lkO] at hx
    split at hx
    · rename_i hb; cases hx; rw [← beq_t hb]; exact hs.1
    · exact SubH_sound hs.2 k x hx
theorem LikeH_sound : ∀ {ph ps : HS}, LikeH ph ps → ∀ k x, lkO ph k = some x → ∃ y, lkO ps k = some y ∧ Like x y
  | [], ps, _, k, x, hx => by simp [lkO] at hx
  | (j, r) :: ph, ps, hs, k, x, hx => by
    simp only [lkO] at hx
    split at hx
    · rename_i hb; cases hx; rw [← beq_t hb]; exact hs.1
    · exact LikeH_sound hs.2 k x hx
theorem freshB_sound {ph h : HS} : ∀ {ps : HS}, freshB ph h ps = true → ∀ k y, lkO ps k = some y → lkO ph k = none → lkO h k = none
  | [], _, k, y, hy, _ => by simp [lkO] at hy
  | (j, r) :: ps, hb, k, y, hy, hn => by
    simp only [freshB, Bool.and_eq_true, Bool.or_eq_true, Bool.not_eq_true'] at hb
    simp only [lkO] at hy
    split at hy
    · rename_i hbq
      obtain rfl := beq_t hbq
      rcases hb.1 with h1 | h1
      · obtain ⟨r', hr'⟩ := mem_keysOf.1 (inL_iff.1 h1)
        rw [hn] at hr'; cases hr'
      · cases h2 : lkO h j with
        | none => rfl
        | some z => exact (inL_f h1 (mem_keysOf.2 ⟨z, h2⟩)).elim
    · exact freshB_sound hb.2 k y hy hn
theorem ACall_own {P : Program} {g : Nat} {lvs : List LV} {h : HS} {K : LV → HS → List Nat → Prop} {ph ps : HS} {r : LV} (hc : CallsTo P g lvs ph r ps) (hl : kinsB ph lvs = true) (hb : boxesB ph ph = true) (hs : SubH ph h) (hlk : LikeH ph ps) (hf : freshB ph h ps = true) (hn : nodupB (keysOf ps) = true)
    (hk : K r ps (ph.map (·.1) ++ ps.map (·.1))) : ACall P g lvs h K := by
  unfold ACall
  exact ⟨ph, r, ps, hc, kinsB_sound hl, boxesB_sound hb, SubH_sound hs, LikeH_sound hlk, freshB_sound hf, by rw [← keysOf_eq]; exact nodupB_sound hn, hk⟩

/-! cmp, slices. -/
theorem c157 (x : Int) : CallsTo Try.prog 157 [.pv (.int .i64 x)] [] (.pv (.bool false)) [] := by
  refine callsTo_of (ann := []) Try.func157 rfl (by kernel_rfl) (by kernel_rfl) mixed tab_ok (Nat.le_of_ble_eq_true rfl) rfl ?_
  conv => whnf
  refine AFin_intro [(2, _)] [] [] [] rfl ?_
  conv => whnf
  refine AEq_intro ?_ trivial
  simp
def cmpI (x y : Int) : Int := if x < y then -1 else if x > y then 1 else 0
theorem c127 (x y : Int) : CallsTo Try.prog 127 [.pv (.int .i64 x), .pv (.int .i64 y)] [] (.pv (.int .i64 (cmpI x y))) [] := by
  refine callsTo_of (ann := []) Try.func127 rfl (by kernel_rfl) (by kernel_rfl) mixed tab_ok (Nat.le_of_ble_eq_true rfl) rfl ?_
  conv => whnf
  refine ACall_pv (c157 x) rfl ?_
  conv => whnf
  refine ACall_pv (c157 y) rfl ?_
  repeat ((conv => whnf); refine ASpl_f ?_)
  conv => whnf
  refine ASpl_intro (fun h1 => ?_) (fun h1 => ?_)
  · simp at h1
    conv => whnf
    refine AFin_intro [(4, _)] [] [] [] rfl ?_
    conv => whnf
    refine AEq_intro ?_ trivial
    simp [cmpI, h1]
  · simp at h1
    conv => whnf
    refine ASpl_intro (fun h2 => ?_) (fun h2 => ?_)
    · simp at h2
      conv => whnf
      refine AFin_intro [(4, _)] [] [] [] rfl ?_
      conv => whnf
      refine AEq_intro ?_ trivial
      simp [cmpI, h2]; omega
    · simp at h2
      conv => whnf
      refine AFin_intro [(4, _)] [] [] [] rfl ?_
      conv => whnf
      refine AEq_intro ?_ trivial
      have : x = y := by omega
      simp [cmpI, this]
def cmpL : List Int → List Int → Int
  | [], [] => 0
  | [], _ :: _ => -1
  | _ :: _, [] => 1
  | x :: xs, y :: ys => if cmpI x y ≠ 0 then cmpI x y else cmpL xs ys
theorem c114 (xs ys : List Int) (hx : xs.length ≤ 1000000) : CallsTo Try.prog 114 [.pv (il xs), .pv (il ys)] [] (.pv (.int .i64 (cmpL xs ys))) [] := by
  refine callsTo_of (ann := []) Try.func114 rfl (by kernel_rfl) (by kernel_rfl) mixed tab_ok (Nat.le_of_ble_eq_true rfl) rfl ?_
  conv => whnf
  refine ALoop_intro (fun n : Nat => n ≤ xs.length ∧ n ≤ ys.length ∧ cmpL xs ys = cmpL (xs.drop n) (ys.drop n)) (fun n => [(0, .pv (il xs)), (1, .pv (il ys)), (9, .pv (il xs)), (10, .pv (.int .i64 xs.length)), (11, .pv (.int .i64 n))]) (fun _ => []) (fun n => xs.length - n) 0 [] [] [] (by simp) ?_ ?_
  · repeat ((conv => whnf); first | refine AEq_intro (by first | with_reducible rfl | (simp; done) | rfl) ?_ | refine APerm_intro (by first | exact .refl _ | assumption | (simp; done)) ?_)
    trivial
  · rintro n ⟨hn, hn2, he⟩
    conv => whnf
    refine ASpl_intro (fun h1 => ?_) (fun h1 => ?_)
    · simp at h1
      have hd : xs.drop n = xs[n] :: xs.drop (n + 1) := List.drop_eq_getElem_cons h1
      conv => whnf
      refine AIdx_map n rfl h1 ?_
      conv => whnf
      refine ASpl_intro (fun h2 => ?_) (fun h2 => ?_)
      · simp at h2
        conv => whnf
        refine AFin_intro [(4, _)] [] [] [] rfl ?_
        conv => whnf
        refine AEq_intro ?_ trivial
        rw [he, hd, show ys.drop n = [] from List.drop_eq_nil_of_le (by omega)]
        rfl
      · simp at h2
        have hd2 : ys.drop n = ys[n] :: ys.drop (n + 1) := List.drop_eq_getElem_cons h2
        conv => whnf
        refine AIdx_map n rfl h2 ?_
        conv => whnf
        refine ACall_pv (c127 xs[n] ys[n]) rfl ?_
        conv => whnf
        refine ASpl_intro (fun h3 => ?_) (fun h3 => ?_)
        · simp at h3
          conv => whnf
          refine AFin_intro [(4, _)] [] [] [] rfl ?_
          conv => whnf
          refine AEq_intro ?_ trivial
          rw [he, hd, hd2, cmpL, if_pos h3]
        · simp at h3
          conv => whnf
          refine ABack_intro (n + 1) [] [] [] ?_ ?_ ?_
          · exact ⟨by omega, by omega, by rw [he, hd, hd2, cmpL, if_neg (by simp [h3])]⟩
          · show _ - (n + 1) < _ - n; omega
          · repeat ((conv => whnf); first | refine AEq_intro (by first | with_reducible rfl | (exact wrS n (by omega); done) | rfl) ?_ | refine APerm_intro (by first | exact .refl _ | assumption | (exact wrS n (by omega); done)) ?_)
            trivial
    · simp at h1
      have hxe : xs.drop n = [] := List.drop_eq_nil_of_le (by omega)
      conv => whnf
      refine ASpl_intro (fun h2 => ?_) (fun h2 => ?_)
      · simp at h2
        conv => whnf
        refine AFin_intro [(4, _)] [] [] [] rfl ?_
        conv => whnf
        refine AEq_intro ?_ trivial
        rw [he, hxe, List.drop_eq_getElem_cons (by omega : n < ys.length)]
        rfl
      · simp at h2
        conv => whnf
        refine AFin_intro [(4, _)] [] [] [] rfl ?_
        conv => whnf
        refine AEq_intro ?_ trivial
        rw [he, hxe, List.drop_eq_nil_of_le (by omega)]
        rfl
def orL : List Int → Int
  | [] => 0
  | x :: xs => if x ≠ 0 then x else orL xs
theorem c126 (xs : List Int) (hx : xs.length ≤ 1000000) : CallsTo Try.prog 126 [.rw 10000 xs.length] [(10000, .row 1 (xs.map ei))] (.pv (.int .i64 (orL xs))) [(10000, .row 1 (xs.map ei))] := by
  refine callsTo_of (ann := []) Try.func126 rfl (by kernel_rfl) (by kernel_rfl) mixed tab_ok (Nat.le_of_ble_eq_true rfl) rfl ?_
  conv => whnf
  refine ALoop_intro (fun n : Nat => n ≤ xs.length ∧ orL xs = orL (xs.drop n)) (fun n => [(3, .pv (.int .i64 0)), (6, .rw 10000 xs.length), (7, .pv (.int .i64 xs.length)), (8, .pv (.int .i64 n))]) (fun _ => [(10000, .row 1 (xs.map ei))]) (fun n => xs.length - n) 0 [] [] [] (by simp) ?_ ?_
  · repeat ((conv => whnf); first | refine AEq_intro (by first | with_reducible rfl | (simp; done) | rfl) ?_ | refine APerm_intro (by first | exact .refl _ | assumption | (simp; done)) ?_)
    trivial
  · rintro n ⟨hn, he⟩
    conv => whnf
    refine ASpl_intro (fun h1 => ?_) (fun h1 => ?_)
    · simp at h1
      have hd : xs.drop n = xs[n] :: xs.drop (n + 1) := List.drop_eq_getElem_cons h1
      conv => whnf
      refine ARow_intro (by omega) (by omega) ?_
      conv => whnf
      refine AGet_intro (ei xs[n]) (by simp [h1]) ?_
      conv => whnf
      refine ASpl_intro (fun h2 => ?_) (fun h2 => ?_)
      · simp at h2
        conv => whnf
        refine AFin_intro [(2, _)] [] [] [] rfl ?_
        repeat ((conv => whnf); first | refine AEq_intro (by first | with_reducible rfl | ((rw [he, hd, orL, if_pos h2]); done) | rfl) ?_ | refine APerm_intro (by first | exact .refl _ | assumption | ((rw [he, hd, orL, if_pos h2]); done)) ?_)
        trivial
      · simp at h2
        conv => whnf
        refine ABack_intro (n + 1) [] [] [] ?_ ?_ ?_
        · exact ⟨by omega, by rw [he, hd, orL, if_neg (by simp [h2])]⟩
        · show _ - (n + 1) < _ - n; omega
        · repeat ((conv => whnf); first | refine AEq_intro (by first | with_reducible rfl | (exact wrS n (by omega); done) | rfl) ?_ | refine APerm_intro (by first | exact .refl _ | assumption | (exact wrS n (by omega); done)) ?_)
          trivial
    · simp at h1
      conv => whnf
      refine AFin_intro [(2, _)] [] [] [] rfl ?_
      repeat ((conv => whnf); first | refine AEq_intro (by first | with_reducible rfl | ((rw [he, List.drop_eq_nil_of_le (by omega)]; rfl); done) | rfl) ?_ | refine APerm_intro (by first | exact .refl _ | assumption | ((rw [he, List.drop_eq_nil_of_le (by omega)]; rfl); done)) ?_)
      trivial
def idxR (xs : List Int) (x : Int) (n : Nat) : Int := match xs with
  | [] => -1
  | y :: ys => if x = y then n else idxR ys x (n + 1)
theorem idxR_lt (x : Int) : ∀ (xs : List Int) (n : Nat), (0 ≤ idxR xs x n) ↔ x ∈ xs
  | [], n => by simp [idxR]
  | y :: ys, n => by
    simp only [idxR]
    split
    · rename_i h; simp [h]
    · rename_i h; rw [idxR_lt x ys (n + 1)]; simp [h]
theorem c102 (xs : List Int) (x : Int) (hx : xs.length ≤ 1000000) : CallsTo Try.prog 102 [.pv (il xs), .pv (.int .i64 x)] [] (.pv (.int .i64 (idxR xs x 0))) [] := by
  refine callsTo_of (ann := []) Try.func102 rfl (by kernel_rfl) (by kernel_rfl) mixed tab_ok (Nat.le_of_ble_eq_true rfl) rfl ?_
  conv => whnf
  refine ALoop_intro (fun n : Nat => n ≤ xs.length ∧ idxR xs x 0 = idxR (xs.drop n) x n) (fun n => [(0, .pv (il xs)), (1, .pv (.int .i64 x)), (7, .pv (.int .i64 xs.length)), (8, .pv (.int .i64 n))]) (fun _ => []) (fun n => xs.length - n) 0 [] [] [] (by simp) ?_ ?_
  · repeat ((conv => whnf); first | refine AEq_intro (by first | with_reducible rfl | (simp; done) | rfl) ?_ | refine APerm_intro (by first | exact .refl _ | assumption | (simp; done)) ?_)
    trivial
  · rintro n ⟨hn, he⟩
    conv => whnf
    refine ASpl_intro (fun h1 => ?_) (fun h1 => ?_)
    · simp at h1
      have hd : xs.drop n = xs[n] :: xs.drop (n + 1) := List.drop_eq_getElem_cons h1
      conv => whnf
      refine AIdx_map n rfl h1 ?_
      conv => whnf
      refine ASpl_intro (fun h2 => ?_) (fun h2 => ?_)
      · simp at h2
        conv => whnf
        refine AFin_intro [(4, _)] [] [] [] rfl ?_
        conv => whnf
        refine AEq_intro ?_ trivial
        rw [he, hd, idxR, if_pos h2]
      · simp at h2
        conv => whnf
        refine ABack_intro (n + 1) [] [] [] ?_ ?_ ?_
        · exact ⟨by omega, by rw [he, hd, idxR, if_neg h2]⟩
        · show _ - (n + 1) < _ - n; omega
        · repeat ((conv => whnf); first | refine AEq_intro (by first | with_reducible rfl | (exact wrS n (by omega); done) | rfl) ?_ | refine APerm_intro (by first | exact .refl _ | assumption | (exact wrS n (by omega); done)) ?_)
          trivial
    · simp at h1
      conv => whnf
      refine AFin_intro [(4, _)] [] [] [] rfl ?_
      conv => whnf
      refine AEq_intro ?_ trivial
      rw [he, List.drop_eq_nil_of_le (by omega)]
      rfl
theorem c66 (xs : List Int) (x : Int) (hx : xs.length ≤ 1000000) : CallsTo Try.prog 66 [.pv (il xs), .pv (.int .i64 x)] [] (.pv (.bool (decide (x ∈ xs)))) [] := by
  refine callsTo_of (ann := []) Try.func66 rfl (by kernel_rfl) (by kernel_rfl) mixed tab_ok (Nat.le_of_ble_eq_true rfl) rfl ?_
  conv => whnf
  refine ACall_pv (c102 xs x hx) rfl ?_
  conv => whnf
  refine AFin_intro [(4, _)] [] [] [] rfl ?_
  conv => whnf
  refine AEq_intro ?_ trivial
  congr 1
  rw [decide_eq_decide]
  exact idxR_lt x xs 0
def ordA (x y : At) : Int := if cmpI x.1 y.1 ≠ 0 then cmpI x.1 y.1 else cmpL x.2 y.2
theorem c95 (x y : At) (hx : x.2.length ≤ 1000000) : CallsTo Try.prog 95 [atL x, atL y] [] (.pv (.int .i64 (ordA x y))) [] := by
  refine callsTo_of (ann := []) Try.func95 rfl (by kernel_rfl) (by kernel_rfl) mixed tab_ok (Nat.le_of_ble_eq_true rfl) rfl ?_
  conv => whnf
  refine ACall_pv (c127 x.1 y.1) rfl ?_
  conv => whnf
  refine ACall_pv (c114 x.2 y.2 hx) rfl ?_
  conv => whnf
  refine ACall_own ((c126 [cmpI x.1 y.1, cmpL x.2 y.2] (by simp)).swap 10000 15) (by rfl) (by rfl) ⟨rfl, trivial⟩ ⟨⟨_, rfl, ⟨rfl, Nat.le_refl _⟩⟩, trivial⟩ (by rfl) (by rfl) ?_
  conv => whnf
  refine AChk_intro (by kernel_rfl) ?_
  conv => whnf
  refine AFin_intro [(4, _)] [] [] [] rfl ?_
  conv => whnf
  refine AEq_intro ?_ trivial
  simp only [orL, ordA]
  split
  · rfl
  · split
    · rfl
    · rename_i h; simp at h; rw [h]
theorem c97 (x y : At) (hx : x.2.length ≤ 1000000) : CallsTo Try.prog 97 [atL x, atL y] [] (.pv (.bool (ordA x y == 0))) [] := by
  refine callsTo_of (ann := []) Try.func97 rfl (by kernel_rfl) (by kernel_rfl) mixed tab_ok (Nat.le_of_ble_eq_true rfl) rfl ?_
  conv => whnf
  refine ACall_pv (c95 x y hx) rfl ?_
  conv => whnf
  refine AFin_intro [(4, _)] [] [] [] rfl ?_
  conv => whnf
  refine AEq_intro ?_ trivial
  rfl
theorem c98 (l : List At) (hl : l.length ≤ 1000000) : CallsTo Try.prog 98 [.pv (al l)] [] (.pv (al l)) [] := by
  refine callsTo_of (ann := []) Try.func98 rfl (by kernel_rfl) (by kernel_rfl) mixed tab_ok (Nat.le_of_ble_eq_true rfl) rfl ?_
  conv => whnf
  refine ANil_intro (fun h0 => ?_) ?_
  · repeat ((conv => whnf); refine ASpl_t ?_)
    conv => whnf
    refine AFin_intro [(2, _)] [] [] [] rfl ?_
    repeat ((conv => whnf); first | refine AEq_intro (by first | with_reducible rfl | ((simp at h0; simp [h0]); done) | rfl) ?_ | refine APerm_intro (by first | exact .refl _ | assumption | ((simp at h0; simp [h0]); done)) ?_)
    trivial
  · repeat ((conv => whnf); refine ASpl_f ?_)
    conv => whnf
    refine AFits_intro (by simp <;> omega) ?_
    conv => whnf
    refine AFin_intro [(2, _)] [] [7] [] rfl ?_
    conv => whnf
    refine AEq_intro ?_ trivial
    simp [List.take_of_length_le]
theorem c99 (l : List Int) (hl : l.length ≤ 1000000) : CallsTo Try.prog 99 [.pv (il l)] [] (.pv (il l)) [] := by
  refine callsTo_of (ann := []) Try.func99 rfl (by kernel_rfl) (by kernel_rfl) mixed tab_ok (Nat.le_of_ble_eq_true rfl) rfl ?_
  conv => whnf
  refine ANil_intro (fun h0 => ?_) ?_
  · repeat ((conv => whnf); refine ASpl_t ?_)
    conv => whnf
    refine AFin_intro [(2, _)] [] [] [] rfl ?_
    repeat ((conv => whnf); first | refine AEq_intro (by first | with_reducible rfl | ((simp at h0; simp [h0]); done) | rfl) ?_ | refine APerm_intro (by first | exact .refl _ | assumption | ((simp at h0; simp [h0]); done)) ?_)
    trivial
  · repeat ((conv => whnf); refine ASpl_f ?_)
    conv => whnf
    refine AFits_intro (by simp <;> omega) ?_
    conv => whnf
    refine AFin_intro [(2, _)] [] [7] [] rfl ?_
    conv => whnf
    refine AEq_intro ?_ trivial
    simp [List.take_of_length_le]
end Go.Proofs.Ytcpgcenlgihmnaa.Abs
