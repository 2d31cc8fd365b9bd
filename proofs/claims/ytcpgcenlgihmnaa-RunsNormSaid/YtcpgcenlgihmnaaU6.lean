/- A logic of abstract states for the program and what its functions come to: texts G14, G15, G16, M1, G17, G18, G19. -/
import Derived.Test.YtcpgcenlgihmnaaU5
import Derived.Shelf.SlSortCmp.WholeK
/- slices.Grow, slices.Concat; runs.stepper's methods. -/
set_option linter.unusedVariables false
set_option linter.unusedSimpArgs false
set_option maxRecDepth 100000
namespace Go.Proofs.Ytcpgcenlgihmnaa.Abs
open Go

theorem wr00 : IntKind.i64.wrap (0 - 0) = 0 := wr (by omega) (by omega)
theorem wrN (n : Nat) (h : n ≤ 9000000000000000000) : IntKind.i64.wrap (n : Int) = n := wr (by omega) (by omega)
theorem c128 (n : Nat) (hn : n ≤ 1000000) : CallsTo Try.prog 128 [.nl, .pv (.int .i64 n)] [] (.rw 20001 0) [(20001, .row 1 (List.replicate n (ei 0)))] := by
  refine callsTo_of (ann := []) Try.func128 rfl (by kernel_rfl) (by kernel_rfl) mixed tab_ok (Nat.le_of_ble_eq_true rfl) rfl ?_
  repeat ((conv => whnf); refine ASpl_f ?_)
  have e1 : IntKind.i64.wrap ((n : Int) - IntKind.i64.wrap (0 - 0)) = n := by rw [wr00, Int.sub_zero]; exact wrN n (by omega)
  conv => whnf
  refine ASpl_intro (fun h1 => ?_) (fun h1 => ?_) <;> rw [h1]
  · rw [e1] at h1
    simp at h1
    conv => whnf
    refine ALe_intro (by rw [e1]; omega) (by rw [e1]; omega) ?_
    conv => whnf
    refine AFits_intro (by rw [e1]; simp only [Int.toNat_natCast]; omega) ?_
    conv => whnf
    refine ALe_intro (Int.le_refl _) (Int.natCast_nonneg _) ?_
    conv => whnf
    refine AFin_intro [(4, _)] [(20001, 22)] [] [] rfl ?_
    repeat ((conv => whnf); first | refine AEq_intro (by first | with_reducible rfl | ((rw [e1]; simp); done) | rfl) ?_ | refine APerm_intro (by first | exact .refl _ | assumption | ((rw [e1]; simp); done)) ?_)
    trivial
  · rw [e1] at h1
    simp at h1
    obtain rfl : n = 0 := by omega
    conv => whnf
    refine AFin_intro [(4, _)] [] [] [20001] rfl ?_
    repeat ((conv => whnf); first | refine AEq_intro (by first | with_reducible rfl | rfl) ?_ | refine APerm_intro (by first | exact .refl _ | assumption) ?_)
    trivial
abbrev ill (xss : List (List Int)) : AV := .lst 1 (xss.map fun xs => [il xs])
theorem flat_take {xss : List (List Int)} {n : Nat} (h : n < xss.length) : (xss.take (n + 1)).flatten = (xss.take n).flatten ++ xss[n] := by
  rw [List.take_succ_eq_append_getElem h, List.flatten_append]; simp
theorem flat_take_le (xss : List (List Int)) (n : Nat) : (xss.take n).flatten.length ≤ xss.flatten.length := by
  have := congrArg (fun l => l.flatten.length) (List.take_append_drop n xss)
  simp only [List.flatten_append, List.length_append] at this
  omega
def ccR (size : Nat) (ys : List Int) : Nat → List (List AV)
  | 0 => List.replicate size (ei 0)
  | _ + 1 => ys.map ei
theorem c100 (xss : List (List Int)) (hl : xss.length ≤ 1000) (hs : xss.flatten.length ≤ 1000000) : CallsTo Try.prog 100 [.pv (ill xss)] [] (.pv (il xss.flatten)) [] := by
  refine callsTo_of (ann := []) Try.func100 rfl (by kernel_rfl) (by kernel_rfl) mixed tab_ok (Nat.le_of_ble_eq_true rfl) rfl ?_
  conv => whnf
  refine ALoop_intro (fun n : Nat => n ≤ xss.length) (fun n => [(0, .pv (ill xss)), (3, .pv (.int .i64 (xss.take n).flatten.length)), (9, .pv (ill xss)), (10, .pv (.int .i64 xss.length)), (11, .pv (.int .i64 n))]) (fun _ => []) (fun n => xss.length - n) 0 [] [] [] (by simp) ?_ ?_
  · repeat ((conv => whnf); first | refine AEq_intro (by first | with_reducible rfl | (simp; done) | rfl) ?_ | refine APerm_intro (by first | exact .refl _ | assumption | (simp; done)) ?_)
    trivial
  · intro n hn
    conv => whnf
    refine ASpl_intro (fun h1 => ?_) (fun h1 => ?_)
    · simp at h1
      have hft := flat_take h1
      have hle := flat_take_le xss (n + 1)
      rw [hft, List.length_append] at hle
      conv => whnf
      refine AIdx_map n rfl h1 ?_
      conv => whnf
      refine ASpl_intro (fun h2 => ?_) (fun h2 => ?_)
      · exfalso
        simp only [List.length_map, decide_eq_true_eq] at h2
        rw [wr (by omega) (by omega)] at h2
        omega
      · conv => whnf
        refine ABack_intro (n + 1) [] [] [] ?_ ?_ ?_
        · omega
        · show _ - (n + 1) < _ - n; omega
        · repeat ((conv => whnf); first | refine AEq_intro (by first | with_reducible rfl | ((simp only [List.length_map]; rw [wr (by omega) (by omega), hft, List.length_append]; simp); done) | (exact wrS n (by omega); done) | rfl) ?_ | refine APerm_intro (by first | exact .refl _ | assumption | ((simp only [List.length_map]; rw [wr (by omega) (by omega), hft, List.length_append]; simp); done) | (exact wrS n (by omega); done)) ?_)
          trivial
    · simp at h1
      obtain rfl : n = xss.length := by omega
      rw [List.take_length]
      conv => whnf
      refine ACall_own (c128 xss.flatten.length hs) (by rfl) (by rfl) trivial trivial (by rfl) (by rfl) ?_
      conv => whnf
      refine ALoop_intro (fun n : Nat => n ≤ xss.length) (fun n => [(6, .rw 20001 (xss.take n).flatten.length), (25, .pv (ill xss)), (26, .pv (.int .i64 xss.length)), (27, .pv (.int .i64 n))]) (fun n => [(20001, .row 1 (ccR xss.flatten.length (xss.take n).flatten n))]) (fun n => xss.length - n) 0 [] [] [] (by simp) ?_ ?_
      · repeat ((conv => whnf); first | refine AEq_intro (by first | with_reducible rfl | ((simp [ccR]; done); done) | rfl) ?_ | refine APerm_intro (by first | exact .refl _ | assumption | ((simp [ccR]; done); done)) ?_)
        trivial
      · intro n hn
        have htk : (ccR xss.flatten.length (xss.take n).flatten n).take (xss.take n).flatten.length = (xss.take n).flatten.map ei := by
          cases n with
          | zero => simp
          | succ n => simp only [ccR]; rw [List.take_of_length_le (by rw [List.length_map]; exact Nat.le_refl _)]
        conv => whnf
        refine ASpl_intro (fun h1 => ?_) (fun h1 => ?_)
        · simp at h1
          have hft := flat_take h1
          have hle := flat_take_le xss (n + 1)
          rw [hft, List.length_append] at hle
          conv => whnf
          refine AIdx_map n rfl h1 ?_
          conv => whnf
          refine AFits_intro (by simp only [List.length_map]; omega) ?_
          conv => whnf
          refine ABack_intro (n + 1) [(20001, 33)] [] [] ?_ ?_ ?_
          · omega
          · show _ - (n + 1) < _ - n; omega
          · repeat ((conv => whnf); first | refine AEq_intro (by first | with_reducible rfl | ((rw [htk, hft]; simp [ccR]); done) | ((rw [hft]; simp); done) | (exact wrS n (by omega); done) | rfl) ?_ | refine APerm_intro (by first | exact .refl _ | assumption | ((rw [htk, hft]; simp [ccR]); done) | ((rw [hft]; simp); done) | (exact wrS n (by omega); done)) ?_)
            trivial
        · simp at h1
          obtain rfl : n = xss.length := by omega
          conv => whnf
          refine AFin_intro [(2, _)] [] [20001] [] rfl ?_
          conv => whnf
          refine AEq_intro ?_ trivial
          rw [htk, List.take_length]
/-! The stepper. -/
abbrev stB (a : Auto) (sym : Int) (k m : Nat) : List LV := autoC a ++ [.pv (.int .i64 sym), .rw k m]
abbrev stIn (a : Auto) (sym : Int) (out : List At) : HS := [(10000, .box (stB a sym 10001 out.length)), (10001, .row 2 (out.map ea))]
abbrev stOut (a : Auto) (sym : Int) (out : List At) : HS := [(10000, .box (stB a sym 20002 out.length)), (10001, .dead), (20002, .row 2 (out.map ea))]
theorem ea_len (x : At) : (ea x).length = 2 := rfl
theorem grow1 (I : List At) (y : At) : List.take I.length (I.map ea) ++ List.take 1 [ea y] = (I ++ [y]).map ea := (grow I y).symm
theorem c60 (a : Auto) (x : At) (sym : Int) (out : List At) (hi : a.inners.length ≤ 30) (ho : out.length ≤ 1000000) (hx : x.2.length ≤ 1000000) :
    CallsTo Try.prog 60 [.bx 10000 0, atL x] (stIn a sym out) (.tu []) (stOut a sym (out ++ a.inners.flatMap (stI x sym))) := by
  refine callsTo_of (ann := []) Try.func60 rfl (by kernel_rfl) (by kernel_rfl) mixed tab_ok (Nat.le_of_ble_eq_true rfl) rfl ?_
  conv => whnf
  refine ALoop_intro (fun n : Nat => n ≤ a.inners.length) (fun n => [(0, .bx 10000 0), (3, .bx 3 0), (10, .pv (l3 a.inners)), (11, .pv (.int .i64 a.inners.length)), (12, .pv (.int .i64 n))]) (fun n => [(10000, .box (stB a sym 20001 (out ++ (a.inners.take n).flatMap (stI x sym)).length)), (10001, .dead), (20001, .row 2 ((out ++ (a.inners.take n).flatMap (stI x sym)).map ea)), (3, .box [.pv (.int .i64 x.1), .pv (il x.2)])]) (fun n => a.inners.length - n) 0 [(20001, 10001)] [] [] (by simp) ?_ ?_
  · repeat ((conv => whnf); first | refine AEq_intro (by first | with_reducible rfl | (simp; done) | rfl) ?_ | refine APerm_intro (by first | exact .refl _ | assumption | (simp; done)) ?_)
    trivial
  · intro n hn
    have hfl := flat_len (stI x sym) (stI_len x sym) (a.inners.take n)
    rw [List.length_take] at hfl
    have hlen : (out ++ (a.inners.take n).flatMap (stI x sym)).length ≤ 1000030 := by rw [List.length_append]; omega
    conv => whnf
    refine ASpl_intro (fun h1 => ?_) (fun h1 => ?_)
    · simp at h1
      have hs0 := flat_succ (stI x sym) h1
      have hs : out ++ (a.inners.take (n + 1)).flatMap (stI x sym) = (out ++ (a.inners.take n).flatMap (stI x sym)) ++ stI x sym a.inners[n] := by rw [hs0, List.append_assoc]
      generalize hI : out ++ (a.inners.take n).flatMap (stI x sym) = I at *
      conv => whnf
      refine AIdx_map n rfl h1 ?_
      conv => whnf
      refine ASpl_intro (fun h2 => ?_) (fun h2 => ?_) <;> rw [h2]
      · simp at h2
        repeat ((conv => whnf); refine ASpl_t ?_)
        conv => whnf
        refine AChk_intro (by kernel_rfl) ?_
        repeat ((conv => whnf); refine ASpl_t ?_)
        conv => whnf
        refine ASpl_intro (fun h3 => ?_) (fun h3 => ?_)
        · simp at h3
          have hst : stI x sym a.inners[n] = [(a.inners[n].2.2, x.2)] := by simp [stI, h2, h3]
          rw [hst] at hs
          conv => whnf
          refine ACall_pv (c99 x.2 hx) rfl ?_
          conv => whnf
          refine AFits_intro (by simp <;> omega) ?_
          conv => whnf
          refine AChk_intro (by kernel_rfl) ?_
          conv => whnf
          refine ABack_intro (n + 1) [(20001, 42)] [] [] ?_ ?_ ?_
          · omega
          · show _ - (n + 1) < _ - n; omega
          · repeat ((conv => whnf); first | refine AEq_intro (by first | with_reducible rfl | ((rw [hs, List.length_append]; rfl); done) | ((rw [hs]; exact grow I _); done) | (exact wrS n (by omega); done) | rfl) ?_ | refine APerm_intro (by first | exact .refl _ | assumption | ((rw [hs, List.length_append]; rfl); done) | ((rw [hs]; exact grow I _); done) | (exact wrS n (by omega); done)) ?_)
            trivial
        · simp at h3
          have hst : stI x sym a.inners[n] = [] := by simp [stI, h3]
          rw [hst, List.append_nil] at hs
          conv => whnf
          refine ABack_intro (n + 1) [] [] [] ?_ ?_ ?_
          · omega
          · show _ - (n + 1) < _ - n; omega
          · repeat ((conv => whnf); first | refine AEq_intro (by first | with_reducible rfl | ((rw [hs]); done) | (exact wrS n (by omega); done) | rfl) ?_ | refine APerm_intro (by first | exact .refl _ | assumption | ((rw [hs]); done) | (exact wrS n (by omega); done)) ?_)
            trivial
      · simp at h2
        have hst : stI x sym a.inners[n] = [] := by simp [stI, h2]
        rw [hst, List.append_nil] at hs
        repeat ((conv => whnf); refine ASpl_f ?_)
        conv => whnf
        refine AChk_intro (by kernel_rfl) ?_
        repeat ((conv => whnf); refine ASpl_f ?_)
        conv => whnf
        refine ABack_intro (n + 1) [] [] [] ?_ ?_ ?_
        · omega
        · show _ - (n + 1) < _ - n; omega
        · repeat ((conv => whnf); first | refine AEq_intro (by first | with_reducible rfl | ((rw [hs]); done) | (exact wrS n (by omega); done) | rfl) ?_ | refine APerm_intro (by first | exact .refl _ | assumption | ((rw [hs]); done) | (exact wrS n (by omega); done)) ?_)
          trivial
    · simp at h1
      obtain rfl : n = a.inners.length := by omega
      rw [List.take_length]
      conv => whnf
      refine AFin_intro [] [(20002, 20001)] [] [] rfl ?_
      repeat ((conv => whnf); first | refine AEq_intro (by first | with_reducible rfl | rfl) ?_ | refine APerm_intro (by first | exact .refl _ | assumption) ?_)
      trivial
end Go.Proofs.Ytcpgcenlgihmnaa.Abs
/- runs.stepper's open, close. -/
set_option linter.unusedVariables false
set_option linter.unusedSimpArgs false
set_option maxRecDepth 100000
namespace Go.Proofs.Ytcpgcenlgihmnaa.Abs
open Go

theorem CallsTo.conv0 {P : Program} {g : Nat} {lvs lvs' : List LV} {r : LV} (h : CallsTo P g lvs [] r []) (K es m : Nat) (ys : List (List AV)) (ha : ArgsR K es m ys lvs' lvs) (hl : argsB lvs = true) : CallsTo P g lvs' [(K, .row es ys)] r [(K, .dead)] :=
  h.conv K es m ys ha (argsB_kin hl) (by simp [lkO]) rfl rfl

theorem c61 (a : Auto) (x : At) (sym : Int) (out : List At) (hi : a.opens.length ≤ 30) (ho : out.length ≤ 1000000) (hx : x.2.length ≤ 100000) :
    CallsTo Try.prog 61 [.bx 10000 0, atL x] (stIn a sym out) (.tu []) (stOut a sym (out ++ a.opens.flatMap (stO x sym))) := by
  refine callsTo_of (ann := []) Try.func61 rfl (by kernel_rfl) (by kernel_rfl) mixed tab_ok (Nat.le_of_ble_eq_true rfl) rfl ?_
  conv => whnf
  refine ALoop_intro (fun n : Nat => n ≤ a.opens.length) (fun n => [(0, .bx 10000 0), (3, .bx 3 0), (10, .pv (l4 a.opens)), (11, .pv (.int .i64 a.opens.length)), (12, .pv (.int .i64 n))]) (fun n => [(10000, .box (stB a sym 20001 (out ++ (a.opens.take n).flatMap (stO x sym)).length)), (10001, .dead), (20001, .row 2 ((out ++ (a.opens.take n).flatMap (stO x sym)).map ea)), (3, .box [.pv (.int .i64 x.1), .pv (il x.2)])]) (fun n => a.opens.length - n) 0 [(20001, 10001)] [] [] (by simp) ?_ ?_
  · repeat ((conv => whnf); first | refine AEq_intro (by first | with_reducible rfl | (simp; done) | rfl) ?_ | refine APerm_intro (by first | exact .refl _ | assumption | (simp; done)) ?_)
    trivial
  · intro n hn
    have hfl := flat_len (stO x sym) (stO_len x sym) (a.opens.take n)
    rw [List.length_take] at hfl
    have hlen : (out ++ (a.opens.take n).flatMap (stO x sym)).length ≤ 1000030 := by rw [List.length_append]; omega
    conv => whnf
    refine ASpl_intro (fun h1 => ?_) (fun h1 => ?_)
    · simp at h1
      have hs0 := flat_succ (stO x sym) h1
      have hs : out ++ (a.opens.take (n + 1)).flatMap (stO x sym) = (out ++ (a.opens.take n).flatMap (stO x sym)) ++ stO x sym a.opens[n] := by rw [hs0, List.append_assoc]
      generalize hI : out ++ (a.opens.take n).flatMap (stO x sym) = I at *
      conv => whnf
      refine AIdx_map n rfl h1 ?_
      conv => whnf
      refine ASpl_intro (fun h2 => ?_) (fun h2 => ?_) <;> rw [h2]
      · simp at h2
        repeat ((conv => whnf); refine ASpl_t ?_)
        conv => whnf
        refine AChk_intro (by kernel_rfl) ?_
        repeat ((conv => whnf); refine ASpl_t ?_)
        conv => whnf
        refine ASpl_intro (fun h3 => ?_) (fun h3 => ?_)
        · simp at h3
          have hst : stO x sym a.opens[n] = [(a.opens[n].2.2.1, a.opens[n].2.2.2 :: x.2)] := by simp [stO, h2, h3]
          rw [hst] at hs
          conv => whnf
          refine ACall_own ((c100 [[a.opens[n].2.2.2], x.2] (by simp) (by simp; omega)).conv0 42 1 2 [[il [a.opens[n].2.2.2]], [il x.2]] (.cons .rw .nil) rfl) (by rfl) (by rfl) ⟨rfl, trivial⟩ ⟨⟨_, rfl, trivial⟩, trivial⟩ (by rfl) (by rfl) ?_
          conv => whnf
          refine AFits_intro (by simp <;> omega) ?_
          conv => whnf
          refine AChk_intro (by kernel_rfl) ?_
          conv => whnf
          refine ABack_intro (n + 1) [(20001, 46)] [] [] ?_ ?_ ?_
          · omega
          · show _ - (n + 1) < _ - n; omega
          · repeat ((conv => whnf); first | refine AEq_intro (by first | with_reducible rfl | ((rw [hs, List.length_append]; rfl); done) | ((rw [hs]; refine (grow I _).trans ?_; simp [ea]; done); done) | (exact wrS n (by omega); done) | rfl) ?_ | refine APerm_intro (by first | exact .refl _ | assumption | ((rw [hs, List.length_append]; rfl); done) | ((rw [hs]; refine (grow I _).trans ?_; simp [ea]; done); done) | (exact wrS n (by omega); done)) ?_)
            trivial
        · simp at h3
          have hst : stO x sym a.opens[n] = [] := by simp [stO, h3]
          rw [hst, List.append_nil] at hs
          conv => whnf
          refine ABack_intro (n + 1) [] [] [] ?_ ?_ ?_
          · omega
          · show _ - (n + 1) < _ - n; omega
          · repeat ((conv => whnf); first | refine AEq_intro (by first | with_reducible rfl | ((rw [hs]); done) | (exact wrS n (by omega); done) | rfl) ?_ | refine APerm_intro (by first | exact .refl _ | assumption | ((rw [hs]); done) | (exact wrS n (by omega); done)) ?_)
            trivial
      · simp at h2
        have hst : stO x sym a.opens[n] = [] := by simp [stO, h2]
        rw [hst, List.append_nil] at hs
        repeat ((conv => whnf); refine ASpl_f ?_)
        conv => whnf
        refine AChk_intro (by kernel_rfl) ?_
        repeat ((conv => whnf); refine ASpl_f ?_)
        conv => whnf
        refine ABack_intro (n + 1) [] [] [] ?_ ?_ ?_
        · omega
        · show _ - (n + 1) < _ - n; omega
        · repeat ((conv => whnf); first | refine AEq_intro (by first | with_reducible rfl | ((rw [hs]); done) | (exact wrS n (by omega); done) | rfl) ?_ | refine APerm_intro (by first | exact .refl _ | assumption | ((rw [hs]); done) | (exact wrS n (by omega); done)) ?_)
          trivial
    · simp at h1
      obtain rfl : n = a.opens.length := by omega
      rw [List.take_length]
      conv => whnf
      refine AFin_intro [] [(20002, 20001)] [] [] rfl ?_
      repeat ((conv => whnf); first | refine AEq_intro (by first | with_reducible rfl | rfl) ?_ | refine APerm_intro (by first | exact .refl _ | assumption) ?_)
      trivial
theorem hd0 {xs : List Int} (h : 0 < xs.length) : xs[0] = xs.headD 0 := by
  cases xs with
  | nil => cases h
  | cons t ts => rfl
def stD (x : At) (sym : Int) (r : R4) : List At := if r.1 = x.1 ∧ r.2.1 = sym ∧ r.2.2.1 = x.2.headD 0 then [(r.2.2.2, x.2.drop 1)] else []
theorem stD_eq (x : At) (sym : Int) (r : R4) : stD x sym r = stC x sym r := by
  obtain ⟨s, st⟩ := x
  unfold stD stC
  cases st with
  | nil => simp only [List.headD_nil, List.drop_nil]; by_cases h1 : r.1 = s <;> by_cases h2 : r.2.1 = sym <;> simp [h1, h2]
  | cons t ts => simp only [List.headD_cons, List.drop_succ_cons, List.drop_zero]; by_cases h1 : r.1 = s <;> by_cases h2 : r.2.1 = sym <;> simp [h1, h2]
theorem c62 (a : Auto) (x : At) (sym : Int) (out : List At) (hi : a.closes.length ≤ 30) (ho : out.length ≤ 1000000) (hx : x.2.length ≤ 1000000) :
    CallsTo Try.prog 62 [.bx 10000 0, atL x] (stIn a sym out) (.tu []) (stOut a sym (out ++ a.closes.flatMap (stC x sym))) := by
  have hfe : a.closes.flatMap (stC x sym) = a.closes.flatMap (stD x sym) := by congr 1; funext r; exact (stD_eq x sym r).symm
  rw [hfe]
  have hDlen : ∀ r, (stD x sym r).length ≤ 1 := fun r => by rw [stD_eq]; exact stC_len x sym r
  refine callsTo_of (ann := []) Try.func62 rfl (by kernel_rfl) (by kernel_rfl) mixed tab_ok (Nat.le_of_ble_eq_true rfl) rfl ?_
  conv => whnf
  refine AChk_intro (by kernel_rfl) ?_
  conv => whnf
  refine ASpl_intro (fun h0 => ?_) (fun h0 => ?_)
  focus
    simp at h0
    have hpos : 0 < x.2.length := by omega
    have htop := hd0 hpos
    have hrest : x.2 = x.2 := rfl
    conv => whnf
    refine AIdx_map 0 rfl hpos ?_
    conv => whnf
    refine ALe_intro (by omega) (by simp; omega) ?_
    conv => whnf
    refine AChk_intro (by kernel_rfl) ?_
    conv => whnf
  rotate_left
  focus
    simp at h0
    have htop : (0 : Int) = x.2.headD 0 := by rw [h0]; rfl
    have hrest : x.2 = x.2.drop 1 := by rw [h0]; rfl
    conv => whnf
  all_goals
    refine ALoop_intro (fun n : Nat => n ≤ a.closes.length) (fun n => [(0, .bx 10000 0), (3, .bx 3 0), (4, .pv (.int .i64 (x.2.headD 0))), (5, .pv (il (x.2.drop 1))), (22, .pv (l4 a.closes)), (23, .pv (.int .i64 a.closes.length)), (24, .pv (.int .i64 n))]) (fun n => [(10000, .box (stB a sym 20001 (out ++ (a.closes.take n).flatMap (stD x sym)).length)), (10001, .dead), (20001, .row 2 ((out ++ (a.closes.take n).flatMap (stD x sym)).map ea)), (3, .box [.pv (.int .i64 x.1), .pv (il x.2)])]) (fun n => a.closes.length - n) 0 [(20001, 10001)] [] [] (by simp) ?_ ?_
    · repeat ((conv => whnf); first | refine AEq_intro (by first | with_reducible rfl | ((simp; done); done) | (exact congrArg (AV.int .i64) htop; done) | (exact congrArg il hrest; done) | rfl) ?_ | refine APerm_intro (by first | exact .refl _ | assumption | ((simp; done); done) | (exact congrArg (AV.int .i64) htop; done) | (exact congrArg il hrest; done)) ?_)
      trivial
    · intro n hn
      have hfl := flat_len (stD x sym) hDlen (a.closes.take n)
      rw [List.length_take] at hfl
      have hlen : (out ++ (a.closes.take n).flatMap (stD x sym)).length ≤ 1000030 := by rw [List.length_append]; omega
      conv => whnf
      refine ASpl_intro (fun h1 => ?_) (fun h1 => ?_)
      · simp at h1
        have hs0 := flat_succ (stD x sym) h1
        have hs : out ++ (a.closes.take (n + 1)).flatMap (stD x sym) = (out ++ (a.closes.take n).flatMap (stD x sym)) ++ stD x sym a.closes[n] := by rw [hs0, List.append_assoc]
        generalize hI : out ++ (a.closes.take n).flatMap (stD x sym) = I at *
        conv => whnf
        refine AIdx_map n rfl h1 ?_
        conv => whnf
        refine ASpl_intro (fun h2 => ?_) (fun h2 => ?_) <;> rw [h2]
        · simp at h2
          repeat ((conv => whnf); refine ASpl_t ?_)
          conv => whnf
          refine ASpl_intro (fun h3 => ?_) (fun h3 => ?_) <;> rw [h3]
          · simp at h3
            repeat ((conv => whnf); refine ASpl_t ?_)
            conv => whnf
            refine AChk_intro (by kernel_rfl) ?_
            repeat ((conv => whnf); refine ASpl_t ?_)
            conv => whnf
            refine ASpl_intro (fun h4 => ?_) (fun h4 => ?_)
            · simp only [beq_iff_eq] at h4
              have hst : stD x sym a.closes[n] = [(a.closes[n].2.2.2, x.2.drop 1)] := by simp only [stD]; rw [if_pos ⟨h2, h3, h4⟩]
              rw [hst] at hs
              conv => whnf
              refine ACall_pv (c99 (x.2.drop 1) (by simp; omega)) rfl ?_
              conv => whnf
              refine AFits_intro (by simp <;> omega) ?_
              conv => whnf
              refine AChk_intro (by kernel_rfl) ?_
              conv => whnf
              refine ABack_intro (n + 1) [(20001, 59)] [] [] ?_ ?_ ?_
              · omega
              · show _ - (n + 1) < _ - n; omega
              · repeat ((conv => whnf); first | refine AEq_intro (by first | with_reducible rfl | ((rw [hs, List.length_append]; rfl); done) | ((rw [hs]; exact grow I _); done) | (exact wrS n (by omega); done) | rfl) ?_ | refine APerm_intro (by first | exact .refl _ | assumption | ((rw [hs, List.length_append]; rfl); done) | ((rw [hs]; exact grow I _); done) | (exact wrS n (by omega); done)) ?_)
                trivial
            · simp only [beq_eq_false_iff_ne] at h4
              have hst : stD x sym a.closes[n] = [] := by simp only [stD]; rw [if_neg (fun h => h4 h.2.2)]
              rw [hst, List.append_nil] at hs
              conv => whnf
              refine ABack_intro (n + 1) [] [] [] ?_ ?_ ?_
              · omega
              · show _ - (n + 1) < _ - n; omega
              · repeat ((conv => whnf); first | refine AEq_intro (by first | with_reducible rfl | ((rw [hs]); done) | (exact wrS n (by omega); done) | rfl) ?_ | refine APerm_intro (by first | exact .refl _ | assumption | ((rw [hs]); done) | (exact wrS n (by omega); done)) ?_)
                trivial
          · simp only [beq_eq_false_iff_ne] at h3
            have hst : stD x sym a.closes[n] = [] := by simp only [stD]; rw [if_neg (fun h => h3 h.2.1)]
            rw [hst, List.append_nil] at hs
            repeat ((conv => whnf); refine ASpl_f ?_)
            conv => whnf
            refine AChk_intro (by kernel_rfl) ?_
            repeat ((conv => whnf); refine ASpl_f ?_)
            conv => whnf
            refine ABack_intro (n + 1) [] [] [] ?_ ?_ ?_
            · omega
            · show _ - (n + 1) < _ - n; omega
            · repeat ((conv => whnf); first | refine AEq_intro (by first | with_reducible rfl | ((rw [hs]); done) | (exact wrS n (by omega); done) | rfl) ?_ | refine APerm_intro (by first | exact .refl _ | assumption | ((rw [hs]); done) | (exact wrS n (by omega); done)) ?_)
              trivial
        · simp at h2
          have hst : stD x sym a.closes[n] = [] := by simp only [stD]; rw [if_neg (fun h => h2 h.1)]
          rw [hst, List.append_nil] at hs
          repeat ((conv => whnf); refine ASpl_f ?_)
          conv => whnf
          refine AChk_intro (by kernel_rfl) ?_
          repeat ((conv => whnf); refine ASpl_f ?_)
          conv => whnf
          refine ABack_intro (n + 1) [] [] [] ?_ ?_ ?_
          · omega
          · show _ - (n + 1) < _ - n; omega
          · repeat ((conv => whnf); first | refine AEq_intro (by first | with_reducible rfl | ((rw [hs]); done) | (exact wrS n (by omega); done) | rfl) ?_ | refine APerm_intro (by first | exact .refl _ | assumption | ((rw [hs]); done) | (exact wrS n (by omega); done)) ?_)
            trivial
      · simp at h1
        obtain rfl : n = a.closes.length := by omega
        rw [List.take_length]
        conv => whnf
        refine AFin_intro [] [(20002, 20001)] [] [] rfl ?_
        repeat ((conv => whnf); first | refine AEq_intro (by first | with_reducible rfl | rfl) ?_ | refine APerm_intro (by first | exact .refl _ | assumption) ?_)
        trivial
end Go.Proofs.Ytcpgcenlgihmnaa.Abs
/- slices.CompactFunc at places. -/
set_option linter.unusedVariables false
set_option linter.unusedSimpArgs false
set_option maxRecDepth 100000
namespace Go.Proofs.Ytcpgcenlgihmnaa.Abs
open Go

theorem cmpI_zero {x y : Int} : cmpI x y = 0 ↔ x = y := by
  unfold cmpI
  split
  · simp; omega
  · split
    · simp; omega
    · simp; omega
theorem cmpL_zero : ∀ {xs ys : List Int}, cmpL xs ys = 0 ↔ xs = ys
  | [], [] => by simp [cmpL]
  | [], _ :: _ => by simp [cmpL]
  | _ :: _, [] => by simp [cmpL]
  | x :: xs, y :: ys => by
    simp only [cmpL]
    split
    · rename_i h
      have : x ≠ y := fun e => h (cmpI_zero.2 e)
      simp [h, this]
    · rename_i h
      have : x = y := cmpI_zero.1 (by simpa using h)
      rw [cmpL_zero]; simp [this]
theorem ordA_zero {x y : At} : ordA x y = 0 ↔ x = y := by
  unfold ordA
  split
  · rename_i h
    have : x.1 ≠ y.1 := fun e => h (cmpI_zero.2 e)
    refine ⟨fun h' => (h h').elim, fun e => (this (by rw [e])).elim⟩
  · rename_i h
    have : x.1 = y.1 := cmpI_zero.1 (by simpa using h)
    rw [cmpL_zero]
    constructor
    · intro h2; exact Prod.ext this h2
    · rintro rfl; rfl

/-- Each once, of those side by side. -/
def dd {α : Type} [DecidableEq α] : List α → List α
  | [] => []
  | [x] => [x]
  | x :: y :: l => if x = y then dd (y :: l) else x :: dd (y :: l)
theorem dd_snoc {α : Type} [DecidableEq α] : ∀ (l : List α) (x y : α), dd (l ++ [x, y]) = if x = y then dd (l ++ [x]) else dd (l ++ [x]) ++ [y]
  | [], x, y => by simp only [List.nil_append, dd]; split <;> simp_all
  | [a], x, y => by
    simp only [List.cons_append, List.nil_append, dd]
    by_cases h1 : a = x <;> by_cases h2 : x = y <;> simp [h1, h2]
  | a :: b :: l, x, y => by
    have ih := dd_snoc (b :: l) x y
    simp only [List.cons_append] at ih ⊢
    simp only [dd]
    rw [ih]
    split <;> split <;> simp_all
theorem dd_len {α : Type} [DecidableEq α] : ∀ (l : List α), (dd l).length ≤ l.length
  | [] => by simp [dd]
  | [x] => by simp [dd]
  | x :: y :: l => by
    have := dd_len (y :: l)
    simp only [dd]
    split <;> simp at * <;> omega
theorem dd_take {α : Type} [DecidableEq α] {xs : List α} {p : Nat} (h : p + 1 < xs.length) : dd (xs.take (p + 2)) = if xs[p] = xs[p + 1] then dd (xs.take (p + 1)) else dd (xs.take (p + 1)) ++ [xs[p + 1]] := by
  have e1 : xs.take (p + 1) = xs.take p ++ [xs[p]] := List.take_succ_eq_append_getElem (by omega)
  have e2 : xs.take (p + 2) = xs.take p ++ [xs[p], xs[p + 1]] := by
    have e3 : xs.take (p + 1 + 1) = xs.take (p + 1) ++ [xs[p + 1]] := List.take_succ_eq_append_getElem h
    rw [show p + 2 = p + 1 + 1 from rfl, e3, e1, List.append_assoc]; rfl
  rw [e2, e1, dd_snoc]

theorem drop_more {α : Type} {xs ys : List α} {n m : Nat} (h : ys.drop n = xs.drop n) (hm : n ≤ m) : ys.drop m = xs.drop m := by
  obtain ⟨k, rfl⟩ : ∃ k, m = n + k := ⟨m - n, by omega⟩
  rw [← List.drop_drop, ← List.drop_drop, h]
theorem c96 (xs : List At) (hl : xs.length ≤ 1000000) (hx : ∀ x ∈ xs, x.2.length ≤ 1000000) : CallsTo Try.prog 96 [.rw 10000 xs.length, .fn 97 []] [(10000, .row 2 (xs.map ea))] (.rw 10000 (dd xs).length) [(10000, .row 2 ((dd xs).map ea ++ List.replicate (xs.length - (dd xs).length) (ea (0, []))))] := by
  refine callsTo_of (ann := []) Try.func96 rfl (by kernel_rfl) (by kernel_rfl) mixed tab_ok (Nat.le_of_ble_eq_true rfl) rfl ?_
  conv => whnf
  refine ASpl_intro (fun h0 => ?_) (fun h0 => ?_)
  · simp at h0
    have hdd : dd xs = xs := by
      match xs, h0 with
      | [], _ => rfl
      | [x], _ => rfl
      | x :: y :: l, h => simp at h; omega
    conv => whnf
    refine AFin_intro [(4, _)] [] [] [] rfl ?_
    repeat ((conv => whnf); first | refine AEq_intro (by first | with_reducible rfl | ((rw [hdd]; simp; done); done) | ((rw [hdd]); done) | rfl) ?_ | refine APerm_intro (by first | exact .refl _ | assumption | ((rw [hdd]; simp; done); done) | ((rw [hdd]); done)) ?_)
    trivial
  · simp at h0
    conv => whnf
    refine ALoop_intro (fun k : Nat => 1 ≤ k ∧ k ≤ xs.length ∧ dd (xs.take k) = xs.take k) (fun k => [(0, .rw 10000 xs.length), (1, .fn 97 []), (5, .pv (.int .i64 k))]) (fun _ => [(10000, .row 2 (xs.map ea))]) (fun k => xs.length - k) 1 [] [] [] ?_ ?_ ?_
    · refine ⟨by omega, by omega, ?_⟩
      match xs, h0 with
      | x :: y :: l, _ => simp [dd]
    · repeat ((conv => whnf); first | refine AEq_intro (by first | with_reducible rfl | rfl) ?_ | refine APerm_intro (by first | exact .refl _ | assumption) ?_)
      trivial
    · rintro k ⟨hk1, hk, hdk⟩
      obtain ⟨p, rfl⟩ : ∃ p, k = p + 1 := ⟨k - 1, by omega⟩
      conv => whnf
      refine ASpl_intro (fun h1 => ?_) (fun h1 => ?_)
      · simp at h1
        have h1 : p + 1 < xs.length := by omega
        have hw := wrP p (by omega)
        have hx1 := hx xs[p + 1] (List.getElem_mem h1)
        have hdt := dd_take (xs := xs) (p := p) h1
        conv => whnf
        refine ARow_intro (by omega) (by omega) ?_
        conv => whnf
        refine AGet_intro (ea xs[p + 1]) (by simp [h1]) ?_
        conv => whnf
        refine ARow_intro (by rw [hw]; omega) (by rw [hw]; omega) ?_
        conv => whnf
        refine AGet_intro (ea xs[p]) (by rw [hw]; simp [show p < xs.length by omega]) ?_
        conv => whnf
        refine ACall_pv (c97 xs[p + 1] xs[p] hx1) rfl ?_
        conv => whnf
        refine AChk_intro (by kernel_rfl) ?_
        conv => whnf
        refine ASpl_intro (fun h2 => ?_) (fun h2 => ?_)
        · simp only [beq_iff_eq, ordA_zero] at h2
          rw [if_pos h2.symm, hdk] at hdt
          conv => whnf
          refine ALe_intro (by omega) (by omega) ?_
          conv => whnf
          refine ALoop_intro (fun (⟨q, j, ys⟩ : Nat × Nat × List At) => p + 1 + j ≤ xs.length ∧ 1 ≤ j ∧ q ≤ p + j ∧ p + 1 ≤ q ∧ ys.length = xs.length ∧ ys.take q = dd (xs.take (p + 1 + j)) ∧ ys.drop (p + j) = xs.drop (p + j)) (fun ⟨q, j, ys⟩ => [(0, .rw 10000 xs.length), (1, .fn 97 []), (5, .pv (.int .i64 q)), (6, .rv 10000 (p + 1) xs.length), (7, .pv (.int .i64 j))]) (fun ⟨q, j, ys⟩ => [(10000, .row 2 (ys.map ea))]) (fun i => xs.length - i.2.1) (p + 1, 1, xs) [] [] [] ⟨by omega, by omega, by omega, by omega, rfl, by rw [← hdt], rfl⟩ ?_ ?_
          · repeat ((conv => whnf); first | refine AEq_intro (by first | with_reducible rfl | rfl) ?_ | refine APerm_intro (by first | exact .refl _ | assumption) ?_)
            trivial
          · rintro ⟨q, j, ys⟩ ⟨i1, i2, i3, i3', i4, i5, i6⟩
            obtain ⟨j, rfl⟩ : ∃ j', j = j' + 1 := ⟨j - 1, by omega⟩
            have hget : ∀ r, p + (j + 1) ≤ r → (hr : r < xs.length) → ys[r]'(by omega) = xs[r] := fun r h1 hr => by
              have := congrArg (fun l => l[r - (p + (j + 1))]?) i6
              simp only [List.getElem?_drop] at this
              rw [show p + (j + 1) + (r - (p + (j + 1))) = r by omega] at this
              simpa [hr, i4] using this
            conv => whnf
            refine ASpl_intro (fun h3 => ?_) (fun h3 => ?_)
            · simp at h3
              have h3' : p + (j + 1) + 1 < xs.length := by omega
              have hwj := wrP j (by omega)
              have hdt2 := dd_take (xs := xs) (p := p + (j + 1)) h3'
              have g1 := hget (p + (j + 1) + 1) (by omega) h3'
              have g0 := hget (p + (j + 1)) (by omega) (by omega)
              have hxa := hx xs[p + (j + 1) + 1] (List.getElem_mem h3')
              conv => whnf
              refine ARow_intro (by omega) (by omega) ?_
              conv => whnf
              refine AGet_intro (ea xs[p + (j + 1) + 1]) (by rw [show p + 1 + ((j + 1 : Nat) : Int).toNat = p + (j + 1) + 1 by omega]; simp [← g1, i4, h3']) ?_
              conv => whnf
              refine ARow_intro (by rw [hwj]; omega) (by rw [hwj]; omega) ?_
              conv => whnf
              refine AGet_intro (ea xs[p + (j + 1)]) (by rw [hwj, show p + 1 + ((j : Nat) : Int).toNat = p + (j + 1) by omega]; simp [← g0, i4, show p + (j + 1) < xs.length by omega]) ?_
              conv => whnf
              refine ACall_pv (c97 xs[p + (j + 1) + 1] xs[p + (j + 1)] hxa) rfl ?_
              conv => whnf
              refine AChk_intro (by kernel_rfl) ?_
              conv => whnf
              refine ASpl_intro (fun h4 => ?_) (fun h4 => ?_) <;> rw [h4]
              · simp at h4
                have hne : xs[p + (j + 1)] ≠ xs[p + (j + 1) + 1] := fun e => h4 (ordA_zero.2 e.symm)
                rw [if_neg hne] at hdt2
                conv => whnf
                refine ARow_intro (by omega) (by omega) ?_
                conv => whnf
                refine AGet_intro (ea xs[p + (j + 1) + 1]) (by rw [show p + 1 + ((j + 1 : Nat) : Int).toNat = p + (j + 1) + 1 by omega]; simp [← g1, i4, h3']) ?_
                conv => whnf
                refine ARow_intro (by omega) (by omega) ?_
                conv => whnf
                refine AGet_intro (ea (ys[q]'(by omega))) (by rw [show ((q : Nat) : Int).toNat = q by omega]; simp [show q < ys.length by omega]) ?_
                conv => whnf
                refine ABack_intro (q + 1, j + 2, ys.set q xs[p + (j + 1) + 1]) [] [] [] ?_ ?_ ?_
                · refine ⟨by show p + 1 + (j + 2) ≤ _; omega, by show 1 ≤ j + 2; omega, by show q + 1 ≤ p + (j + 2); omega, by show p + 1 ≤ q + 1; omega, by simp [i4], ?_, ?_⟩
                  · show (ys.set q xs[p + (j + 1) + 1]).take (q + 1) = _
                    rw [List.take_succ_eq_append_getElem (by simp; omega)]
                    simp only [List.getElem_set_self]
                    rw [List.take_set, List.set_eq_of_length_le (by simp; omega), i5, show p + 1 + (j + 2) = p + (j + 1) + 2 by omega, hdt2, show p + 1 + (j + 1) = p + (j + 1) + 1 by omega]
                  · show (ys.set q xs[p + (j + 1) + 1]).drop (p + (j + 2)) = xs.drop (p + (j + 2))
                    rw [List.drop_set, if_pos (by omega)]
                    exact drop_more i6 (by omega)
                · show xs.length - (j + 2) < xs.length - (j + 1); omega
                · repeat ((conv => whnf); first | refine AEq_intro (by first | with_reducible rfl | ((simp [List.map_set, ea]; done); done) | (exact wrS q (by omega); done) | (exact wrS (j + 1) (by omega); done) | rfl) ?_ | refine APerm_intro (by first | exact .refl _ | assumption | ((simp [List.map_set, ea]; done); done) | (exact wrS q (by omega); done) | (exact wrS (j + 1) (by omega); done)) ?_)
                  trivial
              · simp at h4
                have hne : xs[p + (j + 1)] = xs[p + (j + 1) + 1] := (ordA_zero.1 h4).symm
                rw [if_pos hne] at hdt2
                conv => whnf
                refine ABack_intro (q, j + 2, ys) [] [] [] ?_ ?_ ?_
                · refine ⟨by show p + 1 + (j + 2) ≤ _; omega, by show 1 ≤ j + 2; omega, by show q ≤ p + (j + 2); omega, i3', i4, ?_, ?_⟩
                  · show ys.take q = dd (xs.take (p + 1 + (j + 2)))
                    rw [i5, show p + 1 + (j + 2) = p + (j + 1) + 2 by omega, hdt2, show p + 1 + (j + 1) = p + (j + 1) + 1 by omega]
                  · show ys.drop (p + (j + 2)) = xs.drop (p + (j + 2))
                    exact drop_more i6 (by omega)
                · show xs.length - (j + 2) < xs.length - (j + 1); omega
                · repeat ((conv => whnf); first | refine AEq_intro (by first | with_reducible rfl | (exact wrS (j + 1) (by omega); done) | rfl) ?_ | refine APerm_intro (by first | exact .refl _ | assumption | (exact wrS (j + 1) (by omega); done)) ?_)
                  trivial
            · simp at h3
              have hend : p + 1 + (j + 1) = xs.length := by omega
              rw [hend, List.take_length] at i5
              have hql : (dd xs).length = q := by rw [← i5]; simp; omega
              conv => whnf
              refine ALe_intro (by omega) (by omega) ?_
              conv => whnf
              refine ALe_intro (by omega) (by omega) ?_
              conv => whnf
              refine AFin_intro [(4, _)] [] [] [] rfl ?_
              repeat ((conv => whnf); first | refine AEq_intro (by first | with_reducible rfl | ((rw [hql, ← i5, show ((q : Nat) : Int).toNat = q by omega, List.drop_eq_nil_of_le (by simp; omega), List.append_nil, List.map_take]; rfl); done) | ((rw [hql]; simp); done) | rfl) ?_ | refine APerm_intro (by first | exact .refl _ | assumption | ((rw [hql, ← i5, show ((q : Nat) : Int).toNat = q by omega, List.drop_eq_nil_of_le (by simp; omega), List.append_nil, List.map_take]; rfl); done) | ((rw [hql]; simp); done)) ?_)
              trivial
        · simp only [beq_eq_false_iff_ne, ne_eq, ordA_zero] at h2
          rw [if_neg (fun e => h2 e.symm), hdk] at hdt
          conv => whnf
          refine ABack_intro (p + 2) [] [] [] ?_ ?_ ?_
          · exact ⟨by omega, by omega, by rw [hdt, ← List.take_succ_eq_append_getElem h1]⟩
          · show xs.length - (p + 2) < xs.length - (p + 1); omega
          · repeat ((conv => whnf); first | refine AEq_intro (by first | with_reducible rfl | (exact wrS (p + 1) (by omega); done) | rfl) ?_ | refine APerm_intro (by first | exact .refl _ | assumption | (exact wrS (p + 1) (by omega); done)) ?_)
            trivial
      · simp at h1
        have he : p + 1 = xs.length := by omega
        rw [he, List.take_length] at hdk
        conv => whnf
        refine AFin_intro [(4, _)] [] [] [] rfl ?_
        repeat ((conv => whnf); first | refine AEq_intro (by first | with_reducible rfl | ((rw [hdk]; simp; done); done) | ((rw [hdk]); done) | rfl) ?_ | refine APerm_intro (by first | exact .refl _ | assumption | ((rw [hdk]; simp; done); done) | ((rw [hdk]); done)) ?_)
        trivial
end Go.Proofs.Ytcpgcenlgihmnaa.Abs
/- Plain laws: rows in order, each once. -/
set_option linter.unusedVariables false
set_option linter.unusedSimpArgs false
namespace Go.Proofs.Ytcpgcenlgihmnaa.Abs
open Go

/-- A strict order in which any two are one, or one is less. -/
structure STO {α : Type} (lt : α → α → Bool) : Prop where
  irr : ∀ a, lt a a = false
  tra : ∀ a b c, lt a b = true → lt b c = true → lt a c = true
  tri : ∀ a b, lt a b = false → lt b a = false → a = b
abbrev SS {α : Type} (lt : α → α → Bool) (l : List α) : Prop := l.Pairwise fun a b => lt a b = true
section
variable {α : Type} {lt : α → α → Bool}
theorem STO.asy (h : STO lt) {a b : α} (hab : lt a b = true) : lt b a = false := by
  cases hb : lt b a with
  | false => rfl
  | true => have := h.tra a b a hab hb; rw [h.irr] at this; cases this
theorem SS.nodup (h : STO lt) {l : List α} (hs : SS lt l) : l.Nodup := hs.imp fun {a b} hab e => by subst e; rw [h.irr] at hab; cases hab
theorem SS.ext (h : STO lt) {l l' : List α} (hs : SS lt l) (hs' : SS lt l') (hm : ∀ x, x ∈ l ↔ x ∈ l') : l = l' := by
  refine List.Perm.eq_of_pairwise (le := fun a b => lt a b = true) (fun a b _ _ hab hba => by rw [h.asy hab] at hba; cases hba) hs hs' ?_
  exact (List.perm_ext_iff_of_nodup (hs.nodup h) (hs'.nodup h)).2 hm

/-- Where one is laid. -/
def posG (lt : α → α → Bool) (d : α) (l : List α) (x : α) : Nat → Nat
  | 0 => 0
  | k + 1 => if lt x ((l[k]?).getD d) = true then posG lt d l x k else k + 1
def insG (lt : α → α → Bool) (d : α) (l : List α) (x : α) : List α :=
  let k := posG lt d l x l.length
  if 0 < k ∧ lt ((l[k - 1]?).getD d) x = false then l else l.take k ++ [x] ++ l.drop k
theorem posG_le (d : α) (l : List α) (x : α) : ∀ n, posG lt d l x n ≤ n
  | 0 => Nat.le_refl _
  | n + 1 => by simp only [posG]; split; have := posG_le d l x n; omega; exact Nat.le_refl _
theorem posG_above (d : α) (l : List α) (x : α) : ∀ n, n ≤ l.length → ∀ j, posG lt d l x n ≤ j → (hj : j < n) → (hl : j < l.length) → lt x l[j] = true
  | 0, _, j, _, hj, _ => by omega
  | n + 1, hn, j, hk, hj, hl => by
    simp only [posG] at hk
    split at hk
    · rename_i h
      have hnl : n < l.length := by omega
      have e : (l[n]?).getD d = l[n] := by simp [hnl]
      rw [e] at h
      rcases Nat.lt_succ_iff_lt_or_eq.1 hj with hj' | rfl
      · exact posG_above d l x n (by omega) j hk hj' hl
      · exact h
    · omega
theorem posG_at (d : α) (l : List α) (x : α) : ∀ n, posG lt d l x n = 0 ∨ lt x ((l[posG lt d l x n - 1]?).getD d) = false
  | 0 => .inl rfl
  | n + 1 => by
    simp only [posG]
    split
    · exact posG_at d l x n
    · rename_i h; right; simpa using h
theorem insG_spec (h : STO lt) (d : α) {l : List α} (hs : SS lt l) (x : α) : SS lt (insG lt d l x) ∧ ∀ y, y ∈ insG lt d l x ↔ y = x ∨ y ∈ l := by
  unfold insG
  dsimp only
  have hk := posG_le (lt := lt) d l x l.length
  have hab := posG_above (lt := lt) d l x l.length (Nat.le_refl _)
  have hat := posG_at (lt := lt) d l x l.length
  generalize posG lt d l x l.length = k at *
  split
  · rename_i hc
    refine ⟨hs, fun y => ⟨.inr, fun hy => hy.elim (fun e => ?_) id⟩⟩
    rcases hat with h0 | h0
    · omega
    · have hk1 : k - 1 < l.length := by omega
      have e : (l[k - 1]?).getD d = l[k - 1] := by simp [hk1]
      rw [e] at h0 hc
      have : x = l[k - 1] := h.tri _ _ h0 hc.2
      rw [e] at *
      subst_vars
      exact List.getElem_mem hk1
  · rename_i hc
    have hle : ∀ j (hj : j < l.length), j < k → lt l[j] x = true := fun j hj hjk => by
      have hk1 : k - 1 < l.length := by omega
      have e : (l[k - 1]?).getD d = l[k - 1] := by simp [hk1]
      have h1 : lt l[k - 1] x = true := by
        cases hh : lt l[k - 1] x with
        | true => rfl
        | false => exact (hc ⟨by omega, by rw [e]; exact hh⟩).elim
      by_cases he : j = k - 1
      · subst he; exact h1
      · exact h.tra _ _ _ (List.pairwise_iff_getElem.1 hs j (k - 1) hj hk1 (by omega)) h1
    constructor
    · rw [List.append_assoc, SS, List.pairwise_append]
      refine ⟨hs.sublist (List.take_sublist _ _), ?_, fun a ha b hb => ?_⟩
      · rw [List.singleton_append, List.pairwise_cons]
        refine ⟨fun b hb => ?_, hs.sublist (List.drop_sublist _ _)⟩
        obtain ⟨j, hj, rfl⟩ := List.mem_iff_getElem.1 hb
        rw [List.getElem_drop]
        have : k + j < l.length := by simp at hj; omega
        exact hab (k + j) (by omega) this this
      · obtain ⟨i, hi, rfl⟩ := List.mem_iff_getElem.1 ha
        rw [List.getElem_take]
        have hi' : i < k ∧ i < l.length := by simp at hi; omega
        have hb : b = x ∨ b ∈ l.drop k := by simpa using hb
        rcases hb with rfl | hb
        · exact hle i hi'.2 hi'.1
        · obtain ⟨j, hj, rfl⟩ := List.mem_iff_getElem.1 hb
          rw [List.getElem_drop]
          exact List.pairwise_iff_getElem.1 hs i (k + j) hi'.2 (by simp at hj; omega) (by omega)
    · intro y
      simp only [List.append_assoc, List.mem_append, List.mem_singleton]
      constructor
      · rintro (h | h | h)
        · exact .inr (List.mem_of_mem_take h)
        · exact .inl h
        · exact .inr (List.mem_of_mem_drop h)
      · rintro (h | h)
        · exact .inr (.inl h)
        · rw [← List.take_append_drop k l, List.mem_append] at h
          rcases h with h | h
          · exact .inl h
          · exact .inr (.inr h)
theorem insGs_spec (h : STO lt) (d : α) : ∀ (xs l : List α), SS lt l → SS lt (xs.foldl (insG lt d) l) ∧ ∀ y, y ∈ xs.foldl (insG lt d) l ↔ y ∈ xs ∨ y ∈ l
  | [], l, hs => ⟨hs, fun y => by simp⟩
  | x :: xs, l, hs => by
    obtain ⟨h1, h2⟩ := insG_spec h d hs x
    obtain ⟨h3, h4⟩ := insGs_spec h d xs _ h1
    refine ⟨h3, fun y => ?_⟩
    rw [List.foldl_cons, h4, h2]
    simp only [List.mem_cons]
    constructor
    · rintro (h | h | h)
      · exact .inl (.inr h)
      · exact .inl (.inl h)
      · exact .inr h
    · rintro ((h | h) | h)
      · exact .inr (.inl h)
      · exact .inl h
      · exact .inr (.inr h)
/-- Sorted, then each once. -/
theorem dd_spec [DecidableEq α] (h : STO lt) : ∀ (l : List α), l.Pairwise (fun a b => lt b a = false) → SS lt (dd l) ∧ (∀ y, y ∈ dd l ↔ y ∈ l)
  | [], _ => ⟨by simp [dd], by simp [dd]⟩
  | [x], _ => ⟨by simp [dd], by simp [dd]⟩
  | x :: y :: l, hs => by
    obtain ⟨h1, h2⟩ := List.pairwise_cons.1 hs
    obtain ⟨h3, h4⟩ := dd_spec h (y :: l) h2
    simp only [dd]
    split
    · rename_i e
      subst e
      exact ⟨h3, fun z => by rw [h4]; simp⟩
    · rename_i e
      refine ⟨List.pairwise_cons.2 ⟨fun z hz => ?_, h3⟩, fun z => by simp only [List.mem_cons, h4]⟩
      have hz' := (h4 z).1 hz
      have hxy : lt x y = true := by
        cases hh : lt x y with
        | true => rfl
        | false => exact (e (h.tri x y hh (h1 y (by simp)))).elim
      rcases List.mem_cons.1 hz' with rfl | hz'
      · exact hxy
      · have hyz := (List.pairwise_cons.1 h2).1 z hz'
        cases hh : lt x z with
        | true => rfl
        | false =>
          have := h.tri x z hh (h1 z (by simp [hz']))
          subst this
          rw [hyz] at hxy; cases hxy
end

/-! The orders. -/
def ltI (a b : Int) : Bool := decide (a < b)
theorem stoI : STO ltI := ⟨fun a => by simp [ltI], fun a b c h1 h2 => by simp [ltI] at *; omega, fun a b h1 h2 => by simp [ltI] at *; omega⟩
theorem stoL : STO lessI := by
  have irr : ∀ a, lessI a a = false := fun a => by
    induction a with
    | nil => rfl
    | cons x a ih => simp [lessI, ih]
  have tra : ∀ a b c, lessI a b = true → lessI b c = true → lessI a c = true := fun a => by
    induction a with
    | nil => intro b c h1 h2; cases b <;> cases c <;> simp [lessI] at *
    | cons x a ih =>
      intro b c h1 h2
      cases b with
      | nil => simp [lessI] at h1
      | cons y b =>
        cases c with
        | nil => simp [lessI] at h2
        | cons z c =>
          simp only [lessI] at *
          by_cases hxy : x = y
          · subst hxy
            by_cases hyz : x = z
            · subst hyz; simp at *; exact ih b c h1 h2
            · simp [hyz] at *; exact h2
          · by_cases hyz : y = z
            · subst hyz; simp [hxy] at *; exact h1
            · simp [hxy, hyz] at h1 h2
              have : x ≠ z := by omega
              simp [this]; omega
  have tri : ∀ a b, lessI a b = false → lessI b a = false → a = b := fun a => by
    induction a with
    | nil => intro b h1 h2; cases b <;> simp [lessI] at *
    | cons x a ih =>
      intro b h1 h2
      cases b with
      | nil => simp [lessI] at h2
      | cons y b =>
        simp only [lessI] at h1 h2
        by_cases hxy : x = y
        · subst hxy; simp at h1 h2; rw [ih b h1 h2]
        · simp [hxy, Ne.symm hxy] at h1 h2; omega
  exact ⟨irr, tra, tri⟩
theorem stoA : STO lessA := by
  refine ⟨fun a => by simp [lessA, stoL.irr], fun a b c h1 h2 => ?_, fun a b h1 h2 => ?_⟩
  · simp only [lessA, Bool.or_eq_true, decide_eq_true_eq, Bool.and_eq_true, beq_iff_eq] at *
    rcases h1 with h1 | ⟨h1, h1'⟩ <;> rcases h2 with h2 | ⟨h2, h2'⟩
    · left; omega
    · left; omega
    · left; omega
    · right; exact ⟨by omega, stoL.tra _ _ _ h1' h2'⟩
  · simp only [lessA, Bool.or_eq_false_iff, decide_eq_false_iff_not, Bool.and_eq_false_iff, beq_eq_false_iff_ne] at h1 h2
    have e : a.1 = b.1 := by omega
    refine Prod.ext e (stoL.tri _ _ ?_ ?_)
    · rcases h1.2 with h | h
      · exact (h e).elim
      · exact h
    · rcases h2.2 with h | h
      · exact (h e.symm).elim
      · exact h
theorem cmpL_less : ∀ (xs ys : List Int), lessI xs ys = decide (cmpL xs ys < 0)
  | [], [] => rfl
  | [], _ :: _ => rfl
  | _ :: _, [] => rfl
  | x :: xs, y :: ys => by
    simp only [lessI, cmpL]
    by_cases h : x = y
    · subst h
      have : cmpI x x = 0 := cmpI_zero.2 rfl
      simp [this, cmpL_less xs ys]
    · have : cmpI x y ≠ 0 := fun e => h (cmpI_zero.1 e)
      simp only [ne_eq, h, not_false_eq_true, if_true, this]
      unfold cmpI
      split
      · simp; omega
      · split
        · simp; omega
        · simp; omega
theorem ordA_less (a b : At) : lessA a b = decide (ordA a b < 0) := by
  unfold lessA ordA
  by_cases h : a.1 = b.1
  · have : cmpI a.1 b.1 = 0 := cmpI_zero.2 h
    rw [if_neg (by simp [this])]
    simp [h, cmpL_less]
  · have h0 : cmpI a.1 b.1 ≠ 0 := fun e => h (cmpI_zero.1 e)
    rw [if_pos h0]
    have : (a.1 == b.1) = false := by simpa using h
    rw [this]
    unfold cmpI
    split
    · simp; omega
    · split
      · simp; omega
      · simp; omega
theorem put_eq : put = insG lessA (0, []) := by
  funext l x
  have e : ∀ n, putK l x n = posG lessA (0, []) l x n := fun n => by
    induction n with
    | zero => rfl
    | succ n ih => simp only [putK, posG, ih]
  simp only [put, insG, e]
theorem insI_eq : ∀ (l : List Int) (x : Int), SS ltI l → insI l x = insG ltI 0 l x := by
  intro l x hs
  have e : ∀ n, insK l x n = posG ltI 0 l x n := fun n => by
    induction n with
    | zero => rfl
    | succ n ih => simp only [insK, posG, ih, ltI, decide_eq_true_eq]
  have hat := posG_at (lt := ltI) 0 l x l.length
  simp only [insI, insG, e]
  generalize posG ltI 0 l x l.length = k at *
  by_cases h0 : k = 0
  · subst h0; simp
  · rcases hat with hat | hat
    · exact (h0 hat).elim
    · simp only [ltI, decide_eq_false_iff_not] at hat
      by_cases h1 : (l[k - 1]?).getD 0 = x
      · rw [if_neg (by simp [h0, h1]), if_pos ⟨by omega, by simp [ltI, h1]⟩]
      · rw [if_pos (.inr h1), if_neg]
        simp only [ltI, decide_eq_false_iff_not, not_and, Classical.not_not]
        intro _; omega
theorem ints_spec (l : List Int) : SS ltI (ints l) ∧ ∀ y, y ∈ ints l ↔ y ∈ l := by
  have : ∀ (xs l : List Int), SS ltI l → xs.foldl insI l = xs.foldl (insG ltI 0) l := fun xs => by
    induction xs with
    | nil => intro l _; rfl
    | cons x xs ih =>
      intro l hs
      rw [List.foldl_cons, List.foldl_cons, insI_eq l x hs]
      exact ih _ (insG_spec stoI 0 hs x).1
  unfold ints
  rw [this l [] List.Pairwise.nil]
  obtain ⟨h1, h2⟩ := insGs_spec stoI 0 l [] List.Pairwise.nil
  exact ⟨h1, fun y => by rw [h2]; simp⟩

/-- Places in order, each once. -/
def onceR (l : List At) : List At := l.foldl put []
theorem onceR_spec (l : List At) : SS lessA (onceR l) ∧ ∀ y, y ∈ onceR l ↔ y ∈ l := by
  unfold onceR
  rw [put_eq]
  obtain ⟨h1, h2⟩ := insGs_spec stoA (0, []) l [] List.Pairwise.nil
  exact ⟨h1, fun y => by rw [h2]; simp⟩
theorem dd_once {l s : List At} (hp : s.Perm l) (hs : s.Pairwise (fun a b => lessA b a = false)) : dd s = onceR l := by
  obtain ⟨h1, h2⟩ := dd_spec stoA s hs
  obtain ⟨h3, h4⟩ := onceR_spec l
  exact SS.ext stoA h1 h3 fun x => by rw [h2, h4, hp.mem_iff]
end Go.Proofs.Ytcpgcenlgihmnaa.Abs
/- Maps of pairs; runs.back. -/
set_option linter.unusedVariables false
set_option linter.unusedSimpArgs false
set_option maxRecDepth 100000
set_option maxHeartbeats 1000000
namespace Go.Proofs.Ytcpgcenlgihmnaa.Abs
open Go

theorem keyOk3 : KeyOk Try.prog 3 [.int .i64] := KeyOk.one _ (by kernel_rfl) (by kernel_rfl)
theorem keyOk81 : KeyOk Try.prog 81 [.int .i64, .int .i64] := KeyOk.struct (fs := Try.prog.fieldsOf 81) _ (by kernel_rfl) (by kernel_rfl) (by decide) (by kernel_rfl) (by kernel_rfl)

theorem ATake_intro {P : Program} {kt : Nat} {m : List (List AV × Option (List (List AV)))} {kc : List AV} {K : List (List AV) → List (List AV × Option (List (List AV))) → Prop} (sg : List KD) (xs : List (List AV)) (m1 : List (List AV × Option (List (List AV)))) (hk : KeyOk P kt sg) (h1 : kfit sg kc = true) (h2 : ∀ x ∈ m, kfit sg x.1 = true) (h3 : TakeR m kc xs m1) (k : K xs m1) : ATake P kt m kc K := by
  unfold ATake; exact ⟨sg, xs, m1, hk, h1, h2, h3, k⟩
theorem APut_intro {P : Program} {kt : Nat} {m : List (List AV × Option (List (List AV)))} {kc : List AV} {K : List (List AV × Option (List (List AV))) → Prop} (sg : List KD) (m2 : List (List AV × Option (List (List AV)))) (hk : KeyOk P kt sg) (h1 : kfit sg kc = true) (h2 : ∀ x ∈ m, kfit sg x.1 = true) (h3 : PutR m kc m2) (k : K m2) : APut P kt m kc K := by
  unfold APut; exact ⟨sg, m2, hk, h1, h2, h3, k⟩
theorem AFrz_intro {es : Nat} {m : List (List AV × Option (List (List AV)))} {m' : List (List AV × List AV)} {K : Prop} (h : ∃ m1, frz es m = some m1 ∧ m1.Perm m') (k : K) : AFrz es m m' K := by unfold AFrz; exact ⟨h, k⟩

theorem tkm {α β : Type} (f : α → β) (l : List α) : (l.map f).take l.length = l.map f := List.take_of_length_le (by simp)

/-! Sets of pairs as maps. -/
abbrev P2 := Int × Int
abbrev pk (p : P2) : List AV := [.int .i64 p.1, .int .i64 p.2]
abbrev pe (p : P2) : List AV × List AV := (pk p, [.int .i64 1])
abbrev mpP (L : List P2) : List (List AV × List AV) := L.map pe
theorem pk_inj {p q : P2} (h : pk p = pk q) : p = q := by simp [pk] at h; exact Prod.ext h.1 h.2
theorem mpP_fit (L : List P2) : ∀ x ∈ mpP L, kfit [.int .i64, .int .i64] x.1 = true := by
  intro x hx
  obtain ⟨p, _, rfl⟩ := List.mem_map.1 hx
  rfl
def insP (L : List P2) (q : P2) : List P2 := if q ∈ L then L else q :: L
theorem insP_mem (L : List P2) (q x : P2) : x ∈ insP L q ↔ x = q ∨ x ∈ L := by
  unfold insP
  split
  · rename_i h; exact ⟨.inr, fun hx => hx.elim (fun e => e ▸ h) id⟩
  · simp
theorem insP_nodup {L : List P2} (h : L.Nodup) (q : P2) : (insP L q).Nodup := by
  unfold insP
  split
  · exact h
  · rename_i hn; exact List.nodup_cons.2 ⟨hn, h⟩
theorem updP (L : List P2) (q : P2) : UpdR (mpP L) (pk q) [.int .i64 1] (mpP (insP L q)) := by
  unfold insP
  split
  · rename_i h
    have hp := (List.perm_cons_erase h).map pe
    exact ⟨mpP (L.erase q), .inl ⟨_, hp⟩, hp⟩
  · rename_i h
    refine ⟨mpP L, .inr ⟨rfl, fun x hx e => ?_⟩, .refl _⟩
    obtain ⟨p, hp, rfl⟩ := List.mem_map.1 hx
    exact h (pk_inj e ▸ hp)
theorem perm_map_inv {α β : Type} [DecidableEq α] {f : α → β} {R : List α} {x : β} {rem : List β} (h : (R.map f).Perm (x :: rem)) : ∃ p R', R.Perm (p :: R') ∧ x = f p ∧ rem.Perm (R'.map f) := by
  have hx : x ∈ R.map f := h.mem_iff.2 (by simp)
  obtain ⟨p, hp, rfl⟩ := List.mem_map.1 hx
  refine ⟨p, R.erase p, List.perm_cons_erase hp, rfl, ?_⟩
  have := (List.perm_cons_erase hp).map f
  exact (h.symm.trans this).cons_inv
/-- Each once, in whatever order. -/
def nubP : List P2 → List P2
  | [] => []
  | p :: l => insP (nubP l) p
theorem nubP_spec : ∀ (l : List P2), (nubP l).Nodup ∧ ∀ x, x ∈ nubP l ↔ x ∈ l
  | [] => ⟨List.nodup_nil, by simp [nubP]⟩
  | p :: l => by
    obtain ⟨h1, h2⟩ := nubP_spec l
    exact ⟨insP_nodup h1 p, fun x => by rw [nubP, insP_mem, h2]; simp⟩
theorem perm_nub {L l : List P2} (hn : L.Nodup) (hm : ∀ x, x ∈ L ↔ x ∈ l) : L.Perm (nubP l) := by
  obtain ⟨h1, h2⟩ := nubP_spec l
  exact (List.perm_ext_iff_of_nodup hn h1).2 fun x => by rw [hm, h2]

/-! Rows by a number. -/
abbrev GR := List (Int × List Int)
abbrev eM (G : GR) : List (List AV × Option (List (List AV))) := G.map fun g => ([.int .i64 g.1], some (g.2.map ei))
abbrev mE (G : GR) : List (List AV × List AV) := G.map fun g => ([.int .i64 g.1], [il g.2])
theorem eM_fit (G : GR) : ∀ x ∈ eM G, kfit [.int .i64] x.1 = true := by
  intro x hx
  obtain ⟨g, _, rfl⟩ := List.mem_map.1 hx
  rfl
theorem mE_fit (G : GR) : ∀ x ∈ mE G, kfit [.int .i64] x.1 = true := by
  intro x hx
  obtain ⟨g, _, rfl⟩ := List.mem_map.1 hx
  rfl
theorem frz_eM : ∀ G : GR, frz 1 (eM G) = some (mE G)
  | [] => rfl
  | g :: G => by simp only [List.map_cons, frz, frz_eM G, Option.map_some]
/-- The groups of some pairs. -/
def Grp (G : GR) (V : List P2) : Prop := (G.map (·.1)).Nodup ∧ (∀ x y, (∃ ys, (x, ys) ∈ G ∧ y ∈ ys) ↔ (x, y) ∈ V) ∧ ∀ g ∈ G, g.2.length ≤ V.length
theorem Grp.nil : Grp [] [] := ⟨by simp, by simp, by simp⟩
theorem Grp.add {G : GR} {V : List P2} (h : Grp G V) (p : P2) : (∃ ys G2, G.Perm ((p.1, ys) :: G2) ∧ ys.length ≤ V.length ∧ Grp ((p.1, ys ++ [p.2]) :: G2) (p :: V)) ∨ ((∀ g ∈ G, g.1 ≠ p.1) ∧ Grp ((p.1, [p.2]) :: G) (p :: V)) := by
  obtain ⟨h1, h2, h3⟩ := h
  by_cases hx : ∃ g ∈ G, g.1 = p.1
  · obtain ⟨⟨a, ys⟩, hg, ha⟩ := hx
    have ha : a = p.1 := ha
    subst ha
    have hp := List.perm_cons_erase hg
    refine .inl ⟨ys, G.erase (p.1, ys), hp, h3 _ hg, ?_, fun x y => ?_, fun g hg' => ?_⟩
    · have := (hp.map (·.1)).nodup_iff.1 h1
      simpa using this
    · have hk := (hp.map (·.1)).nodup_iff.1 h1
      constructor
      · rintro ⟨zs, hz, hy⟩
        rcases List.mem_cons.1 hz with e | hz
        · cases e
          rcases List.mem_append.1 hy with hy | hy
          · exact List.mem_cons_of_mem _ ((h2 p.1 y).1 ⟨ys, hg, hy⟩)
          · simp at hy; subst hy; simp
        · exact List.mem_cons_of_mem _ ((h2 x y).1 ⟨zs, hp.mem_iff.2 (List.mem_cons_of_mem _ hz), hy⟩)
      · intro hxy
        rcases List.mem_cons.1 hxy with e | hxy
        · subst e; exact ⟨ys ++ [y], by simp, by simp⟩
        · obtain ⟨zs, hz, hy⟩ := (h2 x y).2 hxy
          rcases List.mem_cons.1 (hp.mem_iff.1 hz) with e | hz
          · cases e; exact ⟨ys ++ [p.2], by simp, by simp [hy]⟩
          · exact ⟨zs, by simp [hz], hy⟩
    · rcases List.mem_cons.1 hg' with e | hg'
      · subst e; have := h3 _ hg; simp at *; omega
      · have := h3 g (hp.mem_iff.2 (List.mem_cons_of_mem _ hg')); simp; omega
  · have hn : ∀ g ∈ G, g.1 ≠ p.1 := fun g hg e => hx ⟨g, hg, e⟩
    refine .inr ⟨hn, ?_, fun x y => ?_, fun g hg' => ?_⟩
    · rw [List.map_cons, List.nodup_cons]
      refine ⟨fun hm => ?_, h1⟩
      obtain ⟨g, hg, e⟩ := List.mem_map.1 hm
      exact hn g hg e
    · constructor
      · rintro ⟨zs, hz, hy⟩
        rcases List.mem_cons.1 hz with e | hz
        · cases e; simp at hy; subst hy; simp
        · exact List.mem_cons_of_mem _ ((h2 x y).1 ⟨zs, hz, hy⟩)
      · intro hxy
        rcases List.mem_cons.1 hxy with e | hxy
        · subst e; exact ⟨[y], by simp, by simp⟩
        · obtain ⟨zs, hz, hy⟩ := (h2 x y).2 hxy
          exact ⟨zs, by simp [hz], hy⟩
    · rcases List.mem_cons.1 hg' with e | hg'
      · subst e; simp
      · have := h3 g hg'; simp; omega

theorem mem_snoc {α : Type} {A B : List α} {x y : α} : (x = y ∨ x ∈ A ++ B) ↔ x ∈ A ++ (B ++ [y]) := by simp [or_comm, or_left_comm]
theorem nodup_fun {α β : Type} : ∀ {l : List (α × β)} {x : α} {y z : β}, (l.map (·.1)).Nodup → (x, y) ∈ l → (x, z) ∈ l → y = z
  | [], _, _, _, _, h, _ => by cases h
  | g :: l, x, y, z, hn, h1, h2 => by
    rw [List.map_cons, List.nodup_cons] at hn
    rcases List.mem_cons.1 h1 with e1 | k1
    · rcases List.mem_cons.1 h2 with e | k2
      · cases e; cases e1; rfl
      · subst e1; exact (hn.1 (List.mem_map.2 ⟨_, k2, rfl⟩)).elim
    · rcases List.mem_cons.1 h2 with e2 | k2
      · subst e2; exact (hn.1 (List.mem_map.2 ⟨_, k1, rfl⟩)).elim
      · exact nodup_fun hn.2 k1 k2

/-! runs.back. -/
def backC (a : Auto) (N : List P2) (k : Int) (p : P2) (o : R4) (c : R4) : List P2 := if c.2.1 = k ∧ c.2.2.1 = o.2.2.2 ∧ (o.2.2.1, c.1) ∈ N then [(p.1, c.2.2.2)] else []
def backO (a : Auto) (N : List P2) (by' k : Int) (p : P2) (o : R4) : List P2 := if o.1 = p.2 ∧ o.2.1 = by' then a.closes.flatMap (backC a N k p o) else []
def backP (a : Auto) (N : List P2) (by' k : Int) (p : P2) : List P2 := a.opens.flatMap (backO a N by' k p)
def backL (a : Auto) (U N : List P2) (by' k : Int) : List P2 := U.flatMap (backP a N by' k)
abbrev lvL (L : List P2) (b : Int) : LV := .ag [.pv (.mp (mpP L)), .pv (.int .i64 b)]

theorem c65 (a : Auto) (U N : List P2) (bu bn k : Int) (hN : N.length ≤ 1000000) (ho : a.opens.length ≤ 1000) (hc : a.closes.length ≤ 1000) :
    CallsTo Try.prog 65 [autoL a, lvL U bu, lvL N bn, .pv (.int .i64 k)] [] (lvL (nubP (backL a U N bn k)) bu) [] := by
  refine callsTo_of (ann := []) Try.func65 rfl (by kernel_rfl) (by kernel_rfl) mixed tab_ok (Nat.le_of_ble_eq_true rfl) rfl ?_
  conv => whnf
  refine ALoop_intro (fun (⟨G, V, R⟩ : GR × List P2 × List P2) => Grp G V ∧ (R ++ V).Perm N) (fun _ => [(3, .pv (.int .i64 k)), (4, .bx 4 0), (5, .bx 5 0), (6, .bx 6 0), (8, .bx 8 0), (9, .bx 9 0), (10, .mr 21), (24, .it 24)]) (fun ⟨G, V, R⟩ => [(4, .box (autoC a)), (5, .box [.pv (.mp (mpP U)), .pv (.int .i64 bu)]), (6, .box [.pv (.mp (mpP N)), .pv (.int .i64 bn)]), (8, .box [.un, .un]), (9, .box [.mr 17, .pv (.int .i64 bu)]), (17, .mp []), (21, .mo 1 (eM G)), (24, .it (mpP R) none)]) (fun i => i.2.2.length) ([], [], N) [] [] [] ⟨.nil, by simp⟩ ?_ ?_
  · repeat ((conv => whnf); first | refine AEq_intro (by first | with_reducible rfl | rfl) ?_ | refine APerm_intro (.refl _) ?_)
    trivial
  · rintro ⟨G, V, R⟩ ⟨hG, hV⟩
    conv => whnf
    refine ANext_intro (fun x rem' hx => ?_) (fun hR => ?_)
    · obtain ⟨p, R', hp, rfl, hrem⟩ := perm_map_inv hx
      repeat ((conv => whnf); refine ASpl_t ?_)
      conv => whnf
      have hRV : (R' ++ (p :: V)).Perm N := by
        refine .trans ?_ hV
        refine List.Perm.trans List.perm_middle ?_
        exact (hp.append_right V).symm
      have hVl : V.length ≤ N.length := by have := hV.length_eq; simp at this; omega
      rcases hG.add p with ⟨ys, G2, hGp, hys, hg2⟩ | ⟨hno, hg2⟩
      · refine ATake_intro [.int .i64] (ys.map ei) (([.int .i64 p.1], none) :: eM G2) keyOk3 rfl (eM_fit G) (.inl ⟨eM G2, ?_, rfl⟩) ?_
        · exact hGp.map _
        conv => whnf
        refine AFits_intro (by simp <;> omega) ?_
        conv => whnf
        refine AEq_intro (by simp) ?_
        conv => whnf
        refine APut_intro [.int .i64] (eM G2) keyOk3 rfl ?_ (.inl ⟨none, .refl _⟩) ?_
        · intro x hx
          rcases List.mem_cons.1 hx with rfl | hx
          · rfl
          · exact eM_fit G2 x hx
        conv => whnf
        refine AChk_intro (by kernel_rfl) ?_
        conv => whnf
        refine ABack_intro (((p.1, ys ++ [p.2]) :: G2, p :: V, R')) [] [] [] ?_ ?_ ?_
        · exact ⟨hg2, hRV⟩
        · have := hp.length_eq; simp at this; show R'.length < R.length; omega
        · repeat ((conv => whnf); first | refine AEq_intro (by first | with_reducible rfl | ((simp [tkm]); done) | rfl) ?_ | refine APerm_intro (by first | exact .refl _ | assumption | ((simp [tkm]); done)) ?_)
          trivial
      · refine ATake_intro [.int .i64] [] (eM G) keyOk3 rfl (eM_fit G) (.inr ⟨rfl, rfl, ?_⟩) ?_
        · intro x hx e
          obtain ⟨g, hg, rfl⟩ := List.mem_map.1 hx
          simp at e
          exact hno g hg e
        conv => whnf
        refine AFits_intro (by simp <;> omega) ?_
        conv => whnf
        conv => whnf
        refine AEq_intro (by simp) ?_
        conv => whnf
        refine APut_intro [.int .i64] (eM G) keyOk3 rfl (eM_fit G) (.inr ⟨rfl, ?_⟩) ?_
        · intro x hx e
          obtain ⟨g, hg, rfl⟩ := List.mem_map.1 hx
          simp at e
          exact hno g hg e
        conv => whnf
        refine AChk_intro (by kernel_rfl) ?_
        conv => whnf
        refine ABack_intro (((p.1, [p.2]) :: G, p :: V, R')) [] [] [] ?_ ?_ ?_
        · exact ⟨hg2, hRV⟩
        · have := hp.length_eq; simp at this; show R'.length < R.length; omega
        · repeat ((conv => whnf); first | refine AEq_intro (by first | with_reducible rfl | (simp; done) | rfl) ?_ | refine APerm_intro (by first | exact .refl _ | assumption | (simp; done)) ?_)
          trivial
    · obtain rfl : R = [] := by cases R <;> simp_all
      repeat ((conv => whnf); refine ASpl_f ?_)
      conv => whnf
      refine ALoop_intro (fun (⟨L, D, R⟩ : List P2 × List P2 × List P2) => (R ++ D).Perm U ∧ L.Nodup ∧ ∀ x, x ∈ L ↔ x ∈ D.flatMap (backP a N bn k)) (fun _ => [(3, .pv (.int .i64 k)), (4, .bx 4 0), (5, .bx 5 0), (6, .bx 6 0), (8, .bx 8 0), (9, .bx 9 0), (10, .pv (.mp (mE G))), (42, .it 42)]) (fun ⟨L, D, R⟩ => [(4, .box (autoC a)), (5, .box [.pv (.mp (mpP U)), .pv (.int .i64 bu)]), (6, .box [.pv (.mp (mpP N)), .pv (.int .i64 bn)]), (8, .box [.un, .un]), (9, .box [.mr 17, .pv (.int .i64 bu)]), (17, .mp (mpP L)), (42, .it (mpP R) none)]) (fun i => i.2.2.length) ([], [], U) [] [21] [] ⟨by simp, by simp, by simp⟩ ?_ ?_
      · repeat ((conv => whnf); first | refine AEq_intro (by first | with_reducible rfl | rfl) ?_ | refine APerm_intro (by first | exact .refl _ | assumption) ?_ | refine AFrz_intro ⟨_, frz_eM G, .refl _⟩ ?_)
        trivial
      · rintro ⟨L, D, R⟩ ⟨hU, hL, hLm⟩
        conv => whnf
        refine ANext_intro (fun x rem' hx => ?_) (fun hR => ?_)
        · obtain ⟨p, R', hp, rfl, hrem⟩ := perm_map_inv hx
          conv => whnf
          repeat ((conv => whnf); refine ASpl_t ?_)
          conv => whnf
          refine ALoop_intro (fun (⟨L, n⟩ : List P2 × Nat) => n ≤ a.opens.length ∧ L.Nodup ∧ ∀ x, x ∈ L ↔ x ∈ D.flatMap (backP a N bn k) ++ (a.opens.take n).flatMap (backO a N bn k p)) (fun ⟨L, n⟩ => [(3, .pv (.int .i64 k)), (4, .bx 4 0), (5, .bx 5 0), (6, .bx 6 0), (8, .bx 8 0), (9, .bx 9 0), (10, .pv (.mp (mE G))), (12, .bx 12 0), (42, .it 42), (48, .pv (l4 a.opens)), (49, .pv (.int .i64 (a.opens.length : Int))), (50, .pv (.int .i64 n))]) (fun ⟨L, n⟩ => [(4, .box (autoC a)), (5, .box [.pv (.mp (mpP U)), .pv (.int .i64 bu)]), (6, .box [.pv (.mp (mpP N)), .pv (.int .i64 bn)]), (8, .box [.un, .un]), (9, .box [.mr 17, .pv (.int .i64 bu)]), (12, .box [.pv (.int .i64 p.1), .pv (.int .i64 p.2)]), (17, .mp (mpP L)), (42, .it (mpP R') none)]) (fun i => a.opens.length - i.2) (L, 0) [] [] [] ⟨by simp, hL, by simpa using hLm⟩ ?_ ?_
          · repeat ((conv => whnf); first | refine AEq_intro (by first | with_reducible rfl | (simp; done) | rfl) ?_ | refine APerm_intro (by first | exact .refl _ | assumption | (simp; done)) ?_)
            trivial
          · rintro ⟨L, n⟩ ⟨hn, hL, hLm⟩
            conv => whnf
            refine ASpl_intro (fun h1 => ?_) (fun h1 => ?_)
            · simp at h1
              conv => whnf
              conv => whnf
              refine AIdx_map n rfl (by omega) ?_
              have hs : (a.opens.take (n + 1)).flatMap (backO a N bn k p) = (a.opens.take n).flatMap (backO a N bn k p) ++ backO a N bn k p a.opens[n] := by rw [← List.take_append_getElem h1, List.flatMap_append]; simp
              have skip : backO a N bn k p a.opens[n] = [] → ∀ x, x ∈ L ↔ x ∈ D.flatMap (backP a N bn k) ++ (a.opens.take (n + 1)).flatMap (backO a N bn k p) := fun e => by rw [hs, e, List.append_nil]; exact hLm
              generalize a.opens[n] = o at *
              conv => whnf
              refine ASpl_intro (fun h2 => ?_) (fun h2 => ?_) <;> rw [h2]
              · repeat ((conv => whnf); refine ASpl_t ?_)
                simp at h2
                conv => whnf
                conv => whnf
                refine ABack_intro (L, n + 1) [] [] [] ?_ ?_ ?_
                · exact ⟨by show n + 1 ≤ _; omega, hL, skip (by simp [backO, h2])⟩
                · show _ - (n + 1) < _ - n; omega
                · repeat ((conv => whnf); first | refine AEq_intro (by first | with_reducible rfl | ((exact wrS n (by omega)); done) | rfl) ?_ | refine APerm_intro (by first | exact .refl _ | assumption | ((exact wrS n (by omega)); done)) ?_)
                  trivial
              · repeat ((conv => whnf); refine ASpl_f ?_)
                simp at h2
                conv => whnf
                refine ASpl_intro (fun h3 => ?_) (fun h3 => ?_) <;> rw [h3]
                · repeat ((conv => whnf); refine ASpl_t ?_)
                  simp at h3
                  conv => whnf
                  conv => whnf
                  refine ABack_intro (L, n + 1) [] [] [] ?_ ?_ ?_
                  · exact ⟨by show n + 1 ≤ _; omega, hL, skip (by simp [backO, h3])⟩
                  · show _ - (n + 1) < _ - n; omega
                  · repeat ((conv => whnf); first | refine AEq_intro (by first | with_reducible rfl | ((exact wrS n (by omega)); done) | rfl) ?_ | refine APerm_intro (by first | exact .refl _ | assumption | ((exact wrS n (by omega)); done)) ?_)
                    trivial
                · repeat ((conv => whnf); refine ASpl_f ?_)
                  simp at h3
                  conv => whnf
                  refine ALoop_intro (fun (⟨L, m⟩ : List P2 × Nat) => m ≤ a.closes.length ∧ L.Nodup ∧ ∀ x, x ∈ L ↔ x ∈ D.flatMap (backP a N bn k) ++ (a.opens.take n).flatMap (backO a N bn k p) ++ (a.closes.take m).flatMap (backC a N k p o)) (fun ⟨L, m⟩ => [(3, .pv (.int .i64 k)), (4, .bx 4 0), (5, .bx 5 0), (6, .bx 6 0), (8, .bx 8 0), (9, .bx 9 0), (10, .pv (.mp (mE G))), (12, .bx 12 0), (14, .bx 14 0), (42, .it 42), (48, .pv (l4 a.opens)), (49, .pv (.int .i64 (a.opens.length : Int))), (50, .pv (.int .i64 n)), (67, .pv (l4 a.closes)), (68, .pv (.int .i64 (a.closes.length : Int))), (69, .pv (.int .i64 m))]) (fun ⟨L, m⟩ => [(4, .box (autoC a)), (5, .box [.pv (.mp (mpP U)), .pv (.int .i64 bu)]), (6, .box [.pv (.mp (mpP N)), .pv (.int .i64 bn)]), (8, .box [.un, .un]), (9, .box [.mr 17, .pv (.int .i64 bu)]), (12, .box [.pv (.int .i64 p.1), .pv (.int .i64 p.2)]), (14, .box [.pv (.int .i64 o.1), .pv (.int .i64 o.2.1), .pv (.int .i64 o.2.2.1), .pv (.int .i64 o.2.2.2)]), (17, .mp (mpP L)), (42, .it (mpP R') none)]) (fun i => a.closes.length - i.2) (L, 0) [] [] [] (by exact ⟨by simp, hL, by simpa using hLm⟩) ?_ ?_
                  · repeat ((conv => whnf); first | refine AEq_intro (by first | with_reducible rfl | (simp; done) | rfl) ?_ | refine APerm_intro (by first | exact .refl _ | assumption | (simp; done)) ?_)
                    trivial
                  · rintro ⟨L, m⟩ ⟨hm, hL, hLm⟩
                    conv => whnf
                    refine ASpl_intro (fun h4 => ?_) (fun h4 => ?_)
                    · simp at h4
                      conv => whnf
                      conv => whnf
                      refine AIdx_map m rfl (by omega) ?_
                      have hs2 : (a.closes.take (m + 1)).flatMap (backC a N k p o) = (a.closes.take m).flatMap (backC a N k p o) ++ backC a N k p o a.closes[m] := by rw [← List.take_append_getElem h4, List.flatMap_append]; simp
                      have skip2 : backC a N k p o a.closes[m] = [] → ∀ x, x ∈ L ↔ x ∈ D.flatMap (backP a N bn k) ++ (a.opens.take n).flatMap (backO a N bn k p) ++ (a.closes.take (m + 1)).flatMap (backC a N k p o) := fun e => by rw [hs2, e, List.append_nil]; exact hLm
                      generalize a.closes[m] = c at *
                      have hGV : ∀ ys, (o.2.2.1, ys) ∈ G → (c.1 ∈ ys ↔ (o.2.2.1, c.1) ∈ N) := fun ys hys => by
                        rw [← (show V.Perm N from hV).mem_iff, ← hG.2.1]
                        refine ⟨fun h => ⟨ys, hys, h⟩, fun ⟨zs, hz, h⟩ => ?_⟩
                        have := nodup_fun hG.1 hys hz
                        subst this; exact h
                      conv => whnf
                      refine ASpl_intro (fun h5 => ?_) (fun h5 => ?_) <;> rw [h5]
                      · repeat ((conv => whnf); refine ASpl_t ?_)
                        simp at h5
                        conv => whnf
                        refine ASpl_intro (fun h6 => ?_) (fun h6 => ?_) <;> rw [h6]
                        · repeat ((conv => whnf); refine ASpl_t ?_)
                          simp at h6
                          conv => whnf
                          rcases Classical.em (∃ ys, (o.2.2.1, ys) ∈ G) with ⟨ys, hys⟩ | hno
                          · refine ALook_intro [.int .i64] (some [il ys]) keyOk3 rfl (mE_fit G) (.inr ⟨_, rfl, List.mem_map_of_mem hys⟩) ?_
                            have hyl : ys.length ≤ 1000000 := by have := hG.2.2 _ hys; have := (show V.Perm N from hV).length_eq; simp at *; omega
                            repeat ((conv => whnf); refine ASpl_t ?_)
                            conv => whnf
                            refine ACall_pv (c66 ys c.1 hyl) rfl ?_
                            conv => whnf
                            rcases Classical.em (c.1 ∈ ys) with hmem | hmem
                            · rw [decide_eq_true hmem]
                              repeat ((conv => whnf); first | refine ASpl_t ?_ | refine ASpl_f ?_)
                              conv => whnf
                              refine AUpd_intro [.int .i64, .int .i64] (mpP (insP L (p.1, c.2.2.2))) keyOk81 rfl (mpP_fit L) (updP L (p.1, c.2.2.2)) ?_
                              conv => whnf
                              conv => whnf
                              refine ABack_intro (insP L (p.1, c.2.2.2), m + 1) [] [] [] ?_ ?_ ?_
                              · refine ⟨by show m + 1 ≤ _; omega, insP_nodup hL _, fun x => ?_⟩
                                rw [insP_mem, hLm, hs2]
                                have hb : backC a N k p o c = [(p.1, c.2.2.2)] := by simp only [backC]; rw [if_pos ⟨h5, h6, (hGV ys hys).1 hmem⟩]
                                rw [hb]; exact mem_snoc
                              · show _ - (m + 1) < _ - m; omega
                              · repeat ((conv => whnf); first | refine AEq_intro (by first | with_reducible rfl | ((exact wrS m (by omega)); done) | rfl) ?_ | refine APerm_intro (by first | exact .refl _ | assumption | ((exact wrS m (by omega)); done)) ?_)
                                trivial
                            · rw [decide_eq_false hmem]
                              repeat ((conv => whnf); first | refine ASpl_t ?_ | refine ASpl_f ?_)
                              conv => whnf
                              conv => whnf
                              refine ABack_intro (L, m + 1) [] [] [] ?_ ?_ ?_
                              · exact ⟨by show m + 1 ≤ _; omega, hL, skip2 (by simp only [backC]; rw [if_neg (fun h => hmem ((hGV ys hys).2 h.2.2))])⟩
                              · show _ - (m + 1) < _ - m; omega
                              · repeat ((conv => whnf); first | refine AEq_intro (by first | with_reducible rfl | ((exact wrS m (by omega)); done) | rfl) ?_ | refine APerm_intro (by first | exact .refl _ | assumption | ((exact wrS m (by omega)); done)) ?_)
                                trivial
                          · refine ALook_intro [.int .i64] none keyOk3 rfl (mE_fit G) (.inl ⟨rfl, fun x hx e => ?_⟩) ?_
                            · obtain ⟨g, hg, rfl⟩ := List.mem_map.1 hx
                              simp at e
                              exact hno ⟨g.2, e ▸ hg⟩
                            repeat ((conv => whnf); first | refine ASpl_t ?_ | refine ASpl_f ?_)
                            conv => whnf
                            refine ACall_pv ((c66 [] c.1 (by simp)).nl (.nl 1 (.same _ .nil))) rfl ?_
                            rw [decide_eq_false (show c.1 ∉ ([] : List Int) by simp)]
                            repeat ((conv => whnf); first | refine ASpl_t ?_ | refine ASpl_f ?_)
                            conv => whnf
                            conv => whnf
                            refine ABack_intro (L, m + 1) [] [] [] ?_ ?_ ?_
                            · exact ⟨by show m + 1 ≤ _; omega, hL, skip2 (by simp only [backC]; rw [if_neg (fun h => hno (let ⟨ys, hy, _⟩ := (hG.2.1 _ _).2 ((show V.Perm N from hV).mem_iff.2 h.2.2); ⟨ys, hy⟩))])⟩
                            · show _ - (m + 1) < _ - m; omega
                            · repeat ((conv => whnf); first | refine AEq_intro (by first | with_reducible rfl | ((exact wrS m (by omega)); done) | rfl) ?_ | refine APerm_intro (by first | exact .refl _ | assumption | ((exact wrS m (by omega)); done)) ?_)
                              trivial
                        · simp at h6
                          repeat ((conv => whnf); refine ASpl_f ?_)
                          conv => whnf
                          conv => whnf
                          refine ABack_intro (L, m + 1) [] [] [] ?_ ?_ ?_
                          · exact ⟨by show m + 1 ≤ _; omega, hL, skip2 (by simp [backC, h6])⟩
                          · show _ - (m + 1) < _ - m; omega
                          · repeat ((conv => whnf); first | refine AEq_intro (by first | with_reducible rfl | ((exact wrS m (by omega)); done) | rfl) ?_ | refine APerm_intro (by first | exact .refl _ | assumption | ((exact wrS m (by omega)); done)) ?_)
                            trivial
                      · simp at h5
                        repeat ((conv => whnf); refine ASpl_f ?_)
                        conv => whnf
                        conv => whnf
                        refine ABack_intro (L, m + 1) [] [] [] ?_ ?_ ?_
                        · exact ⟨by show m + 1 ≤ _; omega, hL, skip2 (by simp [backC, h5])⟩
                        · show _ - (m + 1) < _ - m; omega
                        · repeat ((conv => whnf); first | refine AEq_intro (by first | with_reducible rfl | ((exact wrS m (by omega)); done) | rfl) ?_ | refine APerm_intro (by first | exact .refl _ | assumption | ((exact wrS m (by omega)); done)) ?_)
                          trivial
                    · simp at h4
                      obtain rfl : m = a.closes.length := by omega
                      rw [List.take_length] at hLm
                      conv => whnf
                      conv => whnf
                      refine ABack_intro (L, n + 1) [] [] [] ?_ ?_ ?_
                      · refine ⟨by show n + 1 ≤ _; omega, hL, fun x => ?_⟩
                        rw [hLm, hs]
                        simp [backO, h2, h3, or_assoc]
                      · show _ - (n + 1) < _ - n; omega
                      · repeat ((conv => whnf); first | refine AEq_intro (by first | with_reducible rfl | ((exact wrS n (by omega)); done) | rfl) ?_ | refine APerm_intro (by first | exact .refl _ | assumption | ((exact wrS n (by omega)); done)) ?_)
                        trivial
            · simp at h1
              obtain rfl : n = a.opens.length := by omega
              rw [List.take_length] at hLm
              conv => whnf
              conv => whnf
              refine ABack_intro (L, p :: D, R') [] [] [] ?_ ?_ ?_
              · refine ⟨?_, hL, fun x => ?_⟩
                · refine .trans ?_ hU
                  refine List.Perm.trans List.perm_middle ?_
                  exact (hp.append_right D).symm
                · rw [hLm, List.flatMap_cons, List.mem_append, List.mem_append, or_comm]; rfl
              · have := hp.length_eq; simp at this; show R'.length < R.length; omega
              · repeat ((conv => whnf); first | refine AEq_intro (by first | with_reducible rfl | rfl) ?_ | refine APerm_intro (by first | exact .refl _ | assumption) ?_)
                trivial
        · obtain rfl : R = [] := by cases R <;> simp_all
          repeat ((conv => whnf); refine ASpl_f ?_)
          conv => whnf
          refine AFin_cell [(8, .bx 8 0)] [(8, .box [.pv (.mp (mpP (nubP (backL a U N bn k)))), .pv (.int .i64 bu)])] [] [17] [] ⟨8, 0, _, _, rfl, rfl, rfl, Nat.le_of_ble_eq_true rfl, rfl, rfl⟩ ?_
          have hLp : (mpP L).Perm (mpP (nubP (backL a U N bn k))) := (perm_nub hL (fun x => by
            rw [hLm, backL, List.mem_flatMap, List.mem_flatMap]
            have hU : D.Perm U := hU
            simp only [hU.mem_iff])).map _
          repeat ((conv => whnf); first | refine AEq_intro (by first | with_reducible rfl | rfl) ?_ | refine APerm_intro (by first | exact .refl _ | assumption) ?_)
          trivial
end Go.Proofs.Ytcpgcenlgihmnaa.Abs
/- runs.Takes. -/
set_option linter.unusedVariables false
set_option linter.unusedSimpArgs false
set_option maxRecDepth 100000
set_option maxHeartbeats 1000000
namespace Go.Proofs.Ytcpgcenlgihmnaa.Abs
open Go

abbrev Lev := List P2 × Int
abbrev lvA (v : Lev) : List AV := [.mp (mpP v.1), .int .i64 v.2]
def opO (s : Int) (p : P2) (o : R4) : List P2 := if o.1 = p.2 ∧ o.2.1 = s then [(o.2.2.1, o.2.2.1)] else []
def opP (a : Auto) (s : Int) (p : P2) : List P2 := a.opens.flatMap (opO s p)
def clO (s : Int) (p : P2) (c : R4) : List P2 := if c.1 = p.2 ∧ c.2.1 = s ∧ c.2.2.1 = 0 then [(p.1, c.2.2.2)] else []
def clP (a : Auto) (s : Int) (p : P2) : List P2 := a.closes.flatMap (clO s p)
def innO (s : Int) (p : P2) (r : R3) : List P2 := if r.1 = p.2 ∧ r.2.1 = s then [(p.1, r.2.2)] else []
def innP (a : Auto) (s : Int) (p : P2) : List P2 := a.inners.flatMap (innO s p)
def kdf (l : List Sym) (s : Int) : Int := ((l[s.toNat]?).map (·.2)).getD 0
def levS (a : Auto) (l : List Sym) (st : Lev × List Lev) (s : Int) : Lev × List Lev :=
  if kdf l s = 1 then ((nubP (st.1.1.flatMap (opP a s)), s), st.2 ++ [st.1])
  else if kdf l s = 2 then
    match st.2.getLast? with
    | some u => ((nubP (backL a u.1 st.1.1 st.1.2 s), u.2), st.2.dropLast)
    | none => ((nubP (st.1.1.flatMap (clP a s)), st.1.2), [])
  else ((nubP (st.1.1.flatMap (innP a s)), st.1.2), st.2)
def lev0 (a : Auto) : Lev × List Lev := ((nubP (a.init.map fun q => (q, q)), 0), [])
def levs (a : Auto) (l : List Sym) (w : List Int) : Lev × List Lev := w.foldl (levS a l) (lev0 a)
def takF (a : Auto) (l : List Sym) (w : List Int) : Bool := (levs a l w).1.1.any fun p => decide (p.2 ∈ a.fin)
theorem levs_succ {a : Auto} {l : List Sym} {w : List Int} {n : Nat} (h : n < w.length) : levs a l (w.take (n + 1)) = levS a l (levs a l (w.take n)) w[n] := by
  unfold levs; rw [← List.take_append_getElem h, List.foldl_append]; rfl
def tgt (a : Auto) : List Int := a.init ++ a.opens.map (·.2.2.1) ++ a.closes.map (·.2.2.2) ++ a.inners.map (·.2.2)
def Good (a : Auto) (v : Lev) : Prop := v.1.Nodup ∧ ∀ p ∈ v.1, p.1 ∈ tgt a ∧ p.2 ∈ tgt a
theorem good_nub (a : Auto) (l : List P2) (b : Int) (h : ∀ p ∈ l, p.1 ∈ tgt a ∧ p.2 ∈ tgt a) : Good a (nubP l, b) := ⟨(nubP_spec l).1, fun p hp => h p (((nubP_spec l).2 p).1 hp)⟩
theorem tgt_o {a : Auto} {o : R4} (h : o ∈ a.opens) : o.2.2.1 ∈ tgt a := by simp only [tgt, List.mem_append]; exact .inl (.inl (.inr (List.mem_map.2 ⟨o, h, rfl⟩)))
theorem tgt_c {a : Auto} {o : R4} (h : o ∈ a.closes) : o.2.2.2 ∈ tgt a := by simp only [tgt, List.mem_append]; exact .inl (.inr (List.mem_map.2 ⟨o, h, rfl⟩))
theorem tgt_i {a : Auto} {o : R3} (h : o ∈ a.inners) : o.2.2 ∈ tgt a := by simp only [tgt, List.mem_append]; exact .inr (List.mem_map.2 ⟨o, h, rfl⟩)
theorem levS_good {a : Auto} {l : List Sym} {st : Lev × List Lev} {s : Int} (h1 : Good a st.1) (h2 : ∀ u ∈ st.2, Good a u) : Good a (levS a l st s).1 ∧ ∀ u ∈ (levS a l st s).2, Good a u := by
  unfold levS
  split
  · refine ⟨good_nub a _ _ fun p hp => ?_, fun u hu => ?_⟩
    · obtain ⟨q, hq, hp⟩ := List.mem_flatMap.1 hp
      obtain ⟨o, ho, hp⟩ := List.mem_flatMap.1 hp
      unfold opO at hp
      split at hp
      · simp at hp; subst hp; exact ⟨tgt_o ho, tgt_o ho⟩
      · cases hp
    · rcases List.mem_append.1 hu with hu | hu
      · exact h2 u hu
      · simp at hu; subst hu; exact h1
  · split
    · split
      · rename_i u hu
        have hum : u ∈ st.2 := List.mem_of_getLast? hu
        refine ⟨good_nub a _ _ fun p hp => ?_, fun u hu => h2 u ((List.dropLast_sublist _).subset hu)⟩
        obtain ⟨q, hq, hp⟩ := List.mem_flatMap.1 hp
        obtain ⟨o, ho, hp⟩ := List.mem_flatMap.1 hp
        unfold backO at hp
        split at hp
        · obtain ⟨c, hc, hp⟩ := List.mem_flatMap.1 hp
          unfold backC at hp
          split at hp
          · simp at hp; subst hp; exact ⟨((h2 u hum).2 q hq).1, tgt_c hc⟩
          · cases hp
        · cases hp
      · refine ⟨good_nub a _ _ fun p hp => ?_, fun u hu => by cases hu⟩
        obtain ⟨q, hq, hp⟩ := List.mem_flatMap.1 hp
        obtain ⟨o, ho, hp⟩ := List.mem_flatMap.1 hp
        unfold clO at hp
        split at hp
        · simp at hp; subst hp; exact ⟨(h1.2 q hq).1, tgt_c ho⟩
        · cases hp
    · refine ⟨good_nub a _ _ fun p hp => ?_, h2⟩
      obtain ⟨q, hq, hp⟩ := List.mem_flatMap.1 hp
      obtain ⟨o, ho, hp⟩ := List.mem_flatMap.1 hp
      unfold innO at hp
      split at hp
      · simp at hp; subst hp; exact ⟨(h1.2 q hq).1, tgt_i ho⟩
      · cases hp
theorem levs_good (a : Auto) (l : List Sym) : ∀ (w : List Int) (st : Lev × List Lev), Good a st.1 → (∀ u ∈ st.2, Good a u) → Good a (w.foldl (levS a l) st).1 ∧ ∀ u ∈ (w.foldl (levS a l) st).2, Good a u
  | [], st, h1, h2 => ⟨h1, h2⟩
  | s :: w, st, h1, h2 => by
    obtain ⟨g1, g2⟩ := levS_good (l := l) (s := s) h1 h2
    exact levs_good a l w _ g1 g2
theorem lev0_good (a : Auto) : Good a (lev0 a).1 := good_nub a _ _ fun p hp => by
  obtain ⟨q, hq, rfl⟩ := List.mem_map.1 hp
  have : q ∈ tgt a := by simp [tgt, hq]
  exact ⟨this, this⟩
def prodI (A B : List Int) : List P2 := A.flatMap fun x => B.map fun y => (x, y)
theorem prodI_len : ∀ A B : List Int, (prodI A B).length = A.length * B.length
  | [], B => by simp [prodI]
  | x :: A, B => by have := prodI_len A B; simp only [prodI] at this; simp only [prodI, List.flatMap_cons, List.length_append, List.length_map, this, List.length_cons, Nat.add_mul]; omega
theorem good_len {a : Auto} {v : Lev} (h : Good a v) : v.1.length ≤ (tgt a).length * (tgt a).length := by
  rw [← prodI_len]
  refine List.Nodup.length_le_of_subset h.1 fun p hp => ?_
  obtain ⟨q1, q2⟩ := h.2 p hp
  exact List.mem_flatMap.2 ⟨p.1, q1, List.mem_map.2 ⟨p.2, q2, rfl⟩⟩
theorem levs_und (a : Auto) (l : List Sym) : ∀ (w : List Int) (st : Lev × List Lev), (w.foldl (levS a l) st).2.length ≤ st.2.length + w.length
  | [], st => by simp
  | s :: w, st => by
    have := levs_und a l w (levS a l st s)
    have h2 : (levS a l st s).2.length ≤ st.2.length + 1 := by
      unfold levS; split
      · simp
      · split
        · split <;> simp <;> omega
        · simp
    simp only [List.foldl_cons, List.length_cons]; omega
theorem nil_or_snoc {α : Type} (l : List α) : l = [] ∨ ∃ l0 x, l = l0 ++ [x] := by
  rcases List.eq_nil_or_concat l with h | ⟨l0, x, h⟩
  · exact .inl h
  · exact .inr ⟨l0, x, by rw [h, List.concat_eq_append]⟩

theorem c27 (l : List Sym) (a : Auto) (w : List Int) (hl : l.length ≤ 1000) (hw : ∀ s ∈ w, 0 ≤ s ∧ s.toNat < l.length) (hwl : w.length ≤ 1000) (hin : a.init.length ≤ 1000) (ho : a.opens.length ≤ 1000) (hc : a.closes.length ≤ 1000) (hi : a.inners.length ≤ 1000) (hf : a.fin.length ≤ 1000000) (ht : (tgt a).length ≤ 1000) :
    CallsTo Try.prog 27 [.pv (sl l), autoL a, .pv (il w)] [] (.pv (.bool (takF a l w))) [] := by
  refine callsTo_of (ann := []) Try.func27 rfl (by kernel_rfl) (by kernel_rfl) mixed tab_ok (Nat.le_of_ble_eq_true rfl) rfl ?_
  conv => whnf
  refine ALoop_intro (fun (⟨L, n⟩ : List P2 × Nat) => n ≤ a.init.length ∧ L.Nodup ∧ ∀ x, x ∈ L ↔ x ∈ (a.init.take n).map fun q => (q, q)) (fun ⟨L, n⟩ => [(0, .pv (sl l)), (2, .pv (il w)), (4, .bx 4 0), (6, .pv (.bool false)), (7, .bx 7 0), (28, .pv (il a.init)), (29, .pv (.int .i64 (a.init.length : Int))), (30, .pv (.int .i64 n))]) (fun ⟨L, n⟩ => [(4, .box (autoC a)), (7, .box [.mr 25, .pv (.int .i64 0)]), (25, .mp (mpP L))]) (fun i => a.init.length - i.2) ([], 0) [] [] [] ⟨by simp, by simp, by simp⟩ ?_ ?_
  · repeat ((conv => whnf); first | refine AEq_intro (by first | with_reducible rfl | (simp; done) | rfl) ?_ | refine APerm_intro (by first | exact .refl _ | assumption | (simp; done)) ?_)
    trivial
  · rintro ⟨L, n⟩ ⟨hn, hL, hLm⟩
    conv => whnf
    refine ASpl_intro (fun h1 => ?_) (fun h1 => ?_)
    · simp at h1
      conv => whnf
      conv => whnf
      refine AIdx_map n rfl (by omega) ?_
      conv => whnf
      refine AUpd_intro [.int .i64, .int .i64] (mpP (insP L (a.init[n], a.init[n]))) keyOk81 rfl (mpP_fit L) (updP L (a.init[n], a.init[n])) ?_
      conv => whnf
      conv => whnf
      refine ABack_intro (insP L (a.init[n], a.init[n]), n + 1) [] [] [] ?_ ?_ ?_
      · refine ⟨by show n + 1 ≤ _; omega, insP_nodup hL _, fun x => ?_⟩
        rw [insP_mem, hLm, ← List.take_append_getElem h1, List.map_append, List.mem_append, or_comm]
        simp
      · show _ - (n + 1) < _ - n; omega
      · repeat ((conv => whnf); first | refine AEq_intro (by first | with_reducible rfl | ((exact wrS n (by omega)); done) | rfl) ?_ | refine APerm_intro (by first | exact .refl _ | assumption | ((exact wrS n (by omega)); done)) ?_)
        trivial
    · simp at h1
      obtain rfl : n = a.init.length := by omega
      rw [List.take_length] at hLm
      conv => whnf
      refine ALoop_intro (fun (⟨n, junk⟩ : Nat × List (List AV)) => n ≤ w.length) (fun ⟨n, junk⟩ => [(0, .pv (sl l)), (2, .pv (il w)), (4, .bx 4 0), (6, .pv (.bool false)), (7, .bx 7 0), (10, .rw 10 (levs a l (w.take n)).2.length), (40, .pv (il w)), (41, .pv (.int .i64 (w.length : Int))), (42, .pv (.int .i64 n))]) (fun ⟨n, junk⟩ => [(4, .box (autoC a)), (7, .box ((lvA (levs a l (w.take n)).1).map .pv)), (10, .row 2 ((levs a l (w.take n)).2.map lvA ++ junk))]) (fun i => w.length - i.1) (0, []) [] [25] [] (by exact Nat.zero_le _) ?_ ?_
      · have hLp : (mpP L).Perm (mpP (levs a l (w.take 0)).1.1) := (perm_nub hL hLm).map _
        repeat ((conv => whnf); first | refine AEq_intro (by first | with_reducible rfl | (simp; done) | rfl) ?_ | refine APerm_intro (by first | exact .refl _ | assumption | (simp; done)) ?_)
        trivial
      · rintro ⟨n, junk⟩ hn
        have hn : n ≤ w.length := hn
        dsimp only
        have hg := levs_good a l (w.take n) (lev0 a) (lev0_good a) (fun u hu => by cases hu)
        have hul := levs_und a l (w.take n) (lev0 a)
        rw [List.length_take] at hul
        have hul : (levs a l (w.take n)).2.length ≤ min n w.length := by simpa only [levs, lev0, List.length_nil, Nat.zero_add] using hul
        conv => whnf
        refine ASpl_intro (fun h1 => ?_) (fun h1 => ?_)
        · simp at h1
          have hsc := levs_succ (a := a) (l := l) h1
          change Good a (levs a l (w.take n)).1 ∧ ∀ u ∈ (levs a l (w.take n)).2, Good a u at hg
          generalize levs a l (w.take n) = st at *
          obtain ⟨⟨N, bn⟩, und⟩ := st
          dsimp only at hg hul
          obtain ⟨hs0, hs1⟩ := hw w[n] (List.getElem_mem h1)
          have hgl : N.length ≤ _ := good_len hg.1
          have hgl2 : (tgt a).length * (tgt a).length ≤ 1000 * 1000 := Nat.mul_le_mul ht ht
          conv => whnf
          conv => whnf
          refine AIdx_map n rfl (by omega) ?_
          generalize w[n] = s at *
          have hkd : kdf l s = l[s.toNat].2 := by simp [kdf, hs1]
          conv => whnf
          refine ASpl_intro (fun h2 => ?_) (fun h2 => ?_)
          · simp at h2; omega
          rw [h2]
          repeat ((conv => whnf); first | refine ASpl_t ?_ | refine ASpl_f ?_)
          conv => whnf
          refine ASpl_intro (fun h2 => ?_) (fun h2 => ?_)
          · simp at h2; omega
          rw [h2]
          repeat ((conv => whnf); first | refine ASpl_t ?_ | refine ASpl_f ?_)
          conv => whnf
          refine AIdx_map' hs0 hs1 ?_
          conv => whnf
          refine ASpl_intro (fun h3 => ?_) (fun h3 => ?_) <;> rw [h3]
          · simp at h3
            conv => whnf
            refine ALoop_intro (fun (⟨L, D, R⟩ : List P2 × List P2 × List P2) => (R ++ D).Perm N ∧ L.Nodup ∧ ∀ x, x ∈ L ↔ x ∈ D.flatMap (opP a s)) (fun _ => [(0, .pv (sl l)), (2, .pv (il w)), (4, .bx 4 0), (6, .pv (.bool false)), (7, .bx 7 0), (10, .rw 10 (und : List Lev).length), (12, .pv (.int .i64 s)), (13, .bx 13 0), (40, .pv (il w)), (41, .pv (.int .i64 (w.length : Int))), (42, .pv (.int .i64 n)), (100, .it 100)]) (fun ⟨L, D, R⟩ => [(4, .box (autoC a)), (7, .box [.pv (.mp (mpP N)), .pv (.int .i64 bn)]), (10, .row 2 ((und : List Lev).map lvA ++ junk)), (13, .box [.mr 54, .pv (.int .i64 bn)]), (54, .mp (mpP L)), (100, .it (mpP R) none)]) (fun i => i.2.2.length) ([], [], N) [] [] [] ⟨by simp, by simp, by simp⟩ ?_ ?_
            · repeat ((conv => whnf); first | refine AEq_intro (by first | with_reducible rfl | (simp; done) | rfl) ?_ | refine APerm_intro (by first | exact .refl _ | assumption | (simp; done)) ?_)
              trivial
            · rintro ⟨L, D, R⟩ ⟨hU, hL, hLm⟩
              conv => whnf
              refine ANext_intro (fun x rem' hx => ?_) (fun hR => ?_)
              · obtain ⟨p, R', hp, rfl, hrem⟩ := perm_map_inv hx
                conv => whnf
                repeat ((conv => whnf); refine ASpl_t ?_)
                conv => whnf
                refine ALoop_intro (fun (⟨L, m⟩ : List P2 × Nat) => m ≤ a.opens.length ∧ L.Nodup ∧ ∀ x, x ∈ L ↔ x ∈ D.flatMap (opP a s) ++ (a.opens.take m).flatMap (opO s p)) (fun ⟨L, m⟩ => [(0, .pv (sl l)), (2, .pv (il w)), (4, .bx 4 0), (6, .pv (.bool false)), (7, .bx 7 0), (10, .rw 10 (und : List Lev).length), (12, .pv (.int .i64 s)), (13, .bx 13 0), (40, .pv (il w)), (41, .pv (.int .i64 (w.length : Int))), (42, .pv (.int .i64 n)), (100, .it 100), (14, .bx 14 0), (106, .pv (l4 a.opens)), (107, .pv (.int .i64 (a.opens.length : Int))), (108, .pv (.int .i64 m))]) (fun ⟨L, m⟩ => [(4, .box (autoC a)), (7, .box [.pv (.mp (mpP N)), .pv (.int .i64 bn)]), (10, .row 2 ((und : List Lev).map lvA ++ junk)), (13, .box [.mr 54, .pv (.int .i64 bn)]), (54, .mp (mpP L)), (100, .it (mpP R') none), (14, .box [.pv (.int .i64 p.1), .pv (.int .i64 p.2)])]) (fun i => a.opens.length - i.2) (L, 0) [] [] [] ⟨by simp, hL, by simpa using hLm⟩ ?_ ?_
                · repeat ((conv => whnf); first | refine AEq_intro (by first | with_reducible rfl | (simp; done) | rfl) ?_ | refine APerm_intro (by first | exact .refl _ | assumption | (simp; done)) ?_)
                  trivial
                · rintro ⟨L, m⟩ ⟨hm, hL, hLm⟩
                  conv => whnf
                  refine ASpl_intro (fun h4 => ?_) (fun h4 => ?_)
                  · simp at h4
                    conv => whnf
                    conv => whnf
                    refine AIdx_map m rfl (by omega) ?_
                    have hs : (a.opens.take (m + 1)).flatMap (opO s p) = (a.opens.take m).flatMap (opO s p) ++ opO s p a.opens[m] := by rw [← List.take_append_getElem h4, List.flatMap_append]; simp
                    generalize a.opens[m] = o at *
                    have skip : opO s p o = [] → ∀ x, x ∈ L ↔ x ∈ D.flatMap (opP a s) ++ (a.opens.take (m + 1)).flatMap (opO s p) := fun e => by rw [hs, e, List.append_nil]; exact hLm
                    conv => whnf
                    refine ASpl_intro (fun h5 => ?_) (fun h5 => ?_) <;> rw [h5]
                    · repeat ((conv => whnf); first | refine ASpl_t ?_ | refine ASpl_f ?_)
                      simp at h5
                      conv => whnf
                      refine ASpl_intro (fun h6 => ?_) (fun h6 => ?_) <;> rw [h6]
                      · repeat ((conv => whnf); first | refine ASpl_t ?_ | refine ASpl_f ?_)
                        simp at h6
                        conv => whnf
                        refine AUpd_intro [.int .i64, .int .i64] (mpP (insP L (o.2.2.1, o.2.2.1))) keyOk81 rfl (mpP_fit L) (updP L (o.2.2.1, o.2.2.1)) ?_
                        conv => whnf
                        conv => whnf
                        refine ABack_intro (insP L (o.2.2.1, o.2.2.1), m + 1) [] [] [] ?_ ?_ ?_
                        · refine ⟨by show m + 1 ≤ _; omega, insP_nodup hL _, fun x => ?_⟩
                          rw [insP_mem, hLm, hs]
                          have hb : opO s p o = [(o.2.2.1, o.2.2.1)] := by simp only [opO]; rw [if_pos ⟨h5, h6⟩]
                          rw [hb]; exact mem_snoc
                        · show _ - (m + 1) < _ - m; omega
                        · repeat ((conv => whnf); first | refine AEq_intro (by first | with_reducible rfl | ((exact wrS m (by omega)); done) | rfl) ?_ | refine APerm_intro (by first | exact .refl _ | assumption | ((exact wrS m (by omega)); done)) ?_)
                          trivial
                      · repeat ((conv => whnf); first | refine ASpl_t ?_ | refine ASpl_f ?_)
                        simp at h6
                        conv => whnf
                        conv => whnf
                        refine ABack_intro (L, m + 1) [] [] [] ?_ ?_ ?_
                        · exact ⟨by show m + 1 ≤ _; omega, hL, skip (by simp only [opO]; rw [if_neg (fun hh => h6 hh.2)])⟩
                        · show _ - (m + 1) < _ - m; omega
                        · repeat ((conv => whnf); first | refine AEq_intro (by first | with_reducible rfl | ((exact wrS m (by omega)); done) | rfl) ?_ | refine APerm_intro (by first | exact .refl _ | assumption | ((exact wrS m (by omega)); done)) ?_)
                          trivial
                    · repeat ((conv => whnf); first | refine ASpl_t ?_ | refine ASpl_f ?_)
                      simp at h5
                      conv => whnf
                      conv => whnf
                      refine ABack_intro (L, m + 1) [] [] [] ?_ ?_ ?_
                      · exact ⟨by show m + 1 ≤ _; omega, hL, skip (by simp only [opO]; rw [if_neg (fun hh => h5 hh.1)])⟩
                      · show _ - (m + 1) < _ - m; omega
                      · repeat ((conv => whnf); first | refine AEq_intro (by first | with_reducible rfl | ((exact wrS m (by omega)); done) | rfl) ?_ | refine APerm_intro (by first | exact .refl _ | assumption | ((exact wrS m (by omega)); done)) ?_)
                        trivial
                  · simp at h4
                    obtain rfl : m = a.opens.length := by omega
                    rw [List.take_length] at hLm
                    conv => whnf
                    conv => whnf
                    refine ABack_intro (L, p :: D, R') [] [] [] ?_ ?_ ?_
                    · refine ⟨?_, hL, fun x => ?_⟩
                      · refine .trans ?_ hU
                        refine List.Perm.trans List.perm_middle ?_
                        exact (hp.append_right D).symm
                      · rw [hLm, List.flatMap_cons, List.mem_append, List.mem_append, or_comm]; rfl
                    · have := hp.length_eq; simp at this; show R'.length < R.length; omega
                    · repeat ((conv => whnf); first | refine AEq_intro (by first | with_reducible rfl | rfl) ?_ | refine APerm_intro (by first | exact .refl _ | assumption) ?_)
                      trivial
              · obtain rfl : R = [] := by cases R <;> simp_all
                have hU : D.Perm N := hU
                have hLp : (mpP L).Perm (mpP (nubP (N.flatMap (opP a s)))) := (perm_nub hL (fun x => by rw [hLm, List.mem_flatMap, List.mem_flatMap]; simp only [hU.mem_iff])).map _
                repeat ((conv => whnf); first | refine ASpl_t ?_ | refine ASpl_f ?_)
                have hst := hsc.trans (show _ = ((nubP (N.flatMap (opP a s)), s), und ++ [(N, bn)]) by unfold levS; rw [if_pos (by rw [hkd]; exact h3)])
                conv => whnf
                refine AFits_intro (by simp <;> omega) ?_
                conv => whnf
                conv => whnf
                refine ABack_intro (n + 1, []) [(10, 134)] [54] [] ?_ ?_ ?_
                · show n + 1 ≤ _; omega
                · show _ - (n + 1) < _ - n; omega
                · dsimp only
                  rw [hst]
                  repeat ((conv => whnf); first | refine AEq_intro (by first | with_reducible rfl | (simp; done) | (exact wrS n (by omega); done) | rfl) ?_ | refine APerm_intro (by first | exact .refl _ | assumption | (simp; done) | (exact wrS n (by omega); done)) ?_)
                  trivial
          · simp at h3
            conv => whnf
            refine ASpl_intro (fun h8 => ?_) (fun h8 => ?_) <;> rw [h8]
            · simp at h8
              conv => whnf
              refine ASpl_intro (fun h9 => ?_) (fun h9 => ?_) <;> rw [h9]
              · repeat ((conv => whnf); first | refine ASpl_t ?_ | refine ASpl_f ?_)
                rcases nil_or_snoc und with rfl | ⟨u0, u, rfl⟩
                · simp at h9
                have hlen : (u0 ++ [u]).length = u0.length + 1 := by simp
                have hwr : IntKind.i64.wrap (((((N, bn), u0 ++ [u]) : Lev × List Lev).2.length : Int) - 1) = (u0.length : Int) := by
                  show IntKind.i64.wrap (((u0 ++ [u]).length : Int) - 1) = _
                  rw [hlen]; rw [hlen] at hul; rw [show ((u0.length + 1 : Nat) : Int) - 1 = u0.length by omega]; exact wr (by omega) (by omega)
                conv => whnf
                rw [hwr]
                conv => whnf
                refine ARow_intro (by omega) (by show (u0.length : Int) < ((u0 ++ [u]).length : Nat); rw [hlen]; omega) ?_
                conv => whnf
                refine AGet_intro (lvA u) (by simp) ?_
                conv => whnf
                refine ACall_pv (c65 a u.1 N u.2 bn s (by omega) ho hc) rfl ?_
                conv => whnf
                refine AChk_intro (by kernel_rfl) ?_
                conv => whnf
                rw [hwr]
                conv => whnf
                refine ALe_intro (by omega) (by show (u0.length : Int) ≤ ((u0 ++ [u]).length : Nat); rw [hlen]; omega) ?_
                have hst := hsc.trans (show _ = ((nubP (backL a u.1 N bn s), u.2), u0) by unfold levS; rw [if_neg (by rw [hkd]; exact h3), if_pos (by rw [hkd]; exact h8)]; simp)
                conv => whnf
                conv => whnf
                refine ABack_intro (n + 1, [lvA u] ++ junk) [] [54] [] ?_ ?_ ?_
                · show n + 1 ≤ _; omega
                · show _ - (n + 1) < _ - n; omega
                · dsimp only
                  rw [hst]
                  repeat ((conv => whnf); first | refine AEq_intro (by first | with_reducible rfl | (simp; done) | ((simp [hwr]); done) | (exact wrS n (by omega); done) | rfl) ?_ | refine APerm_intro (by first | exact .refl _ | assumption | (simp; done) | ((simp [hwr]); done) | (exact wrS n (by omega); done)) ?_)
                  trivial
              · repeat ((conv => whnf); first | refine ASpl_t ?_ | refine ASpl_f ?_)
                simp at h9
                subst h9
                conv => whnf
                refine ALoop_intro (fun (⟨L, D, R⟩ : List P2 × List P2 × List P2) => (R ++ D).Perm N ∧ L.Nodup ∧ ∀ x, x ∈ L ↔ x ∈ D.flatMap (clP a s)) (fun _ => [(0, .pv (sl l)), (2, .pv (il w)), (4, .bx 4 0), (6, .pv (.bool false)), (7, .bx 7 0), (10, .rw 10 ([] : List Lev).length), (12, .pv (.int .i64 s)), (13, .bx 13 0), (17, .pv (.int .i64 0)), (40, .pv (il w)), (41, .pv (.int .i64 (w.length : Int))), (42, .pv (.int .i64 n)), (158, .it 158)]) (fun ⟨L, D, R⟩ => [(4, .box (autoC a)), (7, .box [.pv (.mp (mpP N)), .pv (.int .i64 bn)]), (10, .row 2 (([] : List Lev).map lvA ++ junk)), (13, .box [.mr 54, .pv (.int .i64 bn)]), (54, .mp (mpP L)), (158, .it (mpP R) none)]) (fun i => i.2.2.length) ([], [], N) [] [] [] ⟨by simp, by simp, by simp⟩ ?_ ?_
                · repeat ((conv => whnf); first | refine AEq_intro (by first | with_reducible rfl | (simp; done) | rfl) ?_ | refine APerm_intro (by first | exact .refl _ | assumption | (simp; done)) ?_)
                  trivial
                · rintro ⟨L, D, R⟩ ⟨hU, hL, hLm⟩
                  conv => whnf
                  refine ANext_intro (fun x rem' hx => ?_) (fun hR => ?_)
                  · obtain ⟨p, R', hp, rfl, hrem⟩ := perm_map_inv hx
                    conv => whnf
                    repeat ((conv => whnf); refine ASpl_t ?_)
                    conv => whnf
                    refine ALoop_intro (fun (⟨L, m⟩ : List P2 × Nat) => m ≤ a.closes.length ∧ L.Nodup ∧ ∀ x, x ∈ L ↔ x ∈ D.flatMap (clP a s) ++ (a.closes.take m).flatMap (clO s p)) (fun ⟨L, m⟩ => [(0, .pv (sl l)), (2, .pv (il w)), (4, .bx 4 0), (6, .pv (.bool false)), (7, .bx 7 0), (10, .rw 10 ([] : List Lev).length), (12, .pv (.int .i64 s)), (13, .bx 13 0), (17, .pv (.int .i64 0)), (40, .pv (il w)), (41, .pv (.int .i64 (w.length : Int))), (42, .pv (.int .i64 n)), (158, .it 158), (18, .bx 18 0), (164, .pv (l4 a.closes)), (165, .pv (.int .i64 (a.closes.length : Int))), (166, .pv (.int .i64 m))]) (fun ⟨L, m⟩ => [(4, .box (autoC a)), (7, .box [.pv (.mp (mpP N)), .pv (.int .i64 bn)]), (10, .row 2 (([] : List Lev).map lvA ++ junk)), (13, .box [.mr 54, .pv (.int .i64 bn)]), (54, .mp (mpP L)), (158, .it (mpP R') none), (18, .box [.pv (.int .i64 p.1), .pv (.int .i64 p.2)])]) (fun i => a.closes.length - i.2) (L, 0) [] [] [] ⟨by simp, hL, by simpa using hLm⟩ ?_ ?_
                    · repeat ((conv => whnf); first | refine AEq_intro (by first | with_reducible rfl | (simp; done) | rfl) ?_ | refine APerm_intro (by first | exact .refl _ | assumption | (simp; done)) ?_)
                      trivial
                    · rintro ⟨L, m⟩ ⟨hm, hL, hLm⟩
                      conv => whnf
                      refine ASpl_intro (fun h4 => ?_) (fun h4 => ?_)
                      · simp at h4
                        conv => whnf
                        conv => whnf
                        refine AIdx_map m rfl (by omega) ?_
                        have hs : (a.closes.take (m + 1)).flatMap (clO s p) = (a.closes.take m).flatMap (clO s p) ++ clO s p a.closes[m] := by rw [← List.take_append_getElem h4, List.flatMap_append]; simp
                        generalize a.closes[m] = o at *
                        have skip : clO s p o = [] → ∀ x, x ∈ L ↔ x ∈ D.flatMap (clP a s) ++ (a.closes.take (m + 1)).flatMap (clO s p) := fun e => by rw [hs, e, List.append_nil]; exact hLm
                        conv => whnf
                        refine ASpl_intro (fun h5 => ?_) (fun h5 => ?_) <;> rw [h5]
                        · repeat ((conv => whnf); first | refine ASpl_t ?_ | refine ASpl_f ?_)
                          simp at h5
                          conv => whnf
                          refine ASpl_intro (fun h6 => ?_) (fun h6 => ?_) <;> rw [h6]
                          · repeat ((conv => whnf); first | refine ASpl_t ?_ | refine ASpl_f ?_)
                            simp at h6
                            conv => whnf
                            refine ASpl_intro (fun h7 => ?_) (fun h7 => ?_) <;> rw [h7]
                            · repeat ((conv => whnf); first | refine ASpl_t ?_ | refine ASpl_f ?_)
                              simp at h7
                              conv => whnf
                              refine AUpd_intro [.int .i64, .int .i64] (mpP (insP L (p.1, o.2.2.2))) keyOk81 rfl (mpP_fit L) (updP L (p.1, o.2.2.2)) ?_
                              conv => whnf
                              conv => whnf
                              refine ABack_intro (insP L (p.1, o.2.2.2), m + 1) [] [] [] ?_ ?_ ?_
                              · refine ⟨by show m + 1 ≤ _; omega, insP_nodup hL _, fun x => ?_⟩
                                rw [insP_mem, hLm, hs]
                                have hb : clO s p o = [(p.1, o.2.2.2)] := by simp only [clO]; rw [if_pos ⟨h5, h6, h7⟩]
                                rw [hb]; exact mem_snoc
                              · show _ - (m + 1) < _ - m; omega
                              · repeat ((conv => whnf); first | refine AEq_intro (by first | with_reducible rfl | ((exact wrS m (by omega)); done) | rfl) ?_ | refine APerm_intro (by first | exact .refl _ | assumption | ((exact wrS m (by omega)); done)) ?_)
                                trivial
                            · repeat ((conv => whnf); first | refine ASpl_t ?_ | refine ASpl_f ?_)
                              simp at h7
                              conv => whnf
                              conv => whnf
                              refine ABack_intro (L, m + 1) [] [] [] ?_ ?_ ?_
                              · exact ⟨by show m + 1 ≤ _; omega, hL, skip (by simp only [clO]; rw [if_neg (fun hh => h7 hh.2.2)])⟩
                              · show _ - (m + 1) < _ - m; omega
                              · repeat ((conv => whnf); first | refine AEq_intro (by first | with_reducible rfl | ((exact wrS m (by omega)); done) | rfl) ?_ | refine APerm_intro (by first | exact .refl _ | assumption | ((exact wrS m (by omega)); done)) ?_)
                                trivial
                          · repeat ((conv => whnf); first | refine ASpl_t ?_ | refine ASpl_f ?_)
                            simp at h6
                            conv => whnf
                            conv => whnf
                            refine ABack_intro (L, m + 1) [] [] [] ?_ ?_ ?_
                            · exact ⟨by show m + 1 ≤ _; omega, hL, skip (by simp only [clO]; rw [if_neg (fun hh => h6 hh.2.1)])⟩
                            · show _ - (m + 1) < _ - m; omega
                            · repeat ((conv => whnf); first | refine AEq_intro (by first | with_reducible rfl | ((exact wrS m (by omega)); done) | rfl) ?_ | refine APerm_intro (by first | exact .refl _ | assumption | ((exact wrS m (by omega)); done)) ?_)
                              trivial
                        · repeat ((conv => whnf); first | refine ASpl_t ?_ | refine ASpl_f ?_)
                          simp at h5
                          conv => whnf
                          conv => whnf
                          refine ABack_intro (L, m + 1) [] [] [] ?_ ?_ ?_
                          · exact ⟨by show m + 1 ≤ _; omega, hL, skip (by simp only [clO]; rw [if_neg (fun hh => h5 hh.1)])⟩
                          · show _ - (m + 1) < _ - m; omega
                          · repeat ((conv => whnf); first | refine AEq_intro (by first | with_reducible rfl | ((exact wrS m (by omega)); done) | rfl) ?_ | refine APerm_intro (by first | exact .refl _ | assumption | ((exact wrS m (by omega)); done)) ?_)
                            trivial
                      · simp at h4
                        obtain rfl : m = a.closes.length := by omega
                        rw [List.take_length] at hLm
                        conv => whnf
                        conv => whnf
                        refine ABack_intro (L, p :: D, R') [] [] [] ?_ ?_ ?_
                        · refine ⟨?_, hL, fun x => ?_⟩
                          · refine .trans ?_ hU
                            refine List.Perm.trans List.perm_middle ?_
                            exact (hp.append_right D).symm
                          · rw [hLm, List.flatMap_cons, List.mem_append, List.mem_append, or_comm]; rfl
                        · have := hp.length_eq; simp at this; show R'.length < R.length; omega
                        · repeat ((conv => whnf); first | refine AEq_intro (by first | with_reducible rfl | rfl) ?_ | refine APerm_intro (by first | exact .refl _ | assumption) ?_)
                          trivial
                  · obtain rfl : R = [] := by cases R <;> simp_all
                    have hU : D.Perm N := hU
                    have hLp : (mpP L).Perm (mpP (nubP (N.flatMap (clP a s)))) := (perm_nub hL (fun x => by rw [hLm, List.mem_flatMap, List.mem_flatMap]; simp only [hU.mem_iff])).map _
                    repeat ((conv => whnf); first | refine ASpl_t ?_ | refine ASpl_f ?_)
                    have hst := hsc.trans (show _ = ((nubP (N.flatMap (clP a s)), bn), []) by unfold levS; rw [if_neg (by rw [hkd]; exact h3), if_pos (by rw [hkd]; exact h8)]; rfl)
                    conv => whnf
                    conv => whnf
                    refine ABack_intro (n + 1, junk) [] [54] [] ?_ ?_ ?_
                    · show n + 1 ≤ _; omega
                    · show _ - (n + 1) < _ - n; omega
                    · dsimp only
                      rw [hst]
                      repeat ((conv => whnf); first | refine AEq_intro (by first | with_reducible rfl | (simp; done) | (exact wrS n (by omega); done) | rfl) ?_ | refine APerm_intro (by first | exact .refl _ | assumption | (simp; done) | (exact wrS n (by omega); done)) ?_)
                      trivial
            · simp at h8
              conv => whnf
              refine ALoop_intro (fun (⟨L, D, R⟩ : List P2 × List P2 × List P2) => (R ++ D).Perm N ∧ L.Nodup ∧ ∀ x, x ∈ L ↔ x ∈ D.flatMap (innP a s)) (fun _ => [(0, .pv (sl l)), (2, .pv (il w)), (4, .bx 4 0), (6, .pv (.bool false)), (7, .bx 7 0), (10, .rw 10 (und : List Lev).length), (12, .pv (.int .i64 s)), (13, .bx 13 0), (40, .pv (il w)), (41, .pv (.int .i64 (w.length : Int))), (42, .pv (.int .i64 n)), (65, .it 65)]) (fun ⟨L, D, R⟩ => [(4, .box (autoC a)), (7, .box [.pv (.mp (mpP N)), .pv (.int .i64 bn)]), (10, .row 2 ((und : List Lev).map lvA ++ junk)), (13, .box [.mr 54, .pv (.int .i64 bn)]), (54, .mp (mpP L)), (65, .it (mpP R) none)]) (fun i => i.2.2.length) ([], [], N) [] [] [] ⟨by simp, by simp, by simp⟩ ?_ ?_
              · repeat ((conv => whnf); first | refine AEq_intro (by first | with_reducible rfl | (simp; done) | rfl) ?_ | refine APerm_intro (by first | exact .refl _ | assumption | (simp; done)) ?_)
                trivial
              · rintro ⟨L, D, R⟩ ⟨hU, hL, hLm⟩
                conv => whnf
                refine ANext_intro (fun x rem' hx => ?_) (fun hR => ?_)
                · obtain ⟨p, R', hp, rfl, hrem⟩ := perm_map_inv hx
                  conv => whnf
                  repeat ((conv => whnf); refine ASpl_t ?_)
                  conv => whnf
                  refine ALoop_intro (fun (⟨L, m⟩ : List P2 × Nat) => m ≤ a.inners.length ∧ L.Nodup ∧ ∀ x, x ∈ L ↔ x ∈ D.flatMap (innP a s) ++ (a.inners.take m).flatMap (innO s p)) (fun ⟨L, m⟩ => [(0, .pv (sl l)), (2, .pv (il w)), (4, .bx 4 0), (6, .pv (.bool false)), (7, .bx 7 0), (10, .rw 10 (und : List Lev).length), (12, .pv (.int .i64 s)), (13, .bx 13 0), (40, .pv (il w)), (41, .pv (.int .i64 (w.length : Int))), (42, .pv (.int .i64 n)), (65, .it 65), (21, .bx 21 0), (71, .pv (l3 a.inners)), (72, .pv (.int .i64 (a.inners.length : Int))), (73, .pv (.int .i64 m))]) (fun ⟨L, m⟩ => [(4, .box (autoC a)), (7, .box [.pv (.mp (mpP N)), .pv (.int .i64 bn)]), (10, .row 2 ((und : List Lev).map lvA ++ junk)), (13, .box [.mr 54, .pv (.int .i64 bn)]), (54, .mp (mpP L)), (65, .it (mpP R') none), (21, .box [.pv (.int .i64 p.1), .pv (.int .i64 p.2)])]) (fun i => a.inners.length - i.2) (L, 0) [] [] [] ⟨by simp, hL, by simpa using hLm⟩ ?_ ?_
                  · repeat ((conv => whnf); first | refine AEq_intro (by first | with_reducible rfl | (simp; done) | rfl) ?_ | refine APerm_intro (by first | exact .refl _ | assumption | (simp; done)) ?_)
                    trivial
                  · rintro ⟨L, m⟩ ⟨hm, hL, hLm⟩
                    conv => whnf
                    refine ASpl_intro (fun h4 => ?_) (fun h4 => ?_)
                    · simp at h4
                      conv => whnf
                      conv => whnf
                      refine AIdx_map m rfl (by omega) ?_
                      have hs : (a.inners.take (m + 1)).flatMap (innO s p) = (a.inners.take m).flatMap (innO s p) ++ innO s p a.inners[m] := by rw [← List.take_append_getElem h4, List.flatMap_append]; simp
                      generalize a.inners[m] = o at *
                      have skip : innO s p o = [] → ∀ x, x ∈ L ↔ x ∈ D.flatMap (innP a s) ++ (a.inners.take (m + 1)).flatMap (innO s p) := fun e => by rw [hs, e, List.append_nil]; exact hLm
                      conv => whnf
                      refine ASpl_intro (fun h5 => ?_) (fun h5 => ?_) <;> rw [h5]
                      · repeat ((conv => whnf); first | refine ASpl_t ?_ | refine ASpl_f ?_)
                        simp at h5
                        conv => whnf
                        refine ASpl_intro (fun h6 => ?_) (fun h6 => ?_) <;> rw [h6]
                        · repeat ((conv => whnf); first | refine ASpl_t ?_ | refine ASpl_f ?_)
                          simp at h6
                          conv => whnf
                          refine AUpd_intro [.int .i64, .int .i64] (mpP (insP L (p.1, o.2.2))) keyOk81 rfl (mpP_fit L) (updP L (p.1, o.2.2)) ?_
                          conv => whnf
                          conv => whnf
                          refine ABack_intro (insP L (p.1, o.2.2), m + 1) [] [] [] ?_ ?_ ?_
                          · refine ⟨by show m + 1 ≤ _; omega, insP_nodup hL _, fun x => ?_⟩
                            rw [insP_mem, hLm, hs]
                            have hb : innO s p o = [(p.1, o.2.2)] := by simp only [innO]; rw [if_pos ⟨h5, h6⟩]
                            rw [hb]; exact mem_snoc
                          · show _ - (m + 1) < _ - m; omega
                          · repeat ((conv => whnf); first | refine AEq_intro (by first | with_reducible rfl | ((exact wrS m (by omega)); done) | rfl) ?_ | refine APerm_intro (by first | exact .refl _ | assumption | ((exact wrS m (by omega)); done)) ?_)
                            trivial
                        · repeat ((conv => whnf); first | refine ASpl_t ?_ | refine ASpl_f ?_)
                          simp at h6
                          conv => whnf
                          conv => whnf
                          refine ABack_intro (L, m + 1) [] [] [] ?_ ?_ ?_
                          · exact ⟨by show m + 1 ≤ _; omega, hL, skip (by simp only [innO]; rw [if_neg (fun hh => h6 hh.2)])⟩
                          · show _ - (m + 1) < _ - m; omega
                          · repeat ((conv => whnf); first | refine AEq_intro (by first | with_reducible rfl | ((exact wrS m (by omega)); done) | rfl) ?_ | refine APerm_intro (by first | exact .refl _ | assumption | ((exact wrS m (by omega)); done)) ?_)
                            trivial
                      · repeat ((conv => whnf); first | refine ASpl_t ?_ | refine ASpl_f ?_)
                        simp at h5
                        conv => whnf
                        conv => whnf
                        refine ABack_intro (L, m + 1) [] [] [] ?_ ?_ ?_
                        · exact ⟨by show m + 1 ≤ _; omega, hL, skip (by simp only [innO]; rw [if_neg (fun hh => h5 hh.1)])⟩
                        · show _ - (m + 1) < _ - m; omega
                        · repeat ((conv => whnf); first | refine AEq_intro (by first | with_reducible rfl | ((exact wrS m (by omega)); done) | rfl) ?_ | refine APerm_intro (by first | exact .refl _ | assumption | ((exact wrS m (by omega)); done)) ?_)
                          trivial
                    · simp at h4
                      obtain rfl : m = a.inners.length := by omega
                      rw [List.take_length] at hLm
                      conv => whnf
                      conv => whnf
                      refine ABack_intro (L, p :: D, R') [] [] [] ?_ ?_ ?_
                      · refine ⟨?_, hL, fun x => ?_⟩
                        · refine .trans ?_ hU
                          refine List.Perm.trans List.perm_middle ?_
                          exact (hp.append_right D).symm
                        · rw [hLm, List.flatMap_cons, List.mem_append, List.mem_append, or_comm]; rfl
                      · have := hp.length_eq; simp at this; show R'.length < R.length; omega
                      · repeat ((conv => whnf); first | refine AEq_intro (by first | with_reducible rfl | rfl) ?_ | refine APerm_intro (by first | exact .refl _ | assumption) ?_)
                        trivial
                · obtain rfl : R = [] := by cases R <;> simp_all
                  have hU : D.Perm N := hU
                  have hLp : (mpP L).Perm (mpP (nubP (N.flatMap (innP a s)))) := (perm_nub hL (fun x => by rw [hLm, List.mem_flatMap, List.mem_flatMap]; simp only [hU.mem_iff])).map _
                  repeat ((conv => whnf); first | refine ASpl_t ?_ | refine ASpl_f ?_)
                  have hst := hsc.trans (show _ = ((nubP (N.flatMap (innP a s)), bn), und) by unfold levS; rw [if_neg (by rw [hkd]; exact h3), if_neg (by rw [hkd]; exact h8)])
                  conv => whnf
                  conv => whnf
                  refine ABack_intro (n + 1, junk) [] [54] [] ?_ ?_ ?_
                  · show n + 1 ≤ _; omega
                  · show _ - (n + 1) < _ - n; omega
                  · dsimp only
                    rw [hst]
                    repeat ((conv => whnf); first | refine AEq_intro (by first | with_reducible rfl | (simp; done) | (exact wrS n (by omega); done) | rfl) ?_ | refine APerm_intro (by first | exact .refl _ | assumption | (simp; done) | (exact wrS n (by omega); done)) ?_)
                    trivial
        · simp at h1
          obtain rfl : n = w.length := by omega
          rw [List.take_length]
          have htk : takF a l w = (levs a l w).1.1.any (fun p => decide (p.2 ∈ a.fin)) := rfl
          generalize levs a l w = st at *
          obtain ⟨⟨N, bn⟩, und⟩ := st
          conv => whnf
          refine ALoop_intro (fun (⟨D, R⟩ : List P2 × List P2) => (R ++ D).Perm N ∧ ∀ p ∈ D, p.2 ∉ a.fin) (fun _ => [(0, .pv (sl l)), (2, .pv (il w)), (4, .bx 4 0), (6, .pv (.bool false)), (7, .bx 7 0), (198, .it 198)]) (fun ⟨D, R⟩ => [(4, .box (autoC a)), (7, .box [.pv (.mp (mpP N)), .pv (.int .i64 bn)]), (198, .it (mpP R) none)]) (fun i => i.2.length) ([], N) [] [] [] ⟨by simp, by simp⟩ ?_ ?_
          · repeat ((conv => whnf); first | refine AEq_intro (by first | with_reducible rfl | (simp; done) | rfl) ?_ | refine APerm_intro (by first | exact .refl _ | assumption | (simp; done)) ?_)
            trivial
          · rintro ⟨D, R⟩ ⟨hU, hD⟩
            conv => whnf
            refine ANext_intro (fun x rem' hx => ?_) (fun hR => ?_)
            · obtain ⟨p, R', hp, rfl, hrem⟩ := perm_map_inv hx
              repeat ((conv => whnf); refine ASpl_t ?_)
              conv => whnf
              refine ACall_pv (c66 a.fin p.2 hf) rfl ?_
              rcases Classical.em (p.2 ∈ a.fin) with hm | hm
              · rw [decide_eq_true hm]
                repeat ((conv => whnf); first | refine ASpl_t ?_ | refine ASpl_f ?_)
                conv => whnf
                refine AFin_intro [(6, .pv (.bool (takF a l w)))] [] [] [] rfl ?_
                conv => whnf
                refine AEq_intro ?_ trivial
                rw [htk, List.any_eq_true.2 ⟨p, hU.mem_iff.1 (by simp [hp.mem_iff]), by simp [hm]⟩]
              · rw [decide_eq_false hm]
                repeat ((conv => whnf); first | refine ASpl_t ?_ | refine ASpl_f ?_)
                conv => whnf
                conv => whnf
                refine ABack_intro (p :: D, R') [] [] [] ?_ ?_ ?_
                · refine ⟨?_, fun q hq => ?_⟩
                  · refine .trans ?_ hU
                    refine List.Perm.trans List.perm_middle ?_
                    exact (hp.append_right D).symm
                  · rcases List.mem_cons.1 hq with rfl | hq
                    · exact hm
                    · exact hD q hq
                · have := hp.length_eq; simp at this; show R'.length < R.length; omega
                · repeat ((conv => whnf); first | refine AEq_intro (by first | with_reducible rfl | rfl) ?_ | refine APerm_intro (by first | exact .refl _ | assumption) ?_)
                  trivial
            · obtain rfl : R = [] := by cases R <;> simp_all
              have hU : D.Perm N := hU
              repeat ((conv => whnf); first | refine ASpl_t ?_ | refine ASpl_f ?_)
              conv => whnf
              refine AFin_intro [(6, .pv (.bool (takF a l w)))] [] [] [] rfl ?_
              conv => whnf
              refine AEq_intro ?_ trivial
              rw [htk]
              symm
              refine congrArg AV.bool ?_
              rw [List.any_eq_false]
              intro p hp
              simpa using hD p (hU.mem_iff.2 hp)
end Go.Proofs.Ytcpgcenlgihmnaa.Abs
/- slices.SortFunc at places: its laying. -/
set_option linter.unusedVariables false
set_option linter.unusedSimpArgs false
set_option maxRecDepth 100000
set_option maxHeartbeats 1000000
namespace Go.Proofs.Ytcpgcenlgihmnaa.Abs
open Go

def srtR : Shelf.Ren where
  f := fun x => match x with
    | 6 => 94 | 15 => 113 | 14 => 125 | 28 => 146 | 29 => 147 | 20 => 149 | 21 => 150 | 22 => 151 | 23 => 152 | 24 => 153 | 25 => 154 | 26 => 155 | 27 => 156 | 46 => 178 | 47 => 171 | 48 => 172 | 49 => 179 | 50 => 180 | 57 => 187 | n => n
  t := fun x => match x with
    | 22 => 33 | 24 => 56 | 25 => 150 | 3 => 3 | 39 => 167 | 0 => 0 | 53 => 191 | 55 => 193 | 4 => 4 | 46 => 184 | 45 => 183 | 50 => 188 | 5 => 5 | 9 => 9 | 66 => 206 | 70 => 210 | 76 => 219 | 77 => 220 | n => n
  g := fun n => n
theorem srtL : SlLaysF0.n6 Try.prog srtR where
  mixed := by kernel_rfl
  f6 := ⟨ "slices.SortFunc[[]canopy/runs.At,canopy/runs.At]", by kernel_rfl, Try.func94.trans (congrArg some (by kernel_rfl))⟩
  f14 := ⟨ "slices.pdqsortCmpFunc[canopy/runs.At]", by kernel_rfl, Try.func125.trans (congrArg some (by kernel_rfl))⟩
  f15 := Try.func113.trans (congrArg some (by kernel_rfl))
  f20 := ⟨ "slices.insertionSortCmpFunc[canopy/runs.At]", by kernel_rfl, Try.func149.trans (congrArg some (by kernel_rfl))⟩
  f21 := ⟨ "slices.heapSortCmpFunc[canopy/runs.At]", by kernel_rfl, Try.func150.trans (congrArg some (by kernel_rfl))⟩
  f22 := ⟨ "slices.breakPatternsCmpFunc[canopy/runs.At]", by kernel_rfl, Try.func151.trans (congrArg some (by kernel_rfl))⟩
  f23 := ⟨ "slices.choosePivotCmpFunc[canopy/runs.At]", by kernel_rfl, Try.func152.trans (congrArg some (by kernel_rfl))⟩
  f24 := ⟨ "slices.reverseRangeCmpFunc[canopy/runs.At]", by kernel_rfl, Try.func153.trans (congrArg some (by kernel_rfl))⟩
  f25 := ⟨ "slices.partialInsertionSortCmpFunc[canopy/runs.At]", by kernel_rfl, Try.func154.trans (congrArg some (by kernel_rfl))⟩
  f26 := ⟨ "slices.partitionEqualCmpFunc[canopy/runs.At]", by kernel_rfl, Try.func155.trans (congrArg some (by kernel_rfl))⟩
  f27 := ⟨ "slices.partitionCmpFunc[canopy/runs.At]", by kernel_rfl, Try.func156.trans (congrArg some (by kernel_rfl))⟩
  f28 := Try.func146.trans (congrArg some (by kernel_rfl))
  f29 := Try.func147.trans (congrArg some (by kernel_rfl))
  f46 := ⟨ "slices.siftDownCmpFunc[canopy/runs.At]", by kernel_rfl, Try.func178.trans (congrArg some (by kernel_rfl))⟩
  f47 := Try.func171.trans (congrArg some (by kernel_rfl))
  f48 := Try.func172.trans (congrArg some (by kernel_rfl))
  f49 := ⟨ "slices.medianAdjacentCmpFunc[canopy/runs.At]", by kernel_rfl, Try.func179.trans (congrArg some (by kernel_rfl))⟩
  f50 := ⟨ "slices.medianCmpFunc[canopy/runs.At]", by kernel_rfl, Try.func180.trans (congrArg some (by kernel_rfl))⟩
  f57 := ⟨ "slices.order2CmpFunc[canopy/runs.At]", by kernel_rfl, Try.func187.trans (congrArg some (by kernel_rfl))⟩
  t0 := Try.underlying0
  a0 := Try.isAgg0
  z0 := Try.sizeOf0
  v0 := Try.zeroValue0
  t3 := Try.underlying3
  a3 := Try.isAgg3
  z3 := Try.sizeOf3
  v3 := Try.zeroValue3
  t4 := Try.underlying4
  a4 := Try.isAgg4
  z4 := Try.sizeOf4
  v4 := Try.zeroValue4
  t5 := Try.underlying5
  a5 := Try.isAgg5
  z5 := Try.sizeOf5
  v5 := Try.zeroValue5
  t9 := Try.underlying9
  a9 := Try.isAgg9
  z9 := Try.sizeOf9
  v9 := Try.zeroValue9
  t22 := Try.underlying33
  a22 := Try.isAgg33
  z22 := Try.sizeOf33
  v22 := Try.zeroValue33
  t25 := Try.underlying150
  a25 := Try.isAgg150
  z25 := Try.sizeOf150
  v25 := Try.zeroValue150
  t39 := Try.underlying167
  a39 := Try.isAgg167
  z39 := Try.sizeOf167
  v39 := Try.zeroValue167
  t45 := Try.underlying183
  a45 := Try.isAgg183
  z45 := Try.sizeOf183
  v45 := Try.zeroValue183
  t46 := Try.underlying184
  a46 := Try.isAgg184
  z46 := Try.sizeOf184
  v46 := Try.zeroValue184
  t50 := Try.underlying188
  a50 := Try.isAgg188
  z50 := Try.sizeOf188
  v50 := Try.zeroValue188
  t53 := Try.underlying191
  a53 := Try.isAgg191
  z53 := Try.sizeOf191
  v53 := Try.zeroValue191
  t55 := Try.underlying193
  a55 := Try.isAgg193
  z55 := Try.sizeOf193
  v55 := Try.zeroValue193
  t66 := Try.underlying206
  a66 := Try.isAgg206
  z66 := Try.sizeOf206
  v66 := Try.zeroValue206
  t70 := Try.underlying210
  a70 := Try.isAgg210
  z70 := Try.sizeOf210
  v70 := Try.zeroValue210
  t76 := Try.underlying219
  a76 := Try.isAgg219
  z76 := Try.sizeOf219
  v76 := Try.zeroValue219
  t77 := Try.underlying220
  a77 := Try.isAgg220
  z77 := Try.sizeOf220
  v77 := Try.zeroValue220
end Go.Proofs.Ytcpgcenlgihmnaa.Abs
