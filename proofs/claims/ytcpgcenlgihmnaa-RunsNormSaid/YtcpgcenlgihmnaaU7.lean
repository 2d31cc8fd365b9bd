/- A logic of abstract states for the program and what its functions come to: texts G20, G21, G22, G23, M2, M3, M4, G24, G25, N1, N2, N3. -/
import Derived.Test.YtcpgcenlgihmnaaU6
import Derived.Below
/- slices.SortFunc at places: the shelf's contract told in ours. -/
set_option linter.unusedVariables false
set_option linter.unusedSimpArgs false
set_option maxRecDepth 100000
set_option maxHeartbeats 1000000
namespace Go.Proofs.Ytcpgcenlgihmnaa.Abs
open Go Go.Sort Go.Proofs

/-! Plain: the one row in order. -/
def sortB {β : Type} (lt : β → β → Bool) (xs : List β) : List β := xs.mergeSort fun a b => !lt b a
theorem sortB_sorted {β : Type} {lt : β → β → Bool} (h : STO lt) (xs : List β) : (sortB lt xs).Pairwise fun a b => lt b a = false := by
  have htr : ∀ a b c : β, lt b a = false → lt c b = false → lt c a = false := fun a b c h1 h2 => by
    cases hh : lt c a with
    | false => rfl
    | true =>
      cases h3 : lt a b with
      | true => have := h.tra c a b hh h3; rw [h2] at this; cases this
      | false => have := h.tri a b h3 h1; subst this; rw [h2] at hh; cases hh
  have := List.pairwise_mergeSort (le := fun a b => !lt b a) (fun a b c h1 h2 => by simp only [Bool.not_eq_true'] at *; exact htr a b c h1 h2) (fun a b => by
    simp only [Bool.or_eq_true, Bool.not_eq_true']
    cases h1 : lt b a with
    | false => exact .inl rfl
    | true => exact .inr (h.asy h1)) xs
  exact this.imp fun {a b} hab => by simpa using hab
theorem sortB_uniq {β : Type} {lt : β → β → Bool} (h : STO lt) {xs ys : List β} (hp : ys.Perm xs) (hs : ys.Pairwise fun a b => lt b a = false) : ys = sortB lt xs :=
  List.Perm.eq_of_pairwise (le := fun a b => lt b a = false) (fun a b _ _ h1 h2 => h.tri a b h2 h1) hs (sortB_sorted h xs) (hp.trans (List.mergeSort_perm xs _).symm)
theorem sortB_perm {β : Type} (lt : β → β → Bool) (xs : List β) : (sortB lt xs).Perm xs := List.mergeSort_perm xs _
theorem sortB_len {β : Type} (lt : β → β → Bool) (xs : List β) : (sortB lt xs).length = xs.length := (sortB_perm lt xs).length_eq

/-! Worlds. -/
theorem world_grow {W W' : World} (hos : W'.os = W.os) (ht : W'.tape = W.tape) (ho : W'.output = W.output) (hd : W.drawn ≤ W'.drawn) (hs : W.heap.size ≤ W'.heap.size) (hk : ∀ b, b < W.heap.size → W'.heap[b]? = W.heap[b]?) :
    ∃ q os, W' = Sort.grow (W.drewN q) os := by
  refine ⟨W'.drawn - W.drawn, W'.heap.extract W.heap.size W'.heap.size, ?_⟩
  obtain ⟨h', t', d', o', p'⟩ := W'
  obtain ⟨h, t, d, o, p⟩ := W
  simp only at hos ht ho hd hs hk
  subst hos ht ho
  simp only [Sort.grow, World.drewN, World.mk.injEq]
  refine ⟨?_, trivial, by omega, trivial, trivial⟩
  apply Array.ext_getElem?
  intro i
  rw [Array.getElem?_append]
  split
  · rename_i hi; exact hk i hi
  · rename_i hi
    rw [Array.getElem?_extract]
    split
    · congr 1; omega
    · rename_i hi2
      rw [Array.getElem?_eq_none (by omega)]

section
variable {P : Program} {ρ : Shelf.Ren}
theorem heap_sortWorld {α : Type} [Inhabited α] (enc : α → List Value) (k : Nat) (w : World) (blk off n : Nat) (d : Array α) (os : Array Obj) (b : Nat) (hb : b < w.heap.size) (hne : b ≠ blk) : (sortWorldK enc k w blk off n d os).heap[b]? = w.heap[b]? := by
  unfold sortWorldK
  rw [Sort.heap_grow_old _ _ (by simpa [putRowK, Sort.putRow, Sort.mapBlock, Sort.ahead] using hb)]
  simp only [putRowK, Sort.putRow, Sort.mapBlock, Sort.ahead, Array.getElem?_modify]
  rw [if_neg (fun e => hne e.symm)]
theorem heap_sortWorld_row {α : Type} [Inhabited α] (enc : α → List Value) (k : Nat) (w : World) (blk off n : Nat) (d : Array α) (os : Array Obj) (hb : blk < w.heap.size) (arr : Array Value) (ty : TypeId) (fr : Nat × Nat) (h : w.heap[blk]? = some (.cells arr ty fr)) :
    (sortWorldK enc k w blk off n d os).heap[blk]? = some (.cells (Sort.putCells id off (flatK enc k d) arr) ty fr) := by
  unfold sortWorldK
  rw [Sort.heap_grow_old _ _ (by simpa [putRowK, Sort.putRow, Sort.mapBlock, Sort.ahead] using hb)]
  simp only [putRowK, Sort.putRow, Sort.mapBlock, Sort.ahead, Array.getElem?_modify, if_true]
  rw [h]; rfl
end

/-- An element as it lies. -/
structure Elt (w : World) (S : Nat → Prop) {β : Type} (k : Nat) (eb : β → List AV) (ok : β → Prop) where
  vs : List Value
  x : β
  len : vs.length = k
  one : ∀ v ∈ vs, one v = true
  rep : ∀ (j : Nat) (v : Value) (y : AV), vs[j]? = some v → (eb x)[j]? = some y → Rep w S v y
  ok : ok x

theorem sort_bridge {P : Program} {ρ : Shelf.Ren} (L : SlLaysF0.n6 P ρ) (k : Nat) (hk0 : 0 < k) (aE : ∀ w, (isAgg (ρ.t 24)).run P w = .ok true w) (zE : ∀ w, (Go.sizeOf (ρ.t 24)).run P w = .ok k w)
    {β : Type} (eb : β → List AV) (hek : ∀ x, (eb x).length = k) (ok : β → Prop) (cmp : β → β → Int) (lt : β → β → Bool) (hlt : ∀ a b, lt a b = decide (cmp a b < 0)) (hst : STO lt) (g : Nat)
    (hc : ∀ x y, ok x → ok y → CallsTo P g [.ag ((eb x).map .pv), .ag ((eb y).map .pv)] [] (.pv (.int .i64 (cmp x y))) [])
    (eg : ∀ args w, (callFunc g args).run P w = .ok (.enter g args) w)
    (xs : List β) (hne : xs ≠ []) (hx : ∀ x ∈ xs, ok x) (hlen : xs.length < 4611686018427387904) :
    CallsTo P (ρ.f 6) [.rw 10000 xs.length, .fn g []] [(10000, .row k (xs.map eb))] (.tu []) [(10000, .row k ((sortB lt xs).map eb))] := by
  refine ⟨?_, fun w S γ vs hS hown hvs hrep => ?_⟩
  · obtain ⟨nm, h1, h2⟩ := L.f6
    exact ⟨_, h2, h1, rfl⟩
  have hH : lkO [(10000, Res.row k (xs.map eb))] 10000 = some (.row k (xs.map eb)) := rfl
  obtain ⟨hwid, hrow⟩ := hown.rep 10000 _ trivial hH
  rcases hrow with ⟨_, h0, _⟩ | ⟨b, arr, ty, hb, hheap, hsz, hcap, hcells⟩
  · exact (hne (by simpa using h0)).elim
  obtain ⟨hbs, hbS⟩ := hown.out 10000 _ b trivial hH (fun h => by cases h) (.inl hb)
  rw [List.length_map] at hcap
  -- the arguments
  have hsz2 : vs.size = 2 := hvs
  have h0 : vs[0]? = some vs[0] := by simp [hsz2]
  have h1 : vs[1]? = some vs[1] := by simp [hsz2]
  have r0 := hrep 0 _ _ h0 rfl
  have r1 := hrep 1 _ _ h1 rfl
  have e0 : vs[0] = .slice (some ⟨b, 0, none⟩) xs.length (γ 10000).cap := by
    generalize vs[0] = v at r0
    cases r0 with
    | rw _ _ es ys h hm hc' hb' => rw [hb]; rfl
    | drw _ _ a c h => rw [hH] at h; cases h
  have e1 : vs[1] = .func (.func g) #[] #[] := by
    generalize vs[1] = v at r1
    cases r1 with
    | fn _ a cs hn h =>
      have : a = #[] := Array.eq_empty_of_size_eq_zero hn
      rw [this]
  have evs : vs = #[.slice (some ⟨b, 0, none⟩) xs.length (γ 10000).cap, .func (.func g) #[] #[]] := by
    apply Array.ext
    · exact hsz2
    · intro i hi hi2
      simp at hi2
      rcases i with _ | _ | i
      · exact e0
      · exact e1
      · omega
  -- the elements
  let Ed (i : Nat) (hi : i < xs.length) : Elt w S k eb ok := {
    vs := (List.range k).map fun j => arr.getD (i * k + j) undef
    x := xs[i]
    len := by simp
    one := fun v hv => by
      obtain ⟨j, hj, rfl⟩ := List.mem_map.1 hv
      rw [List.mem_range] at hj
      obtain ⟨v, hv, ho, _⟩ := hcells i (eb xs[i]) j ((eb xs[i])[j]'(by rw [hek]; exact hj)) (by simp [hi]) (by simp [hek, hj])
      simpa [hv] using ho
    rep := fun j v y hv hy => by
      have hj : j < k := by
        have := (List.getElem?_eq_some_iff.1 hy).1
        rwa [hek] at this
      obtain ⟨v', hv', ho, hr⟩ := hcells i (eb xs[i]) j y (by simp [hi]) hy
      simp [hj] at hv
      subst hv
      simpa [hv'] using hr
    ok := hx _ (List.getElem_mem hi) }
  have hpos : 0 < xs.length := List.length_pos_iff.2 hne
  letI : Inhabited (Elt w S k eb ok) := ⟨Ed 0 hpos⟩
  let d : Array (Elt w S k eb ok) := Array.ofFn fun i : Fin xs.length => Ed i.1 i.2
  have hds : d.size = xs.length := by simp [d]
  have hdi : ∀ i (hi : i < xs.length), d[i]! = Ed i hi := fun i hi => by
    rw [getElem!_pos d i (by rw [hds]; exact hi)]; simp [d]
  have hH2 : HoldsK (Elt.vs) k w b 0 d := by
    intro t ht
    rw [size_flatK, hds] at ht
    have hti : t / k < xs.length := (Nat.div_lt_iff_lt_mul hk0).2 ht
    have htj : t % k < k := Nat.mod_lt _ hk0
    have hdm : t / k * k + t % k = t := by rw [Nat.mul_comm]; exact Nat.div_add_mod t k
    obtain ⟨v, hv, _, _⟩ := hcells (t / k) (eb xs[t / k]) (t % k) ((eb xs[t / k])[t % k]'(by rw [hek]; exact htj)) (by simp [hti]) (by simp [hek, htj])
    rw [hdm] at hv
    have hval : (flatK (Elt.vs : Elt w S k eb ok → List Value) k d)[t]! = v := by
      rw [get_flatK (Elt.vs : Elt w S k eb ok → List Value) k d t (by rw [hds]; exact ht), hdi _ hti]
      simp [Ed, htj, hdm, hv]
    refine ⟨?_, ?_⟩
    · rw [hval]
      simp [World.cell?, hheap, hv]
    · simp [World.frozen?, hheap]
  have hcmp : CmpLays P g #[] (Elt.vs : Elt w S k eb ok → List Value) k (fun x y => cmp x.x y.x) b 0 d.size w := by
    intro m os dk hdk x y
    rw [Array.append_empty]
    have hold : ∀ b', S b' → (sortWorldK (Elt.vs : Elt w S k eb ok → List Value) k w b 0 m dk os).heap[b']? = w.heap[b']? := fun b' hb' => heap_sortWorld _ _ _ _ _ _ _ _ _ (hS b' hb') (fun e => hbS (e ▸ hb'))
    have hsw : w.heap.size ≤ (sortWorldK (Elt.vs : Elt w S k eb ok → List Value) k w b 0 m dk os).heap.size := size_sortWorldK_c _ _ _ _ _ _ _ _
    generalize sortWorldK (Elt.vs : Elt w S k eb ok → List Value) k w b 0 m dk os = W at hold hsw ⊢
    have ag : ∀ z : Elt w S k eb ok, RepL W S (fun _ => gv none 0) (lkO []) (.agg z.vs.toArray) (.ag ((eb z.x).map .pv)) := fun z => by
      refine .ag _ _ (by simp [z.len, hek]) (fun i v hv => z.one v (by rw [List.getElem?_toArray] at hv; exact List.mem_of_getElem? hv)) fun i v c hv hc' => ?_
      rw [List.getElem?_toArray] at hv
      rw [List.getElem?_map] at hc'
      obtain ⟨y, hy, rfl⟩ := Option.map_eq_some_iff.1 hc'
      exact .pv ((z.rep i v y hv hy).mono (fun _ h => h) hold)
    refine ((hc x.x y.x x.ok y.ok).2 W S (fun _ => gv none 0) #[.agg x.vs.toArray, .agg y.vs.toArray] (fun b' hb' => Nat.lt_of_lt_of_le (hS b' hb') hsw) ⟨fun k r _ h => (by cases h), fun k r b _ h => (by cases h), fun k k' r r' b _ _ h => (by cases h)⟩ rfl fun i v l hv hl => ?_).mono ?_
    · rcases i with _ | _ | i
      · cases hv; cases hl; exact ag x
      · cases hv; cases hl; exact ag y
      · simp at hl
    · rintro e w' ⟨v, S', γ', rfl, haft, _, _, _, hr⟩
      have hv : v = .int .i64 (cmp x.x y.x) := by
        cases hr with
        | pv h => cases h; rfl
      refine ⟨by rw [hv], ?_⟩
      exact world_grow haft.os haft.tape haft.output.1 haft.output.2 haft.size fun b' hb' => haft.kept b' hb' (fun ⟨k, r, _, h, _⟩ => by cases h)
  have hO : SWO (ltOf fun x y : Elt w S k eb ok => cmp x.x y.x) := by
    have hl : ∀ x y : Elt w S k eb ok, ltOf (fun x y : Elt w S k eb ok => cmp x.x y.x) x y = lt x.x y.x := fun x y => (hlt _ _).symm
    refine ⟨fun x => by rw [hl]; exact hst.irr _, fun x y z h1 h2 => by rw [hl] at *; exact hst.tra _ _ _ h1 h2, fun x y z h1 h2 => ?_⟩
    rw [hl] at *
    cases hh : lt x.x z.x with
    | false => rfl
    | true =>
      cases h3 : lt y.x x.x with
      | true => have := hst.tra _ _ _ h3 hh; rw [h2] at this; cases this
      | false => have e := hst.tri _ _ h1 h3; rw [← e, hh] at h2; cases h2
  rw [evs, ← hds]
  refine (AnyQ.slices_SortFunc L k aE zE (Elt.vs : Elt w S k eb ok → List Value) Elt.len Elt.one (fun x y => cmp x.x y.x) hO g #[] b 0 (γ 10000).cap d w eg hcmp hH2 hbs (by rw [hds]; exact hlen)).mono ?_
  rintro e w' ⟨rfl, d', n, os, hperm, hsorted, rfl⟩
  obtain ⟨hps, _, hpp⟩ := hperm
  have hxs : d.toList.map Elt.x = xs := by
    apply List.ext_getElem
    · simp [d]
    · intro i h1 h2
      simp [d, Ed]
  have hys : d'.toList.map Elt.x = sortB lt xs := by
    refine sortB_uniq hst ?_ ?_
    · rw [← hxs]
      have : d'.toList.Perm d.toList := by
        have e1 : d'.extract 0 d.size = d' := by rw [← hps, Array.extract_size]
        have e2 : d.extract 0 d.size = d := Array.extract_size
        rwa [e1, e2] at hpp
      exact this.map _
    · rw [List.pairwise_map, List.pairwise_iff_getElem]
      intro i j hi hj hij
      have hi' : i < d'.size := hi
      have hj' : j < d'.size := hj
      have := hsorted i j (Nat.zero_le _) hij (by rw [← hps]; exact hj')
      rw [getElem!_pos d' i hi', getElem!_pos d' j hj'] at this
      rw [hlt]; exact this
  have hkeep : ∀ b', b' < w.heap.size → b' ≠ b → (sortWorldK (Elt.vs : Elt w S k eb ok → List Value) k w b 0 n d' os).heap[b']? = w.heap[b']? := fun b' hb' hn => heap_sortWorld _ _ _ _ _ _ _ _ _ hb' hn
  have hrowW := heap_sortWorld_row (Elt.vs : Elt w S k eb ok → List Value) k w b 0 n d' os hbs arr ty (0, 0) hheap
  have hsw : w.heap.size ≤ (sortWorldK (Elt.vs : Elt w S k eb ok → List Value) k w b 0 n d' os).heap.size := size_sortWorldK_c _ _ _ _ _ _ _ _
  have hmono : ∀ {v : Value} {y : AV}, Rep w S v y → Rep (sortWorldK (Elt.vs : Elt w S k eb ok → List Value) k w b 0 n d' os) S v y := fun h => h.mono (fun _ h => h) fun b' hb' => hkeep b' (hS b' hb') (fun e => hbS (e ▸ hb'))
  have hlkO : ∀ {k' : Nat} {r : Res}, lkO [(10000, Res.row k ((sortB lt xs).map eb))] k' = some r → k' = 10000 ∧ r = .row k ((sortB lt xs).map eb) := fun {k' r} h => by
    simp only [lkO] at h
    split at h
    · rename_i hh; cases h; exact ⟨(Nat.eq_of_beq_eq_true hh).symm, rfl⟩
    · cases h
  refine ⟨.tuple #[], S, γ, rfl, ⟨rfl, rfl, ⟨rfl, ?_⟩, hsw, fun b' hb' hE => hkeep b' hb' (fun e => hE ⟨10000, _, trivial, hH, (fun h => by cases h), .inl (e ▸ hb)⟩), fun _ h => h, fun b' hb' => ⟨Nat.lt_of_lt_of_le (hS b' hb') hsw, .inl hb'⟩⟩, ⟨?_, ?_, ?_⟩, ?_, fun _ _ _ _ _ _ => GV.Same.rfl', .tu #[] [] rfl (by simp)⟩
  · show w.drawn ≤ w.drawn + n; omega
  · intro k' r _ hr
    obtain ⟨rfl, rfl⟩ := hlkO hr
    refine ⟨fun i x hix => ?_, .inr ⟨b, _, ty, hb, hrowW, ?_, ?_, ?_⟩⟩
    · rw [List.getElem?_map] at hix
      obtain ⟨y, _, rfl⟩ := Option.map_eq_some_iff.1 hix
      exact hek y
    · simp [putCells, hsz]
    · rw [List.length_map, sortB_len]; exact hcap
    · intro i x j y hix hjy
      rw [← hys, List.map_map, List.getElem?_map] at hix
      obtain ⟨z, hz, rfl⟩ := Option.map_eq_some_iff.1 hix
      have hi : i < d'.size := (List.getElem?_eq_some_iff.1 hz).1
      have hi2 : i < xs.length := by rw [hps, hds] at hi; exact hi
      have hzi : d'[i]! = z := by rw [getElem!_pos d' i hi]; have := (List.getElem?_eq_some_iff.1 hz).2; simpa using this
      have hj : j < k := by have := (List.getElem?_eq_some_iff.1 hjy).1; simpa [hek] using this
      have hjz : j < z.vs.length := by rw [z.len]; exact hj
      have hik : i * k + j < d'.size * k := by
        have := Nat.mul_le_mul_right k (show i + 1 ≤ d'.size from hi)
        rw [Nat.add_mul, Nat.one_mul] at this; omega
      have hika : i * k + j < arr.size := by
        rw [hsz]
        have := Nat.mul_le_mul_right k (show i + 1 ≤ (γ 10000).cap by omega)
        rw [Nat.add_mul, Nat.one_mul] at this; omega
      have hdiv : (i * k + j) / k = i := by rw [Nat.mul_comm, Nat.mul_add_div hk0, Nat.div_eq_of_lt hj]; rfl
      have hmod : (i * k + j) % k = j := by rw [Nat.mul_comm, Nat.mul_add_mod, Nat.mod_eq_of_lt hj]
      refine ⟨z.vs[j], ?_, z.one _ (List.getElem_mem hjz), hmono (z.rep j _ y (by simp [hjz]) hjy)⟩
      simp only [putCells, Array.getElem?_mapIdx, Array.getElem?_eq_getElem hika, Option.map_some]
      rw [if_pos ⟨Nat.zero_le _, by rw [size_flatK]; simpa using hik⟩, Nat.sub_zero, get_flatK (Elt.vs : Elt w S k eb ok → List Value) k d' _ hik, hdiv, hmod, hzi]
      simp [hjz]
  · intro k' r b' _ hr _ hb'
    obtain ⟨rfl, rfl⟩ := hlkO hr
    obtain ⟨h1, h2⟩ := hown.out 10000 _ b' trivial hH (fun h => by cases h) hb'
    exact ⟨Nat.lt_of_lt_of_le h1 hsw, h2⟩
  · intro k1 k2 r1 r2 b' _ _ h1 h2 _ _ hn
    exact (hn ((hlkO h1).1.trans (hlkO h2).1.symm)).elim
  · rintro b' ⟨k', r, _, hr, hnd, hb'⟩
    obtain ⟨rfl, rfl⟩ := hlkO hr
    exact .inl ⟨10000, _, trivial, hH, (fun h => by cases h), hb'⟩
end Go.Proofs.Ytcpgcenlgihmnaa.Abs
/- slices.SortFunc at places. -/
set_option linter.unusedVariables false
set_option linter.unusedSimpArgs false
set_option maxRecDepth 100000
set_option maxHeartbeats 1000000
namespace Go.Proofs.Ytcpgcenlgihmnaa.Abs
open Go Go.Sort Go.Proofs

theorem c113 (n : Nat) (hn : n ≤ 18446744073709551615) : CallsTo Try.prog 113 [.pv (.int .u64 (n : Int))] [] (.pv (.int .i64 (Lib.bitLen n : Nat))) [] := by
  refine ⟨⟨_, Try.func113, by kernel_rfl, by kernel_rfl⟩, fun w S γ vs hS hown hvs hrep => ?_⟩
  have hsz : vs.size = 1 := hvs
  have h0 : vs[0]? = some vs[0] := by simp [hsz]
  have r0 := hrep 0 _ _ h0 rfl
  have evs : vs = #[.int .u64 (n : Int)] := by
    apply Array.ext
    · exact hsz
    · intro i hi hi2
      simp at hi2
      subst hi2
      exact r0.int_inv
  rw [evs]
  have h := Any.bits_Len (SlLaysF0.n15.bits (P := Try.prog) (ρ := srtR) { srtL with }) (n : Int) w (by omega) (by omega)
  rw [Int.toNat_natCast] at h
  refine h.mono ?_
  rintro e w' ⟨rfl, rfl⟩
  exact ⟨_, S, γ, rfl, After.refl hS, hown, fun b hb => .inl hb, fun _ _ _ h _ _ => GV.Same.rfl', .pv (.int _ _)⟩

theorem c149e : CallsTo Try.prog 149 [.rw 10000 0, .pv (.int .i64 0), .pv (.int .i64 0), .fn 95 []] [(10000, .row 2 [])] (.tu []) [(10000, .row 2 [])] := by
  refine callsTo_of (ann := []) Try.func149 rfl (by kernel_rfl) (by kernel_rfl) mixed tab_ok (Nat.le_of_ble_eq_true rfl) rfl ?_
  conv => whnf
  refine ALoop_intro (fun _ : Unit => True) (fun _ => [(2, .pv (.int .i64 0)), (8, .pv (.int .i64 1))]) (fun _ => [(10000, .row 2 [])]) (fun _ => 0) () [] [] [] trivial ?_ ?_
  · repeat ((conv => whnf); first | refine AEq_intro (by first | with_reducible rfl | rfl) ?_ | refine APerm_intro (by first | exact .refl _ | assumption) ?_)
    trivial
  · rintro _ _
    conv => whnf
    refine ASpl_intro (fun h => ?_) (fun h => ?_)
    · simp at h
    · conv => whnf
      refine AFin_intro [] [] [] [] rfl ?_
      repeat ((conv => whnf); first | refine AEq_intro (by first | with_reducible rfl | rfl) ?_ | refine APerm_intro (by first | exact .refl _ | assumption) ?_)
      trivial
theorem c125e (lim : Int) : CallsTo Try.prog 125 [.rw 10000 0, .pv (.int .i64 0), .pv (.int .i64 0), .pv (.int .i64 lim), .fn 95 []] [(10000, .row 2 [])] (.tu []) [(10000, .row 2 [])] := by
  refine callsTo_of (ann := []) Try.func125 rfl (by kernel_rfl) (by kernel_rfl) mixed tab_ok (Nat.le_of_ble_eq_true rfl) rfl ?_
  conv => whnf
  refine ALoop_intro (fun _ : Unit => True) (fun _ => [(0, .rw 10000 0), (1, .pv (.int .i64 0)), (2, .pv (.int .i64 0)), (4, .fn 95 [])]) (fun _ => [(10000, .row 2 [])]) (fun _ => 0) () [] [] [] trivial ?_ ?_
  · repeat ((conv => whnf); first | refine AEq_intro (by first | with_reducible rfl | rfl) ?_ | refine APerm_intro (by first | exact .refl _ | assumption) ?_)
    trivial
  · rintro _ _
    conv => whnf
    refine ASpl_intro (fun h => ?_) (fun h => ?_)
    · conv => whnf
      refine ACall_own c149e (by rfl) (by rfl) ⟨rfl, trivial⟩ ⟨⟨_, rfl, ⟨rfl, Nat.le_refl _⟩⟩, trivial⟩ (by rfl) (by rfl) ?_
      conv => whnf
      conv => whnf
      refine AFin_intro [] [] [] [] rfl ?_
      repeat ((conv => whnf); first | refine AEq_intro (by first | with_reducible rfl | rfl) ?_ | refine APerm_intro (by first | exact .refl _ | assumption) ?_)
      trivial
    · have h0 : IntKind.i64.wrap (0 - 0) = 0 := wr (by omega) (by omega)
      rw [h0] at h; simp at h
theorem c94e : CallsTo Try.prog 94 [.rw 10000 0, .fn 95 []] [(10000, .row 2 [])] (.tu []) [(10000, .row 2 [])] := by
  refine callsTo_of (ann := []) Try.func94 rfl (by kernel_rfl) (by kernel_rfl) mixed tab_ok (Nat.le_of_ble_eq_true rfl) rfl ?_
  conv => whnf
  refine ACall_pv (c113 0 (by omega)) rfl ?_
  conv => whnf
  refine ACall_own (c125e _) (by rfl) (by rfl) ⟨rfl, trivial⟩ ⟨⟨_, rfl, ⟨rfl, Nat.le_refl _⟩⟩, trivial⟩ (by rfl) (by rfl) ?_
  conv => whnf
  conv => whnf
  refine AFin_intro [] [] [] [] rfl ?_
  repeat ((conv => whnf); first | refine AEq_intro (by first | with_reducible rfl | rfl) ?_ | refine APerm_intro (by first | exact .refl _ | assumption) ?_)
  trivial
def sortA (xs : List At) : List At := sortB lessA xs
theorem c94 (xs : List At) (hl : xs.length ≤ 1000000) (hx : ∀ x ∈ xs, x.2.length ≤ 1000000) : CallsTo Try.prog 94 [.rw 10000 xs.length, .fn 95 []] [(10000, .row 2 (xs.map ea))] (.tu []) [(10000, .row 2 ((sortA xs).map ea))] := by
  by_cases hne : xs = []
  · subst hne
    have e : sortA [] = [] := List.length_eq_zero_iff.1 (by rw [sortA, sortB_len]; rfl)
    rw [e]; exact c94e
  · exact sort_bridge (ρ := srtR) srtL 2 (by omega) Try.isAgg56 Try.sizeOf56 ea (fun _ => rfl) (fun x => x.2.length ≤ 1000000) ordA lessA ordA_less stoA 95 (fun x y hx hy => c95 x y hx) (enters_of Try.func95 (by kernel_rfl) rfl) xs hne hx (by omega)
theorem c58 (xs : List At) (hl : xs.length ≤ 1000000) (hx : ∀ x ∈ xs, x.2.length ≤ 1000000) : CallsTo Try.prog 58 [.rw 10000 xs.length] [(10000, .row 2 (xs.map ea))] (.pv (al (dd (sortA xs)))) [(10000, .dead)] := by
  refine callsTo_of (ann := []) Try.func58 rfl (by kernel_rfl) (by kernel_rfl) mixed tab_ok (Nat.le_of_ble_eq_true rfl) rfl ?_
  conv => whnf
  refine ACall_own (c94 xs hl hx) (by rfl) (by rfl) ⟨rfl, trivial⟩ ⟨⟨_, rfl, ⟨rfl, by simp [sortA, sortB_len]⟩⟩, trivial⟩ (by rfl) (by rfl) ?_
  conv => whnf
  have hlen : xs.length = (sortA xs).length := (sortB_len _ _).symm
  have hp : (sortA xs).Perm xs := sortB_perm _ _
  rw [hlen]
  refine ACall_own (c96 (sortA xs) (by omega) (fun x h => hx x (hp.mem_iff.1 h))) (by rfl) (by rfl) ⟨rfl, trivial⟩ ⟨⟨_, rfl, ⟨rfl, by simp; omega⟩⟩, trivial⟩ (by rfl) (by rfl) ?_
  conv => whnf
  have hdl := dd_len (sortA xs)
  generalize List.replicate ((sortA xs).length - (dd (sortA xs)).length) (ea (0, [])) = rest
  refine ACall_own ((c98 (dd (sortA xs)) (by omega)).conv0 10000 2 (dd (sortA xs)).length ((dd (sortA xs)).map ea ++ rest) (by
    have e : List.take (dd (sortA xs)).length ((dd (sortA xs)).map ea ++ rest) = (dd (sortA xs)).map ea := by rw [List.take_append_of_le_length (by simp), tkm]
    have := ArgsR.cons (ArgR.rw (K := 10000) (es := 2) (m := (dd (sortA xs)).length) (ys := (dd (sortA xs)).map ea ++ rest)) .nil
    rw [e] at this
    exact this) rfl) (by rfl) (by rfl) ⟨rfl, trivial⟩ ⟨⟨_, rfl, trivial⟩, trivial⟩ (by rfl) (by rfl) ?_
  conv => whnf
  conv => whnf
  refine AFin_intro [(2, _)] [] [] [] rfl ?_
  conv => whnf
  refine AEq_intro ?_ trivial
  rfl
theorem c58' (xs : List At) (hl : xs.length ≤ 1000000) (hx : ∀ x ∈ xs, x.2.length ≤ 1000000) : CallsTo Try.prog 58 [.rw 10000 xs.length] [(10000, .row 2 (xs.map ea))] (.pv (al (onceR xs))) [(10000, .dead)] := by
  have hs : (sortA xs).Pairwise fun a b => lessA b a = false := sortB_sorted stoA xs
  rw [← dd_once (sortB_perm lessA xs) hs]
  exact c58 xs hl hx
end Go.Proofs.Ytcpgcenlgihmnaa.Abs
/- runs.Start, runs.Step. -/
set_option linter.unusedVariables false
set_option linter.unusedSimpArgs false
set_option maxRecDepth 100000
set_option maxHeartbeats 1000000
namespace Go.Proofs.Ytcpgcenlgihmnaa.Abs
open Go

def startL (a : Auto) : List At := a.init.map fun q => (q, [])
theorem c21 (a : Auto) (ha : a.init.length ≤ 100000) : CallsTo Try.prog 21 [autoL a] [] (.pv (al (onceR (startL a)))) [] := by
  refine callsTo_of (ann := []) Try.func21 rfl (by kernel_rfl) (by kernel_rfl) mixed tab_ok (Nat.le_of_ble_eq_true rfl) rfl ?_
  conv => whnf
  refine ALoop_intro (fun n : Nat => n ≤ a.init.length) (fun n => [(3, .rw 3 n), (7, .pv (il a.init)), (8, .pv (.int .i64 (a.init.length : Int))), (9, .pv (.int .i64 n))]) (fun n => [(3, .row 2 (((startL a).take n).map ea))]) (fun n => a.init.length - n) 0 [] [] [] (by simp) ?_ ?_
  · repeat ((conv => whnf); first | refine AEq_intro (by first | with_reducible rfl | (simp; done) | rfl) ?_ | refine APerm_intro (by first | exact .refl _ | assumption | (simp; done)) ?_)
    trivial
  · intro n hn
    have hsl : (startL a).length = a.init.length := by simp [startL]
    conv => whnf
    refine ASpl_intro (fun hc => ?_) (fun hc => ?_)
    · simp at hc
      have hg : (startL a)[n]'(by omega) = (a.init[n], []) := by simp [startL]
      conv => whnf
      conv => whnf
      refine AIdx_map n rfl (by omega) ?_
      conv => whnf
      refine AFits_intro (by simp; omega) ?_
      conv => whnf
      refine ABack_intro (n + 1) [(3, 17)] [] [] ?_ ?_ ?_
      · omega
      · show _ - (n + 1) < _ - n; omega
      · repeat ((conv => whnf); first | refine AEq_intro (by first | with_reducible rfl | ((rw [take_up ea (by omega : n < (startL a).length), hg]; rfl); done) | ((exact wrS n (by omega)); done) | (simp; done) | rfl) ?_ | refine APerm_intro (by first | exact .refl _ | assumption | ((rw [take_up ea (by omega : n < (startL a).length), hg]; rfl); done) | ((exact wrS n (by omega)); done) | (simp; done)) ?_)
        trivial
    · simp at hc
      obtain rfl : n = a.init.length := by omega
      rw [← hsl, List.take_length]
      conv => whnf
      refine ACall_own ((c58' (startL a) (by omega) (fun x hx => by obtain ⟨q, _, rfl⟩ := List.mem_map.1 hx; simp)).swap 10000 3) (by rfl) (by rfl) ⟨rfl, trivial⟩ ⟨⟨_, rfl, trivial⟩, trivial⟩ (by rfl) (by rfl) ?_
      conv => whnf
      conv => whnf
      refine AFin_intro [(2, _)] [] [] [] rfl ?_
      conv => whnf
      refine AEq_intro ?_ trivial
      rfl
theorem sw24 {g : Nat} {a : Auto} {x : At} {sym : Int} {out out' : List At} (h : CallsTo Try.prog g [.bx 10000 0, atL x] (stIn a sym out) (.tu []) (stOut a sym out')) :
    CallsTo Try.prog g [.bx 24 0, atL x] [(24, .box (stB a sym 201 out.length)), (201, .row 2 (out.map ea))] (.tu []) [(24, .box (stB a sym 202 out'.length)), (201, .dead), (202, .row 2 (out'.map ea))] := ((h.swap 10000 24).swap 10001 201).swap 20002 202
theorem flatB {α β : Type} (f : α → List β) (hf : ∀ x, (f x).length ≤ 30) (l : List α) : (l.flatMap f).length ≤ l.length * 30 := by
  induction l with
  | nil => simp
  | cons x l ih => have := hf x; simp only [List.flatMap_cons, List.length_append, List.length_cons]; omega
/-- A step as the program takes it. -/
def stepL (l : List Sym) (a : Auto) (at' : List At) (sym : Int) : List At :=
  onceR (if kdf l sym = 1 then at'.flatMap fun x => a.opens.flatMap (stO x sym) else if kdf l sym = 2 then at'.flatMap fun x => a.closes.flatMap (stC x sym) else at'.flatMap fun x => a.inners.flatMap (stI x sym))
theorem stkO {a : Auto} {x y : At} {sym : Int} (h : y ∈ a.opens.flatMap (stO x sym)) : y.2.length ≤ x.2.length + 1 := step_stack (a := a) (sym := sym) (by simp only [step, List.mem_append]; exact .inl (.inr h))
theorem stkC {a : Auto} {x y : At} {sym : Int} (h : y ∈ a.closes.flatMap (stC x sym)) : y.2.length ≤ x.2.length + 1 := step_stack (a := a) (sym := sym) (by simp only [step, List.mem_append]; exact .inr h)
theorem stkI {a : Auto} {x y : At} {sym : Int} (h : y ∈ a.inners.flatMap (stI x sym)) : y.2.length ≤ x.2.length + 1 := step_stack (a := a) (sym := sym) (by simp only [step, List.mem_append]; exact .inl (.inl h))

theorem c25 (l : List Sym) (a : Auto) (at' : List At) (sym : Int) (hl : l.length ≤ 1000) (hs0 : 0 ≤ sym) (hs1 : sym.toNat < l.length) (hat : at'.length ≤ 30000) (hst : ∀ x ∈ at', x.2.length ≤ 50000) (ho : a.opens.length ≤ 30) (hc : a.closes.length ≤ 30) (hi : a.inners.length ≤ 30) :
    CallsTo Try.prog 25 [.pv (sl l), autoL a, .pv (al at'), .pv (.int .i64 sym)] [] (.pv (al (stepL l a at' sym))) [] := by
  have hkd : kdf l sym = l[sym.toNat].2 := by simp [kdf, hs1]
  refine callsTo_of (ann := []) Try.func25 rfl (by kernel_rfl) (by kernel_rfl) mixed tab_ok (Nat.le_of_ble_eq_true rfl) rfl ?_
  conv => whnf
  refine ASpl_intro (fun h => ?_) (fun h => ?_)
  · simp at h; omega
  rw [h]
  repeat ((conv => whnf); first | refine ASpl_t ?_ | refine ASpl_f ?_)
  conv => whnf
  refine ASpl_intro (fun h => ?_) (fun h => ?_)
  · simp at h; omega
  rw [h]
  repeat ((conv => whnf); first | refine ASpl_t ?_ | refine ASpl_f ?_)
  conv => whnf
  refine AIdx_map' hs0 hs1 ?_
  conv => whnf
  refine ASpl_intro (fun h3 => ?_) (fun h3 => ?_) <;> rw [h3]
  · simp at h3
    have hk : kdf l sym = 1 := by rw [hkd]; exact h3
    conv => whnf
    refine ALoop_intro (fun n : Nat => n ≤ at'.length) (fun n => [(9, .bx 24 0), (10, .fn 61 [.bx 24 0]), (40, .pv (al at')), (41, .pv (.int .i64 (at'.length : Int))), (42, .pv (.int .i64 n))]) (fun n => [(24, .box (stB a sym 201 ((at'.take n).flatMap (fun x => a.opens.flatMap (stO x sym))).length)), (201, .row 2 (((at'.take n).flatMap (fun x => a.opens.flatMap (stO x sym))).map ea))]) (fun n => at'.length - n) 0 [] [] [201] (by simp) ?_ ?_
    · repeat ((conv => whnf); first | refine AEq_intro (by first | with_reducible rfl | (simp; done) | rfl) ?_ | refine APerm_intro (by first | exact .refl _ | assumption | (simp; done)) ?_)
      trivial
    · intro n hn
      have hb := flatB (fun x => a.opens.flatMap (stO x sym)) (fun x => by have := flat_len (stO x sym) (stO_len x sym) a.opens; omega) (at'.take n)
      rw [List.length_take] at hb
      have hb : ((at'.take n).flatMap (fun x => a.opens.flatMap (stO x sym))).length ≤ at'.length * 30 := Nat.le_trans hb (Nat.mul_le_mul_right _ (by omega))
      conv => whnf
      refine ASpl_intro (fun hc => ?_) (fun hc => ?_)
      · simp at hc
        have hs := flat_succ (fun x => a.opens.flatMap (stO x sym)) hc
        generalize (at'.take n).flatMap (fun x => a.opens.flatMap (stO x sym)) = out at *
        have hx := hst at'[n] (List.getElem_mem hc)
        conv => whnf
        conv => whnf
        refine AIdx_map n rfl (by omega) ?_
        conv => whnf
        refine ACall_own (sw24 (c61 a at'[n] sym out (by omega) (by omega) (by omega))) (by rfl) (by rfl) ⟨rfl, rfl, trivial⟩ ⟨⟨_, rfl, trivial⟩, ⟨_, rfl, trivial⟩, trivial⟩ (by rfl) (by rfl) ?_
        conv => whnf
        conv => whnf
        refine ABack_intro (n + 1) [(201, 202)] [] [] ?_ ?_ ?_
        · omega
        · show _ - (n + 1) < _ - n; omega
        · repeat ((conv => whnf); first | refine AEq_intro (by first | with_reducible rfl | ((rw [hs]); done) | (exact wrS n (by omega); done) | rfl) ?_ | refine APerm_intro (by first | exact .refl _ | assumption | ((rw [hs]); done) | (exact wrS n (by omega); done)) ?_)
          trivial
      · simp at hc
        obtain rfl : n = at'.length := by omega
        rw [List.take_length] at *
        have hlx : ∀ x ∈ at'.flatMap (fun x => a.opens.flatMap (stO x sym)), x.2.length ≤ 1000000 := fun x hx => by
          obtain ⟨y, hy, hx⟩ := List.mem_flatMap.1 hx
          have := hst y hy
          have := stkO hx
          omega
        conv => whnf
        refine ACall_own ((c58' (at'.flatMap (fun x => a.opens.flatMap (stO x sym))) (by omega) hlx).swap 10000 201) (by rfl) (by rfl) ⟨rfl, trivial⟩ ⟨⟨_, rfl, trivial⟩, trivial⟩ (by rfl) (by rfl) ?_
        conv => whnf
        conv => whnf
        refine AFin_intro [(8, _)] [] [] [] rfl ?_
        conv => whnf
        refine AEq_intro ?_ trivial
        simp only [stepL, hk, if_true]
        all_goals rfl
  · simp at h3
    have hk : ¬ kdf l sym = 1 := by rw [hkd]; exact h3
    conv => whnf
    refine ASpl_intro (fun h4 => ?_) (fun h4 => ?_) <;> rw [h4]
    · simp at h4
      have hk2 : kdf l sym = 2 := by rw [hkd]; exact h4
      conv => whnf
      refine ALoop_intro (fun n : Nat => n ≤ at'.length) (fun n => [(9, .bx 24 0), (10, .fn 62 [.bx 24 0]), (40, .pv (al at')), (41, .pv (.int .i64 (at'.length : Int))), (42, .pv (.int .i64 n))]) (fun n => [(24, .box (stB a sym 201 ((at'.take n).flatMap (fun x => a.closes.flatMap (stC x sym))).length)), (201, .row 2 (((at'.take n).flatMap (fun x => a.closes.flatMap (stC x sym))).map ea))]) (fun n => at'.length - n) 0 [] [] [201] (by simp) ?_ ?_
      · repeat ((conv => whnf); first | refine AEq_intro (by first | with_reducible rfl | (simp; done) | rfl) ?_ | refine APerm_intro (by first | exact .refl _ | assumption | (simp; done)) ?_)
        trivial
      · intro n hn
        have hb := flatB (fun x => a.closes.flatMap (stC x sym)) (fun x => by have := flat_len (stC x sym) (stC_len x sym) a.closes; omega) (at'.take n)
        rw [List.length_take] at hb
        have hb : ((at'.take n).flatMap (fun x => a.closes.flatMap (stC x sym))).length ≤ at'.length * 30 := Nat.le_trans hb (Nat.mul_le_mul_right _ (by omega))
        conv => whnf
        refine ASpl_intro (fun hc => ?_) (fun hc => ?_)
        · simp at hc
          have hs := flat_succ (fun x => a.closes.flatMap (stC x sym)) hc
          generalize (at'.take n).flatMap (fun x => a.closes.flatMap (stC x sym)) = out at *
          have hx := hst at'[n] (List.getElem_mem hc)
          conv => whnf
          conv => whnf
          refine AIdx_map n rfl (by omega) ?_
          conv => whnf
          refine ACall_own (sw24 (c62 a at'[n] sym out (by omega) (by omega) (by omega))) (by rfl) (by rfl) ⟨rfl, rfl, trivial⟩ ⟨⟨_, rfl, trivial⟩, ⟨_, rfl, trivial⟩, trivial⟩ (by rfl) (by rfl) ?_
          conv => whnf
          conv => whnf
          refine ABack_intro (n + 1) [(201, 202)] [] [] ?_ ?_ ?_
          · omega
          · show _ - (n + 1) < _ - n; omega
          · repeat ((conv => whnf); first | refine AEq_intro (by first | with_reducible rfl | ((rw [hs]); done) | (exact wrS n (by omega); done) | rfl) ?_ | refine APerm_intro (by first | exact .refl _ | assumption | ((rw [hs]); done) | (exact wrS n (by omega); done)) ?_)
            trivial
        · simp at hc
          obtain rfl : n = at'.length := by omega
          rw [List.take_length] at *
          have hlx : ∀ x ∈ at'.flatMap (fun x => a.closes.flatMap (stC x sym)), x.2.length ≤ 1000000 := fun x hx => by
            obtain ⟨y, hy, hx⟩ := List.mem_flatMap.1 hx
            have := hst y hy
            have := stkC hx
            omega
          conv => whnf
          refine ACall_own ((c58' (at'.flatMap (fun x => a.closes.flatMap (stC x sym))) (by omega) hlx).swap 10000 201) (by rfl) (by rfl) ⟨rfl, trivial⟩ ⟨⟨_, rfl, trivial⟩, trivial⟩ (by rfl) (by rfl) ?_
          conv => whnf
          conv => whnf
          refine AFin_intro [(8, _)] [] [] [] rfl ?_
          conv => whnf
          refine AEq_intro ?_ trivial
          simp only [stepL, hk, hk2, if_true, if_false]
          all_goals rfl
    · simp at h4
      have hk2 : ¬ kdf l sym = 2 := by rw [hkd]; exact h4
      conv => whnf
      refine ALoop_intro (fun n : Nat => n ≤ at'.length) (fun n => [(9, .bx 24 0), (10, .fn 60 [.bx 24 0]), (40, .pv (al at')), (41, .pv (.int .i64 (at'.length : Int))), (42, .pv (.int .i64 n))]) (fun n => [(24, .box (stB a sym 201 ((at'.take n).flatMap (fun x => a.inners.flatMap (stI x sym))).length)), (201, .row 2 (((at'.take n).flatMap (fun x => a.inners.flatMap (stI x sym))).map ea))]) (fun n => at'.length - n) 0 [] [] [201] (by simp) ?_ ?_
      · repeat ((conv => whnf); first | refine AEq_intro (by first | with_reducible rfl | (simp; done) | rfl) ?_ | refine APerm_intro (by first | exact .refl _ | assumption | (simp; done)) ?_)
        trivial
      · intro n hn
        have hb := flatB (fun x => a.inners.flatMap (stI x sym)) (fun x => by have := flat_len (stI x sym) (stI_len x sym) a.inners; omega) (at'.take n)
        rw [List.length_take] at hb
        have hb : ((at'.take n).flatMap (fun x => a.inners.flatMap (stI x sym))).length ≤ at'.length * 30 := Nat.le_trans hb (Nat.mul_le_mul_right _ (by omega))
        conv => whnf
        refine ASpl_intro (fun hc => ?_) (fun hc => ?_)
        · simp at hc
          have hs := flat_succ (fun x => a.inners.flatMap (stI x sym)) hc
          generalize (at'.take n).flatMap (fun x => a.inners.flatMap (stI x sym)) = out at *
          have hx := hst at'[n] (List.getElem_mem hc)
          conv => whnf
          conv => whnf
          refine AIdx_map n rfl (by omega) ?_
          conv => whnf
          refine ACall_own (sw24 (c60 a at'[n] sym out (by omega) (by omega) (by omega))) (by rfl) (by rfl) ⟨rfl, rfl, trivial⟩ ⟨⟨_, rfl, trivial⟩, ⟨_, rfl, trivial⟩, trivial⟩ (by rfl) (by rfl) ?_
          conv => whnf
          conv => whnf
          refine ABack_intro (n + 1) [(201, 202)] [] [] ?_ ?_ ?_
          · omega
          · show _ - (n + 1) < _ - n; omega
          · repeat ((conv => whnf); first | refine AEq_intro (by first | with_reducible rfl | ((rw [hs]); done) | (exact wrS n (by omega); done) | rfl) ?_ | refine APerm_intro (by first | exact .refl _ | assumption | ((rw [hs]); done) | (exact wrS n (by omega); done)) ?_)
            trivial
        · simp at hc
          obtain rfl : n = at'.length := by omega
          rw [List.take_length] at *
          have hlx : ∀ x ∈ at'.flatMap (fun x => a.inners.flatMap (stI x sym)), x.2.length ≤ 1000000 := fun x hx => by
            obtain ⟨y, hy, hx⟩ := List.mem_flatMap.1 hx
            have := hst y hy
            have := stkI hx
            omega
          conv => whnf
          refine ACall_own ((c58' (at'.flatMap (fun x => a.inners.flatMap (stI x sym))) (by omega) hlx).swap 10000 201) (by rfl) (by rfl) ⟨rfl, trivial⟩ ⟨⟨_, rfl, trivial⟩, trivial⟩ (by rfl) (by rfl) ?_
          conv => whnf
          conv => whnf
          refine AFin_intro [(8, _)] [] [] [] rfl ?_
          conv => whnf
          refine AEq_intro ?_ trivial
          simp only [stepL, hk, hk2, if_false]
          all_goals rfl
end Go.Proofs.Ytcpgcenlgihmnaa.Abs
/- canopylaw4.known. -/
set_option linter.unusedVariables false
set_option linter.unusedSimpArgs false
set_option maxRecDepth 100000
set_option maxHeartbeats 1000000
namespace Go.Proofs.Ytcpgcenlgihmnaa.Abs
open Go

theorem c21n : CallsTo Try.prog 21 [.ag [.pv (.int .i64 0), .pv (.int .i64 0), .nl, .nl, .nl, .nl, .nl]] [] (.pv (al [])) [] := by
  refine callsTo_of (ann := []) Try.func21 rfl (by kernel_rfl) (by kernel_rfl) mixed tab_ok (Nat.le_of_ble_eq_true rfl) rfl ?_
  conv => whnf
  refine ALoop_intro (fun _ : Unit => True) (fun _ => [(3, .rw 3 0), (8, .pv (.int .i64 0)), (9, .pv (.int .i64 0))]) (fun _ => [(3, .row 2 [])]) (fun _ => 0) () [] [] [] trivial ?_ ?_
  · repeat ((conv => whnf); first | refine AEq_intro (by first | with_reducible rfl | (simp; done) | rfl) ?_ | refine APerm_intro (by first | exact .refl _ | assumption | (simp; done)) ?_)
    trivial
  · intro _ _
    conv => whnf
    refine ASpl_intro (fun hc => ?_) (fun hc => ?_)
    · simp at hc
    · conv => whnf
      refine ACall_own ((c58' [] (by simp) (by simp)).swap 10000 3) (by rfl) (by rfl) ⟨rfl, trivial⟩ ⟨⟨_, rfl, trivial⟩, trivial⟩ (by rfl) (by rfl) ?_
      conv => whnf
      conv => whnf
      refine AFin_intro [(2, _)] [] [] [] rfl ?_
      conv => whnf
      refine AEq_intro ?_ trivial
      rfl
def aK : Auto := ⟨2, 1, [0], [1], [(0, 0, 0, 1)], [(0, 1, 1, 1)], []⟩
def lK : List Sym := syms 0 []
theorem k1 : stepL lK aK [(0, [])] 0 = [(0, [1])] := by kernel_rfl
theorem k2 : takF aK lK [0, 1] = true := by kernel_rfl
theorem k3 : takF aK lK [0] = false := by kernel_rfl
theorem k4 : takF aK lK [1] = false := by kernel_rfl
theorem k0 : onceR (startL aK) = [(0, [])] := by kernel_rfl
theorem k5 : lK.length = 3 := by kernel_rfl
theorem kT (w : List Int) (h : (w.all fun s => decide (0 ≤ s ∧ s.toNat < 3)) && decide (w.length ≤ 1000) = true) : CallsTo Try.prog 27 [.pv (sl lK), autoL aK, .pv (il w)] [] (.pv (.bool (takF aK lK w))) [] := by
  rw [Bool.and_eq_true, List.all_eq_true] at h
  exact c27 lK aK w (by rw [k5]; decide) (fun s hs => by rw [k5]; simpa using h.1 s hs) (by simpa using h.2) (by decide) (by decide) (by decide) (by decide) (by decide) (by decide)
theorem c16 : CallsTo Try.prog 16 [] [] (.pv (.bool true)) [] := by
  refine callsTo_of (ann := [2]) Try.func16 rfl (by kernel_rfl) (by kernel_rfl) mixed tab_ok (Nat.le_of_ble_eq_true rfl) rfl ?_
  conv => whnf
  refine ACall_pv ((c17 0 []).nl (.same _ (.nl 1 .nil))) rfl ?_
  conv => whnf
  refine AStop_intro [(0, .pv (.bool false)), (1, .pv (sl lK)), (2, .bx 2 0)] [(2, .box (autoC aK))] [] [5, 6, 8, 10] [] ?_ ?_
  · repeat ((conv => whnf); first | refine AEq_intro (by first | with_reducible rfl | rfl) ?_ | refine APerm_intro (by first | exact .refl _ | assumption) ?_)
    trivial
  conv => whnf
  refine ACall_pv (c21 aK (by decide)) rfl ?_
  rw [k0]
  conv => whnf
  refine ACall_pv (c25 lK aK [(0, [])] 0 (by rw [k5]; decide) (by decide) (by rw [k5]; decide) (by decide) (by simp) (by decide) (by decide) (by decide)) rfl ?_
  rw [k1]
  conv => whnf
  refine AChk_intro (by kernel_rfl) ?_
  conv => whnf
  refine ACall_pv c21n rfl ?_
  repeat ((conv => whnf); first | refine ASpl_t ?_ | refine ASpl_f ?_)
  conv => whnf
  refine AIdx_map (f := ea) (xs := [(0, [1])]) 0 rfl (by decide) ?_
  repeat ((conv => whnf); first | refine ASpl_t ?_ | refine ASpl_f ?_)
  conv => whnf
  refine ACall_own ((kT [0, 1] (by decide)).conv0 37 1 2 [ei 0, ei 1] (.cons (.same _) (.cons (.same _) (.cons .rw .nil))) rfl) (by rfl) (by rfl) ⟨rfl, trivial⟩ ⟨⟨_, rfl, trivial⟩, trivial⟩ (by rfl) (by rfl) ?_
  rw [k2]
  repeat ((conv => whnf); first | refine ASpl_t ?_ | refine ASpl_f ?_)
  conv => whnf
  refine ACall_own ((kT [0] (by decide)).conv0 43 1 1 [ei 0] (.cons (.same _) (.cons (.same _) (.cons .rw .nil))) rfl) (by rfl) (by rfl) ⟨rfl, trivial⟩ ⟨⟨_, rfl, trivial⟩, trivial⟩ (by rfl) (by rfl) ?_
  rw [k3]
  repeat ((conv => whnf); first | refine ASpl_t ?_ | refine ASpl_f ?_)
  conv => whnf
  refine ACall_own ((kT [1] (by decide)).conv0 50 1 1 [ei 1] (.cons (.same _) (.cons (.same _) (.cons .rw .nil))) rfl) (by rfl) (by rfl) ⟨rfl, trivial⟩ ⟨⟨_, rfl, trivial⟩, trivial⟩ (by rfl) (by rfl) ?_
  rw [k4]
  repeat ((conv => whnf); first | refine ASpl_t ?_ | refine ASpl_f ?_)
  conv => whnf
  refine AFin_intro [(0, _)] [] [] [] rfl ?_
  conv => whnf
  refine AEq_intro ?_ trivial
  rfl
end Go.Proofs.Ytcpgcenlgihmnaa.Abs
/- Plain laws: runs. -/
set_option linter.unusedVariables false
set_option linter.unusedSimpArgs false
namespace Go.Proofs.Ytcpgcenlgihmnaa.Abs
open Go

/-! What Make makes. -/
structure Made (l : List Sym) (N G : Nat) (a : Auto) : Prop where
  init : ∀ q ∈ a.init, 0 ≤ q ∧ q < N
  fin : ∀ q ∈ a.fin, 0 ≤ q ∧ q < N
  opens : ∀ o ∈ a.opens, 0 ≤ o.1 ∧ o.1 < N ∧ kdf l o.2.1 = 1 ∧ 0 ≤ o.2.1 ∧ 0 ≤ o.2.2.1 ∧ o.2.2.1 < N ∧ 1 ≤ o.2.2.2 ∧ o.2.2.2 ≤ G
  closes : ∀ c ∈ a.closes, 0 ≤ c.1 ∧ c.1 < N ∧ kdf l c.2.1 = 2 ∧ 0 ≤ c.2.1 ∧ 0 ≤ c.2.2.1 ∧ c.2.2.1 ≤ G ∧ 0 ≤ c.2.2.2 ∧ c.2.2.2 < N
  inners : ∀ r ∈ a.inners, 0 ≤ r.1 ∧ r.1 < N ∧ kdf l r.2.1 = 3 ∧ 0 ≤ r.2.1 ∧ 0 ≤ r.2.2 ∧ r.2.2 < N
theorem pick_kind {l : List Sym} {k : Int} {n : Nat} (h : 0 ≤ pick l k n) : kdf l (pick l k n) = k := by
  unfold pick at *
  dsimp only at *
  split at h
  · omega
  · rename_i hk
    rw [if_neg hk]
    have hl : n % (kinds l k (List.range l.length)).length < (kinds l k (List.range l.length)).length := Nat.mod_lt _ (List.length_pos_iff.2 hk)
    have e : ((kinds l k (List.range l.length))[n % (kinds l k (List.range l.length)).length]?).getD 0 = (kinds l k (List.range l.length))[n % (kinds l k (List.range l.length)).length] := by simp [hl]
    rw [e]
    exact (kinds_mem l k _ _ (List.getElem_mem hl)).2
theorem modN {x N : Nat} (h : 0 < N) : (0 : Int) ≤ ((x % N : Nat) : Int) ∧ ((x % N : Nat) : Int) < N := by
  have := Nat.mod_lt x h; omega
theorem mkStep_made {l : List Sym} {N G : Nat} {a : Auto} {m : Nat} (hN : 0 < N) (hG : 0 < G) (h : Made l N G a) : Made l N G (mkStep l N G a m) := by
  obtain ⟨h1, h2, h3, h4, h5⟩ := h
  unfold mkStep
  have a1 := modN (x := m / 8) hN
  have a2 := modN (x := m / 80) hN
  have a3 := modN (x := m / 8000) hG
  have a4 := modN (x := m / 8000) (N := G + 1) (by omega)
  split
  · refine ⟨fun q hq => ?_, h2, h3, h4, h5⟩
    rcases List.mem_append.1 hq with hq | hq
    · exact h1 q hq
    · simp only [List.mem_singleton] at hq; subst hq; exact a1
  split
  · refine ⟨h1, fun q hq => ?_, h3, h4, h5⟩
    rcases List.mem_append.1 hq with hq | hq
    · exact h2 q hq
    · simp only [List.mem_singleton] at hq; subst hq; exact a1
  split
  · split
    · rename_i hp
      refine ⟨h1, h2, fun q hq => ?_, h4, h5⟩
      rcases List.mem_append.1 hq with hq | hq
      · exact h3 q hq
      · simp only [List.mem_singleton] at hq; subst hq; exact ⟨a1.1, a1.2, pick_kind hp, hp, a2.1, a2.2, by dsimp only; omega, by dsimp only; omega⟩
    · exact ⟨h1, h2, h3, h4, h5⟩
  split
  · split
    · rename_i hp
      refine ⟨h1, h2, h3, fun q hq => ?_, h5⟩
      rcases List.mem_append.1 hq with hq | hq
      · exact h4 q hq
      · simp only [List.mem_singleton] at hq; subst hq; exact ⟨a1.1, a1.2, pick_kind hp, hp, a4.1, by dsimp only; omega, a2.1, a2.2⟩
    · exact ⟨h1, h2, h3, h4, h5⟩
  · split
    · rename_i hp
      refine ⟨h1, h2, h3, h4, fun q hq => ?_⟩
      rcases List.mem_append.1 hq with hq | hq
      · exact h5 q hq
      · simp only [List.mem_singleton] at hq; subst hq; exact ⟨a1.1, a1.2, pick_kind hp, hp, a2.1, a2.2⟩
    · exact ⟨h1, h2, h3, h4, h5⟩
theorem mkN_pos {size most : Int} (h : 0 < most) : 0 < mkN size most ∧ (mkN size most : Int) ≤ most := by have := within_lt (a := size) h; unfold mkN; omega
theorem mkG_pos (size : Int) : 0 < mkG size ∧ mkG size ≤ 2 := by have := within_lt (a := size.tdiv 7) (n := 2) (by decide); unfold mkG; omega
theorem make_made (l : List Sym) (size : Int) (ns : List Int) {most : Int} (hm : 0 < most) : Made l (mkN size most) (mkG size) (make l size ns most) := by
  have hN := (mkN_pos (size := size) hm).1
  have hG := (mkG_pos size).1
  have key : ∀ (xs : List Int) (a : Auto), Made l (mkN size most) (mkG size) a → Made l (mkN size most) (mkG size) (xs.foldl (fun a x => mkStep l (mkN size most) (mkG size) a (within x 1099511627776).toNat) a) := fun xs => by
    induction xs with
    | nil => intro a h; exact h
    | cons x xs ih => intro a h; exact ih _ (mkStep_made hN hG h)
  have h := key (ns.take 24) ⟨mkN size most, mkG size, [], [], [], [], []⟩ ⟨by simp, by simp, by simp, by simp, by simp⟩
  unfold make mkAt
  dsimp only
  split
  · exact ⟨fun q hq => by simp at hq; subst hq; omega, h.fin, h.opens, h.closes, h.inners⟩
  · exact h
theorem make_few (l : List Sym) (size : Int) (ns : List Int) (most : Int) : Few 24 (make l size ns most) ∧ (make l size ns most).N = mkN size most ∧ (make l size ns most).G = mkG size := by
  have h : Few 24 (mkAt l size ns most 24) ∧ (mkAt l size ns most 24).N = mkN size most ∧ (mkAt l size ns most 24).G = mkG size := by
    rcases Nat.lt_or_ge ns.length 24 with hn | hn
    · have e : mkAt l size ns most 24 = mkAt l size ns most ns.length := by unfold mkAt; rw [List.take_length, List.take_of_length_le (by omega)]
      rw [e]
      obtain ⟨⟨h1, h2, h3, h4, h5⟩, hN, hG⟩ := mkAt_few l size ns most ns.length (Nat.le_refl _)
      exact ⟨⟨by omega, by omega, by omega, by omega, by omega⟩, hN, hG⟩
    · exact mkAt_few l size ns most 24 hn
  unfold make
  dsimp only
  split
  · exact ⟨⟨by simp, h.1.fin, h.1.opens, h.1.closes, h.1.inners⟩, h.2⟩
  · exact h

/-! The code's step is the document's. -/
theorem onceR_eq {l l' : List At} (h : ∀ x, x ∈ l ↔ x ∈ l') : onceR l = onceR l' := SS.ext stoA (onceR_spec l).1 (onceR_spec l').1 fun x => by rw [(onceR_spec l).2, (onceR_spec l').2, h]
theorem stepF_once (a : Auto) (at' : List At) (sym : Int) : stepF a at' sym = onceR (at'.flatMap fun x => step a x sym) := by
  unfold stepF onceR
  rw [List.foldl_flatMap]
theorem flat_nil {α β : Type} {f : α → List β} {l : List α} (h : ∀ x ∈ l, f x = []) : l.flatMap f = [] := by
  induction l with
  | nil => rfl
  | cons x l ih => rw [List.flatMap_cons, h x (by simp), ih (fun y hy => h y (by simp [hy]))]; rfl
theorem stepL_eq {l : List Sym} {N G : Nat} {a : Auto} (hm : Made l N G a) (at' : List At) (sym : Int) : stepL l a at' sym = stepF a at' sym := by
  rw [stepF_once, stepL]
  congr 1
  have hO : kdf l sym ≠ 1 → ∀ x, a.opens.flatMap (stO x sym) = [] := fun hk x => flat_nil fun o ho => by
    unfold stO; rw [if_neg]; rintro ⟨_, h⟩; exact hk (h ▸ (hm.opens o ho).2.2.1)
  have hC : kdf l sym ≠ 2 → ∀ x, a.closes.flatMap (stC x sym) = [] := fun hk x => flat_nil fun o ho => by
    unfold stC; rw [if_neg]; rintro ⟨_, h⟩; exact hk (h ▸ (hm.closes o ho).2.2.1)
  have hI : kdf l sym ≠ 3 → ∀ x, a.inners.flatMap (stI x sym) = [] := fun hk x => flat_nil fun o ho => by
    unfold stI; rw [if_neg]; rintro ⟨_, h⟩; exact hk (h ▸ (hm.inners o ho).2.2.1)
  split
  · rename_i h
    congr 1; funext x
    rw [step, hI (by omega), hC (by omega), List.nil_append, List.append_nil]
  · rename_i h
    split
    · rename_i h2
      congr 1; funext x
      rw [step, hI (by omega), hO h, List.nil_append, List.nil_append]
    · rename_i h2
      congr 1; funext x
      rw [step, hC h2, hO h, List.append_nil, List.append_nil]
theorem start_eq (a : Auto) : onceR (startL a) = startR a := by
  refine SS.ext stoA (onceR_spec _).1 ?_ fun x => ?_
  · unfold startR
    rw [SS, List.pairwise_map]
    refine (ints_spec a.init).1.imp fun {p q} h => ?_
    simp [ltI] at h
    simp [lessA, h]
  · rw [(onceR_spec _).2]
    simp only [startL, startR, List.mem_map, (ints_spec a.init).2]
end Go.Proofs.Ytcpgcenlgihmnaa.Abs
/- Plain laws: where a run may be; levels. -/
set_option linter.unusedVariables false
set_option linter.unusedSimpArgs false
namespace Go.Proofs.Ytcpgcenlgihmnaa.Abs
open Go

def runL (l : List Sym) (a : Auto) (w : List Int) : List At := w.foldl (stepL l a) (onceR (startL a))
theorem runL_succ {l : List Sym} {a : Auto} {w : List Int} {n : Nat} (h : n < w.length) : runL l a (w.take (n + 1)) = stepL l a (runL l a (w.take n)) w[n] := by
  unfold runL; rw [← List.take_append_getElem h, List.foldl_append]; rfl

/-! How many. -/
def stks (G : Nat) : Nat → List (List Int)
  | 0 => [[]]
  | k + 1 => [] :: (List.range G).flatMap fun g : Nat => (stks G k).map fun s => ((g : Int) + 1) :: s
def nstk (G : Nat) : Nat → Nat
  | 0 => 1
  | k + 1 => 1 + G * nstk G k
theorem flat_const {α β : Type} {f : α → List β} {c : Nat} : ∀ {l : List α}, (∀ x ∈ l, (f x).length = c) → (l.flatMap f).length = l.length * c
  | [], _ => by simp
  | x :: l, h => by rw [List.flatMap_cons, List.length_append, h x (by simp), flat_const (fun y hy => h y (by simp [hy])), List.length_cons, Nat.add_mul]; omega
theorem stks_len (G : Nat) : ∀ k, (stks G k).length = nstk G k
  | 0 => rfl
  | k + 1 => by
    simp only [stks, nstk, List.length_cons]
    rw [flat_const (c := nstk G k) (fun x _ => by rw [List.length_map, stks_len G k]), List.length_range]; omega
theorem stks_mem {G : Nat} : ∀ {k : Nat} {s : List Int}, s.length ≤ k → (∀ g ∈ s, 1 ≤ g ∧ g ≤ G) → s ∈ stks G k
  | 0, [], _, _ => by simp [stks]
  | 0, _ :: _, h, _ => by simp at h
  | k + 1, [], _, _ => by simp [stks]
  | k + 1, g :: s, h, hg => by
    have h1 := hg g (by simp)
    refine List.mem_cons_of_mem _ (List.mem_flatMap.2 ⟨(g - 1).toNat, List.mem_range.2 (by omega), List.mem_map.2 ⟨s, stks_mem (by simpa using h) (fun x hx => hg x (by simp [hx])), ?_⟩⟩)
    congr 1; omega
def confs (N G k : Nat) : List At := (List.range N).flatMap fun q : Nat => (stks G k).map fun s => ((q : Int), s)
theorem confs_len (N G k : Nat) : (confs N G k).length = N * nstk G k := by
  rw [confs, flat_const (c := nstk G k) (fun x _ => by rw [List.length_map, stks_len]), List.length_range]
/-- Where a machine may be. -/
def CfOk (N G k : Nat) (x : At) : Prop := 0 ≤ x.1 ∧ x.1 < N ∧ x.2.length ≤ k ∧ ∀ g ∈ x.2, 1 ≤ g ∧ g ≤ G
theorem CfOk.mem {N G k : Nat} {x : At} (h : CfOk N G k x) : x ∈ confs N G k := by
  obtain ⟨h1, h2, h3, h4⟩ := h
  refine List.mem_flatMap.2 ⟨x.1.toNat, List.mem_range.2 (by omega), List.mem_map.2 ⟨x.2, stks_mem h3 h4, ?_⟩⟩
  exact Prod.ext (by dsimp only; omega) rfl
theorem CfOk.le {N G k k' : Nat} {x : At} (h : CfOk N G k x) (hk : k ≤ k') : CfOk N G k' x := ⟨h.1, h.2.1, Nat.le_trans h.2.2.1 hk, h.2.2.2⟩
theorem once_bound {N G k : Nat} {l : List At} (h : ∀ x ∈ l, CfOk N G k x) : (onceR l).length ≤ N * nstk G k := by
  rw [← confs_len]
  exact List.Nodup.length_le_of_subset ((onceR_spec l).1.nodup stoA) fun x hx => (h x (((onceR_spec l).2 x).1 hx)).mem
def nop (l : List Sym) (w : List Int) : Nat := (w.filter fun s => decide (kdf l s = 1)).length
theorem stepL_mem {l : List Sym} {a : Auto} {R : List At} {s : Int} {y : At} : y ∈ stepL l a R s ↔ ∃ x ∈ R, (kdf l s = 1 ∧ ∃ o ∈ a.opens, o.1 = x.1 ∧ o.2.1 = s ∧ y = (o.2.2.1, o.2.2.2 :: x.2)) ∨
    (kdf l s = 2 ∧ ∃ c ∈ a.closes, c.1 = x.1 ∧ c.2.1 = s ∧ ((x.2 = [] ∧ c.2.2.1 = 0 ∧ y = (c.2.2.2, [])) ∨ ∃ t, x.2 = c.2.2.1 :: t ∧ y = (c.2.2.2, t))) ∨
    (kdf l s ≠ 1 ∧ kdf l s ≠ 2 ∧ ∃ r ∈ a.inners, r.1 = x.1 ∧ r.2.1 = s ∧ y = (r.2.2, x.2)) := by
  unfold stepL
  rw [(onceR_spec _).2]
  split
  · rename_i h
    simp only [List.mem_flatMap, stO, h]
    constructor
    · rintro ⟨x, hx, o, ho, hy⟩
      split at hy
      · rename_i hc; simp at hy; exact ⟨x, hx, .inl ⟨trivial, o, ho, hc.1, hc.2, hy⟩⟩
      · cases hy
    · rintro ⟨x, hx, ⟨_, o, ho, h1, h2, rfl⟩ | ⟨h', _⟩ | ⟨h', _⟩⟩
      · exact ⟨x, hx, o, ho, by rw [if_pos ⟨h1, h2⟩]; simp⟩
      · omega
      · exact (h' rfl).elim
  · rename_i h
    split
    · rename_i h2
      simp only [List.mem_flatMap]
      constructor
      · rintro ⟨x, hx, c, hc, hy⟩
        refine ⟨x, hx, .inr (.inl ⟨h2, c, hc, ?_⟩)⟩
        unfold stC at hy
        split at hy
        · rename_i hcc
          refine ⟨hcc.1, hcc.2, ?_⟩
          split at hy
          · rename_i hs
            split at hy
            · rename_i h0; simp at hy; exact .inl ⟨hs, h0, hy⟩
            · cases hy
          · rename_i t s' hs
            split at hy
            · rename_i h0; simp at hy; exact .inr ⟨s', by rw [hs, h0], hy⟩
            · cases hy
        · cases hy
      · rintro ⟨x, hx, ⟨h', _⟩ | ⟨_, c, hc, h1, h3, hy⟩ | ⟨_, h', _⟩⟩
        · exact (h h').elim
        · refine ⟨x, hx, c, hc, ?_⟩
          unfold stC
          rw [if_pos ⟨h1, h3⟩]
          rcases hy with ⟨e, h0, rfl⟩ | ⟨t, e, rfl⟩
          · rw [e]; simp [h0]
          · rw [e]; simp
        · exact (h' h2).elim
    · rename_i h2
      simp only [List.mem_flatMap, stI]
      constructor
      · rintro ⟨x, hx, o, ho, hy⟩
        split at hy
        · rename_i hc; simp at hy; exact ⟨x, hx, .inr (.inr ⟨h, h2, o, ho, hc.1, hc.2, hy⟩)⟩
        · cases hy
      · rintro ⟨x, hx, ⟨h', _⟩ | ⟨h', _⟩ | ⟨_, _, o, ho, h1, h3, rfl⟩⟩
        · exact (h h').elim
        · exact (h2 h').elim
        · exact ⟨x, hx, o, ho, by rw [if_pos ⟨h1, h3⟩]; simp⟩
theorem stepL_ok {l : List Sym} {N G k : Nat} {a : Auto} (hm : Made l N G a) {R : List At} {s : Int} (hR : ∀ x ∈ R, CfOk N G k x) : ∀ y ∈ stepL l a R s, CfOk N G (k + if kdf l s = 1 then 1 else 0) y := by
  intro y hy
  obtain ⟨x, hx, h⟩ := stepL_mem.1 hy
  obtain ⟨h1, h2, h3, h4⟩ := hR x hx
  rcases h with ⟨hk, o, ho, _, _, rfl⟩ | ⟨hk, c, hc, _, _, h⟩ | ⟨hk, hk2, r, hr, _, _, rfl⟩
  · obtain ⟨_, _, _, _, g1, g2, g3, g4⟩ := hm.opens o ho
    rw [if_pos hk]
    refine ⟨g1, g2, by simpa using h3, fun g hg => ?_⟩
    rcases List.mem_cons.1 hg with rfl | hg
    · exact ⟨g3, g4⟩
    · exact h4 g hg
  · obtain ⟨_, _, _, _, g1, g2, g3, g4⟩ := hm.closes c hc
    rcases h with ⟨_, _, rfl⟩ | ⟨t, e, rfl⟩
    · exact ⟨g3, g4, by simp, by simp⟩
    · rw [e] at h3 h4
      refine ⟨g3, g4, ?_, fun g hg => h4 g (by simp [hg])⟩
      simp at h3; dsimp only; omega
  · obtain ⟨_, _, _, _, g1, g2⟩ := hm.inners r hr
    exact ⟨g1, g2, Nat.le_trans h3 (by omega), h4⟩
theorem runL_ok {l : List Sym} {N G : Nat} {a : Auto} (hm : Made l N G a) : ∀ (w : List Int) (R : List At) (k : Nat), (∀ x ∈ R, CfOk N G k x) → ∀ y ∈ w.foldl (stepL l a) R, CfOk N G (k + nop l w) y
  | [], R, k, h => by simpa [nop] using h
  | s :: w, R, k, h => by
    intro y hy
    have := runL_ok hm w _ _ (stepL_ok hm (s := s) h) y hy
    refine this.le ?_
    unfold nop
    rw [List.filter_cons]
    by_cases hk : kdf l s = 1 <;> simp [hk] <;> omega
theorem startL_ok {l : List Sym} {N G : Nat} {a : Auto} (hm : Made l N G a) : ∀ x ∈ onceR (startL a), CfOk N G 0 x := by
  intro x hx
  rw [(onceR_spec _).2] at hx
  obtain ⟨q, hq, rfl⟩ := List.mem_map.1 hx
  exact ⟨(hm.init q hq).1, (hm.init q hq).2, by simp, by simp⟩
theorem runL_cf {l : List Sym} {N G : Nat} {a : Auto} (hm : Made l N G a) (w : List Int) : ∀ y ∈ runL l a w, CfOk N G (nop l w) y := by
  have := runL_ok hm w _ 0 (startL_ok hm); rw [Nat.zero_add] at this; exact this
theorem runL_ss (l : List Sym) (a : Auto) (w : List Int) : SS lessA (runL l a w) := by
  have : ∀ (w : List Int) (R : List At), SS lessA R → SS lessA (w.foldl (stepL l a) R) := fun w => by
    induction w with
    | nil => intro R h; exact h
    | cons s w ih => intro R h; exact ih _ (onceR_spec _).1
  exact this w _ (onceR_spec _).1
theorem runL_len {l : List Sym} {N G k : Nat} {a : Auto} (hm : Made l N G a) (w : List Int) (hk : nop l w ≤ k) : (runL l a w).length ≤ N * nstk G k := by
  rw [← confs_len]
  exact List.Nodup.length_le_of_subset ((runL_ss l a w).nodup stoA) fun x hx => ((runL_cf hm w x hx).le hk).mem
theorem fewG_nop (l : List Sym) (most : Int) : ∀ (w : List Int) (n : Int), n ≤ most → n + nop l (fewG l most w n) ≤ most
  | [], n, h => by simp [fewG, nop, h]
  | s :: w, n, h => by
    simp only [fewG]
    have hkk : kindOf l s = kdf l s := rfl
    rw [hkk]
    by_cases hk : kdf l s = 1
    · rw [if_pos hk]
      by_cases h2 : n + 1 > most
      · rw [if_pos h2]; simp [nop, h]
      · rw [if_neg h2]
        have := fewG_nop l most w (n + 1) (by omega)
        unfold nop at *
        rw [List.filter_cons, if_pos (by simp [hk]), List.length_cons]
        omega
    · rw [if_neg hk, if_neg (by omega)]
      have := fewG_nop l most w n h
      unfold nop at *
      rw [List.filter_cons, if_neg (by simp [hk])]
      exact this
theorem fewG_sub (l : List Sym) (most : Int) : ∀ (w : List Int) (n : Int), (fewG l most w n).Sublist w
  | [], n => .slnil
  | s :: w, n => by
    simp only [fewG]
    generalize (if kindOf l s = 1 then n + 1 else n) = n'
    by_cases h : n' > most
    · rw [if_pos h]; exact List.nil_sublist _
    · rw [if_neg h]; exact (fewG_sub l most w _).cons_cons s
theorem nop_take (l : List Sym) (w : List Int) (n : Nat) : nop l (w.take n) ≤ nop l w := ((List.take_sublist n w).filter _).length_le
end Go.Proofs.Ytcpgcenlgihmnaa.Abs
/- Plain laws: levels tell where a run may be. -/
set_option linter.unusedVariables false
set_option linter.unusedSimpArgs false
namespace Go.Proofs.Ytcpgcenlgihmnaa.Abs
open Go

def Ent' (a : Auto) : List Lev → Int → Int → List Int → Prop
  | [], _, _, stk => stk = []
  | u :: rest, b, p, stk => ∃ g s r p', stk = g :: s ∧ (r, b, p, g) ∈ a.opens ∧ (p', r) ∈ u.1 ∧ Ent' a rest u.2 p' s
def Live (a : Auto) : Lev → List Lev → Prop
  | _, [] => True
  | v, u :: rest => (∀ p q, (p, q) ∈ v.1 → ∃ stk, Ent' a (u :: rest) v.2 p stk) ∧ Live a u rest
theorem Live.ent {a : Auto} {v : Lev} {rest : List Lev} (h : Live a v rest) {p q : Int} (hp : (p, q) ∈ v.1) : ∃ stk, Ent' a rest v.2 p stk := by
  cases rest with
  | nil => exact ⟨[], rfl⟩
  | cons u rest => exact h.1 p q hp
theorem Live.tail {a : Auto} {v u : Lev} {rest : List Lev} (h : Live a v (u :: rest)) : Live a u rest := h.2
theorem Live.new {a : Auto} {v v' : Lev} {rest : List Lev} (h : Live a v rest) (h2 : ∀ p q, (p, q) ∈ v'.1 → ∃ stk, Ent' a rest v'.2 p stk) : Live a v' rest := by
  cases rest with
  | nil => trivial
  | cons u rest => exact ⟨h2, h.2⟩
structure Told (a : Auto) (st : Lev × List Lev) (R : List At) : Prop where
  mem : ∀ x : At, x ∈ R ↔ ∃ p, (p, x.1) ∈ st.1.1 ∧ Ent' a st.2.reverse st.1.2 p x.2
  live : Live a st.1 st.2.reverse
theorem nub_mem {l : List P2} {x : P2} : x ∈ nubP l ↔ x ∈ l := (nubP_spec l).2 x
theorem told_step {l : List Sym} {a : Auto} {st : Lev × List Lev} {R : List At} (h : Told a st R) (s : Int) : Told a (levS a l st s) (stepL l a R s) := by
  obtain ⟨hmem, hlive⟩ := h
  obtain ⟨⟨N, bn⟩, und⟩ := st
  dsimp only at hmem hlive
  unfold levS
  dsimp only
  by_cases hk1 : kdf l s = 1
  · rw [if_pos hk1]
    have hN : ∀ p q, (p, q) ∈ nubP (N.flatMap (opP a s)) ↔ p = q ∧ ∃ p0 o, (p0, o.1) ∈ N ∧ o ∈ a.opens ∧ o.2.1 = s ∧ o.2.2.1 = p := fun p q => by
      rw [nub_mem, List.mem_flatMap]
      constructor
      · rintro ⟨⟨p0, q0⟩, hp, hq⟩
        obtain ⟨o, ho, hq⟩ := List.mem_flatMap.1 hq
        unfold opO at hq
        split at hq
        · rename_i hc
          simp at hq
          exact ⟨by rw [hq.1, hq.2], p0, o, by rw [hc.1]; exact hp, ho, hc.2, hq.1.symm⟩
        · cases hq
      · rintro ⟨rfl, p0, o, hp, ho, h1, h2⟩
        exact ⟨(p0, o.1), hp, List.mem_flatMap.2 ⟨o, ho, by unfold opO; rw [if_pos ⟨rfl, h1⟩, h2]; simp⟩⟩
    refine ⟨fun x => ?_, ?_⟩
    · rw [stepL_mem]
      dsimp only
      rw [List.reverse_append, List.reverse_singleton, List.singleton_append]
      constructor
      · rintro ⟨y, hy, ⟨_, o, ho, h1, h2, rfl⟩ | ⟨h', _⟩ | ⟨h', _⟩⟩
        · obtain ⟨p, hp, he⟩ := (hmem y).1 hy
          exact ⟨o.2.2.1, (hN _ _).2 ⟨rfl, p, o, by rw [h1]; exact hp, ho, h2, rfl⟩, o.2.2.2, y.2, y.1, p, rfl, by rw [← h1, ← h2]; exact ho, hp, he⟩
        · omega
        · exact (h' hk1).elim
      · rintro ⟨p, hp, g, stk, r, p', hx, ho, hp', he⟩
        obtain ⟨hpq, _⟩ := (hN _ _).1 hp
        refine ⟨(r, stk), (hmem _).2 ⟨p', hp', he⟩, .inl ⟨hk1, _, ho, rfl, rfl, ?_⟩⟩
        exact Prod.ext hpq.symm hx
    · rw [List.reverse_append, List.reverse_singleton, List.singleton_append]
      refine ⟨fun p q hp => ?_, hlive⟩
      obtain ⟨_, p0, o, h0, ho, h1, h2⟩ := (hN p q).1 hp
      obtain ⟨stk, he⟩ := hlive.ent h0
      exact ⟨o.2.2.2 :: stk, o.2.2.2, stk, o.1, p0, rfl, by rw [← h1, ← h2]; exact ho, h0, he⟩
  rw [if_neg hk1]
  by_cases hk2 : kdf l s = 2
  · rw [if_pos hk2]
    rcases nil_or_snoc und with rfl | ⟨u0, u, rfl⟩
    · have hN : ∀ p q, (p, q) ∈ nubP (N.flatMap (clP a s)) ↔ ∃ c, (p, c.1) ∈ N ∧ c ∈ a.closes ∧ c.2.1 = s ∧ c.2.2.1 = 0 ∧ c.2.2.2 = q := fun p q => by
        rw [nub_mem, List.mem_flatMap]
        constructor
        · rintro ⟨⟨p0, q0⟩, hp, hq⟩
          obtain ⟨o, ho, hq⟩ := List.mem_flatMap.1 hq
          unfold clO at hq
          split at hq
          · rename_i hc
            simp at hq
            exact ⟨o, by rw [hc.1, hq.1]; exact hp, ho, hc.2.1, hc.2.2, hq.2.symm⟩
          · cases hq
        · rintro ⟨c, hp, hc, h1, h2, h3⟩
          exact ⟨(p, c.1), hp, List.mem_flatMap.2 ⟨c, hc, by unfold clO; rw [if_pos ⟨rfl, h1, h2⟩, h3]; simp⟩⟩
      refine ⟨fun x => ?_, trivial⟩
      rw [stepL_mem]
      show _ ↔ ∃ p, (p, x.1) ∈ nubP (N.flatMap (clP a s)) ∧ x.2 = []
      have hmem : ∀ x : At, x ∈ R ↔ ∃ p, (p, x.1) ∈ N ∧ x.2 = [] := hmem
      constructor
      · rintro ⟨y, hy, ⟨h', _⟩ | ⟨_, c, hc, h1, h2, h3⟩ | ⟨_, h', _⟩⟩
        · exact (hk1 h').elim
        · obtain ⟨p, hp, he⟩ := (hmem y).1 hy
          rcases h3 with ⟨_, h0, rfl⟩ | ⟨t, ht, rfl⟩
          · exact ⟨p, (hN _ _).2 ⟨c, by rw [h1]; exact hp, hc, h2, h0, rfl⟩, rfl⟩
          · rw [he] at ht; cases ht
        · exact (h' hk2).elim
      · rintro ⟨p, hp, hx⟩
        obtain ⟨c, h0, hc, h1, h2, h3⟩ := (hN _ _).1 hp
        refine ⟨(c.1, []), (hmem _).2 ⟨p, h0, rfl⟩, .inr (.inl ⟨hk2, c, hc, rfl, h1, .inl ⟨rfl, h2, ?_⟩⟩)⟩
        exact Prod.ext h3.symm hx
    · rw [List.getLast?_append]
      simp only [List.getLast?_singleton, Option.some_or, List.dropLast_concat]
      rw [List.reverse_append, List.reverse_singleton, List.singleton_append] at hmem hlive
      have hN : ∀ p q, (p, q) ∈ nubP (backL a u.1 N bn s) ↔ ∃ r o c, (p, r) ∈ u.1 ∧ o ∈ a.opens ∧ c ∈ a.closes ∧ o.1 = r ∧ o.2.1 = bn ∧ c.2.1 = s ∧ c.2.2.1 = o.2.2.2 ∧ (o.2.2.1, c.1) ∈ N ∧ c.2.2.2 = q := fun p q => by
        rw [nub_mem, backL, List.mem_flatMap]
        constructor
        · rintro ⟨⟨p0, r⟩, hp, hq⟩
          obtain ⟨o, ho, hq⟩ := List.mem_flatMap.1 hq
          unfold backO at hq
          split at hq
          · rename_i hc
            obtain ⟨c, hcc, hq⟩ := List.mem_flatMap.1 hq
            unfold backC at hq
            split at hq
            · rename_i hd
              simp at hq
              exact ⟨r, o, c, by rw [hq.1]; exact hp, ho, hcc, hc.1, hc.2, hd.1, hd.2.1, hd.2.2, hq.2.symm⟩
            · cases hq
          · cases hq
        · rintro ⟨r, o, c, hp, ho, hc, h1, h2, h3, h4, h5, h6⟩
          refine ⟨(p, r), hp, List.mem_flatMap.2 ⟨o, ho, ?_⟩⟩
          unfold backO
          rw [if_pos ⟨h1, h2⟩]
          refine List.mem_flatMap.2 ⟨c, hc, ?_⟩
          unfold backC
          rw [if_pos ⟨h3, h4, h5⟩, h6]; simp
      refine ⟨fun x => ?_, ?_⟩
      · rw [stepL_mem]
        dsimp only
        constructor
        · rintro ⟨y, hy, ⟨h', _⟩ | ⟨_, c, hc, h1, h2, h3⟩ | ⟨_, h', _⟩⟩
          · exact (hk1 h').elim
          · obtain ⟨p, hp, g, stk, r, p', he, ho, hp', hE⟩ := (hmem y).1 hy
            rcases h3 with ⟨h0, _, _⟩ | ⟨t, ht, rfl⟩
            · rw [h0] at he; cases he
            · rw [he] at ht
              simp only [List.cons.injEq] at ht
              obtain ⟨rfl, rfl⟩ := ht
              exact ⟨p', (hN _ _).2 ⟨r, _, c, hp', ho, hc, rfl, rfl, h2, rfl, by rw [h1]; exact hp, rfl⟩, hE⟩
          · exact (h' hk2).elim
        · rintro ⟨p', hp', hE⟩
          obtain ⟨r, ⟨o1, o2, o3, o4⟩, c, hu, ho, hc, h1, h2, h3, h4, h5, h6⟩ := (hN _ _).1 hp'
          dsimp only at h1 h2 h4 h5
          subst h1 h2
          refine ⟨(c.1, o4 :: x.2), (hmem _).2 ⟨o3, h5, o4, x.2, o1, p', rfl, ho, hu, hE⟩, .inr (.inl ⟨hk2, c, hc, rfl, h3, .inr ⟨x.2, by rw [h4], ?_⟩⟩)⟩
          exact Prod.ext h6.symm rfl
      · refine hlive.tail.new fun p q hp => ?_
        obtain ⟨r, o, c, hu, _⟩ := (hN _ _).1 hp
        exact hlive.tail.ent hu
  · rw [if_neg hk2]
    have hN : ∀ p q, (p, q) ∈ nubP (N.flatMap (innP a s)) ↔ ∃ r, (p, r.1) ∈ N ∧ r ∈ a.inners ∧ r.2.1 = s ∧ r.2.2 = q := fun p q => by
      rw [nub_mem, List.mem_flatMap]
      constructor
      · rintro ⟨⟨p0, q0⟩, hp, hq⟩
        obtain ⟨o, ho, hq⟩ := List.mem_flatMap.1 hq
        unfold innO at hq
        split at hq
        · rename_i hc
          simp at hq
          exact ⟨o, by rw [hc.1, hq.1]; exact hp, ho, hc.2, hq.2.symm⟩
        · cases hq
      · rintro ⟨c, hp, hc, h1, h3⟩
        exact ⟨(p, c.1), hp, List.mem_flatMap.2 ⟨c, hc, by unfold innO; rw [if_pos ⟨rfl, h1⟩, h3]; simp⟩⟩
    refine ⟨fun x => ?_, hlive.new fun p q hp => ?_⟩
    · rw [stepL_mem]
      dsimp only
      constructor
      · rintro ⟨y, hy, ⟨h', _⟩ | ⟨h', _⟩ | ⟨_, _, r, hr, h1, h2, rfl⟩⟩
        · exact (hk1 h').elim
        · exact (hk2 h').elim
        · obtain ⟨p, hp, he⟩ := (hmem y).1 hy
          exact ⟨p, (hN _ _).2 ⟨r, by rw [h1]; exact hp, hr, h2, rfl⟩, he⟩
      · rintro ⟨p, hp, he⟩
        obtain ⟨r, h0, hr, h1, h3⟩ := (hN _ _).1 hp
        refine ⟨(r.1, x.2), (hmem _).2 ⟨p, h0, he⟩, .inr (.inr ⟨hk1, hk2, r, hr, rfl, h1, ?_⟩)⟩
        exact Prod.ext h3.symm rfl
    · obtain ⟨r, h0, _⟩ := (hN _ _).1 hp
      exact hlive.ent h0
theorem told0 (a : Auto) : Told a (lev0 a) (onceR (startL a)) := by
  refine ⟨fun x => ?_, trivial⟩
  rw [(onceR_spec _).2]
  simp only [startL, lev0, nub_mem, List.mem_map, List.reverse_nil]
  constructor
  · rintro ⟨q, hq, rfl⟩
    exact ⟨q, ⟨q, hq, rfl⟩, rfl⟩
  · rintro ⟨p, ⟨q, hq, e⟩, hx⟩
    simp only [Prod.mk.injEq] at e
    exact ⟨q, hq, Prod.ext e.2 (show [] = x.2 from hx.symm)⟩
theorem told_run {l : List Sym} {a : Auto} : ∀ (w : List Int) (st : Lev × List Lev) (R : List At), Told a st R → Told a (w.foldl (levS a l) st) (w.foldl (stepL l a) R)
  | [], _, _, h => h
  | s :: w, st, R, h => told_run w _ _ (told_step h s)
theorem takF_ends (l : List Sym) (a : Auto) (w : List Int) : takF a l w = ends a (runL l a w) := by
  obtain ⟨hm, hl⟩ := told_run (l := l) w _ _ (told0 a)
  change ∀ x, x ∈ runL l a w ↔ _ at hm
  change Live a (levs a l w).1 (levs a l w).2.reverse at hl
  change ∀ x, x ∈ runL l a w ↔ ∃ p, (p, x.1) ∈ (levs a l w).1.1 ∧ Ent' a (levs a l w).2.reverse (levs a l w).1.2 p x.2 at hm
  rw [Bool.eq_iff_iff]
  unfold takF ends
  simp only [List.any_eq_true, decide_eq_true_eq, beq_iff_eq]
  constructor
  · rintro ⟨⟨p, q⟩, hp, hq⟩
    obtain ⟨stk, he⟩ := hl.ent hp
    exact ⟨(q, stk), (hm _).2 ⟨p, hp, he⟩, q, hq, rfl⟩
  · rintro ⟨x, hx, f, hf, e⟩
    obtain ⟨p, hp, _⟩ := (hm x).1 hx
    exact ⟨(p, x.1), hp, by subst e; exact hf⟩
end Go.Proofs.Ytcpgcenlgihmnaa.Abs
/- canopylaw4.RunsSteps: the walk. -/
set_option linter.unusedVariables false
set_option linter.unusedSimpArgs false
set_option maxRecDepth 100000
set_option maxHeartbeats 1000000
namespace Go.Proofs.Ytcpgcenlgihmnaa.Abs
open Go

theorem syms_len (n : Int) (ns : List Int) : 0 < (syms n ns).length ∧ (syms n ns).length ≤ 7 := by
  have h5 := within_lt (a := n) (n := 5) (by decide)
  have h3 : 0 < (syms7.take (3 + within n 5).toNat).length ∧ (syms7.take (3 + within n 5).toNat).length ≤ 7 := by
    rw [List.length_take, show syms7.length = 7 from rfl]; omega
  unfold syms
  split
  · exact ⟨by decide, by decide⟩
  · split
    · split
      · exact ⟨by simp, by simp⟩
      · exact h3
    · exact h3
structure SetUp (l : List Sym) (a : Auto) (w : List Int) (N G k : Nat) : Prop where
  l1 : l.length ≤ 1000
  made : Made l N G a
  few : Few 24 a
  w1 : ∀ s ∈ w, 0 ≤ s ∧ s.toNat < l.length
  w2 : w.length ≤ 100
  nop : nop l w ≤ k
  le : N * nstk G k ≤ 1000
  k1 : k ≤ 500
theorem SetUp.init_le {l : List Sym} {a : Auto} {w : List Int} {N G k : Nat} (h : SetUp l a w N G k) : a.init.length ≤ 24 := h.few.init
theorem SetUp.len {l : List Sym} {a : Auto} {w : List Int} {N G k : Nat} (h : SetUp l a w N G k) (n : Nat) : (runL l a (w.take n)).length ≤ 1000 := Nat.le_trans (runL_len h.made _ (Nat.le_trans (nop_take l w n) h.nop)) h.le
theorem SetUp.stk {l : List Sym} {a : Auto} {w : List Int} {N G k : Nat} (h : SetUp l a w N G k) (n : Nat) : ∀ x ∈ runL l a (w.take n), x.2.length ≤ 500 := fun x hx => by
  have := ((runL_cf h.made _ x hx).le (Nat.le_trans (nop_take l w n) h.nop)).2.2.1
  have := h.k1; omega
theorem SetUp.tgt {l : List Sym} {a : Auto} {w : List Int} {N G k : Nat} (h : SetUp l a w N G k) : (tgt a).length ≤ 1000 := by
  obtain ⟨h1, h2, h3, h4, h5⟩ := h.few
  simp [Abs.tgt]; omega
theorem word_mem {L : Nat} (hL : 0 < L) (ns : List Int) (m : Nat) : ∀ s ∈ word L ns m, 0 ≤ s ∧ s.toNat < L := by
  intro s hs
  obtain ⟨x, _, rfl⟩ := List.mem_map.1 hs
  have := within_lt (a := x) (n := L) (by omega)
  omega
theorem setUp (n size : Int) (ns ws : List Int) {most : Int} {m f : Nat} (hm : 0 < most) (hm2 : most ≤ 4) (hw : m ≤ 100) (hf : f ≤ 5) : SetUp (syms n ns) (make (syms n ns) size ns most) (few (syms n ns) (word (syms n ns).length ws m) f) (mkN size most) (mkG size) f := by
  obtain ⟨hl0, hl1⟩ := syms_len n ns
  obtain ⟨hN, hN2⟩ := mkN_pos (size := size) hm
  obtain ⟨hG, hG2⟩ := mkG_pos size
  refine ⟨by omega, make_made _ _ _ hm, (make_few _ _ _ _).1, fun s hs => word_mem hl0 ws m s ((fewG_sub _ _ _ _).subset hs), ?_, ?_, ?_, by omega⟩
  · have := (fewG_sub (syms n ns) (f : Int) (word (syms n ns).length ws m) 0).length_le
    have h2 : (word (syms n ns).length ws m).length ≤ m := by simp [word]; omega
    show (fewG (syms n ns) (f : Int) (word (syms n ns).length ws m) 0).length ≤ 100
    omega
  · have := fewG_nop (syms n ns) (f : Int) (word (syms n ns).length ws m) 0 (by omega)
    show Abs.nop (syms n ns) (fewG (syms n ns) (f : Int) (word (syms n ns).length ws m) 0) ≤ f
    omega
  · have hmono : ∀ G k, G ≤ 2 → nstk G k ≤ nstk 2 k := fun G k hG => by
      induction k with
      | zero => exact Nat.le_refl _
      | succ k ih => simp only [nstk]; have := Nat.mul_le_mul hG ih; omega
    have h5 : nstk 2 f ≤ 63 := by
      have : f = 0 ∨ f = 1 ∨ f = 2 ∨ f = 3 ∨ f = 4 ∨ f = 5 := by omega
      rcases this with rfl | rfl | rfl | rfl | rfl | rfl <;> decide
    have := Nat.mul_le_mul (show mkN size most ≤ 4 by omega) (Nat.le_trans (hmono (mkG size) f hG2) h5)
    omega
theorem start_fe {l : List Sym} {a : Auto} {w : List Int} {N G k : Nat} (h : SetUp l a w N G k) : startR a = runL l a (w.take 0) := by rw [← start_eq]; rfl

theorem c3 (n size : Int) (ns ws : List Int) (hs0 : -9223372036854775808 ≤ size) (hs1 : size ≤ 9223372036854775807) :
    CallsTo Try.prog 3 [.pv (.int .i64 n), .pv (.int .i64 size), .pv (il ns), .pv (il ws)] [] (.pv (.bool true)) [] := by
  have hsu := setUp n size ns ws (most := 4) (m := 14) (f := 5) (by omega) (by omega) (by omega) (by omega)
  obtain ⟨hl0, hl1⟩ := syms_len n ns
  refine callsTo_of (ann := []) Try.func3 rfl (by kernel_rfl) (by kernel_rfl) mixed tab_ok (Nat.le_of_ble_eq_true rfl) rfl ?_
  conv => whnf
  refine ACall_pv c16 rfl ?_
  repeat ((conv => whnf); first | refine ASpl_t ?_ | refine ASpl_f ?_)
  conv => whnf
  refine ACall_pv (c17 n ns) rfl ?_
  conv => whnf
  refine ACall_pv (c18 (syms n ns) size ns 4 (by omega) (by omega) (by omega) hs0 hs1) rfl ?_
  conv => whnf
  refine ACall_pv (c20 ((syms n ns).map es) ws 14 (by simpa using hl0) (by simp; omega) (by omega)) rfl ?_
  rw [List.length_map]
  conv => whnf
  refine ACall_pv (c19 (syms n ns) (word (syms n ns).length ws 14) 5 (word_mem hl0 ws 14) (by omega) (by omega) (by simp [word]; omega)) rfl ?_
  change SetUp _ _ (few (syms n ns) (word (syms n ns).length ws 14) 5) _ _ _ at hsu
  generalize few (syms n ns) (word (syms n ns).length ws 14) 5 = w at *
  generalize make (syms n ns) size ns 4 = a at *
  generalize syms n ns = l at *
  conv => whnf
  refine ACall_pv (c21 a (by have := hsu.init_le; omega)) rfl ?_
  conv => whnf
  refine ACall_pv (c22 a (by have := hsu.init_le; omega)) rfl ?_
  have e0 : onceR (startL a) = runL l a (w.take 0) := rfl
  rw [start_fe hsu, e0]
  conv => whnf
  refine AChk_intro (by kernel_rfl) ?_
  conv => whnf
  refine ACall_pv (c24 (runL l a (w.take 0)) (by have := hsu.len 0; omega)) rfl ?_
  conv => whnf
  refine ACall_pv (c23 (runL l a (w.take 0)) (runL l a (w.take 0)) (by have := hsu.len 0; omega) (fun x hx => by have := hsu.stk 0 x hx; omega)) rfl ?_
  rw [decide_eq_true rfl]
  repeat ((conv => whnf); first | refine ASpl_t ?_ | refine ASpl_f ?_)
  conv => whnf
  refine ALoop_intro (fun n : Nat => n ≤ w.length) (fun n => [(9, .pv (sl l)), (10, .bx 10 0), (11, .pv (il w)), (12, .pv (al (runL l a (w.take n)))), (13, .pv (al (runL l a (w.take n)))), (14, .pv (.int .i64 n))]) (fun _ => [(10, .box (autoC a))]) (fun n => w.length - n) 0 [] [] [] (by simp) ?_ ?_
  · repeat ((conv => whnf); first | refine AEq_intro (by first | with_reducible rfl | rfl) ?_ | refine APerm_intro (by first | exact .refl _ | assumption) ?_)
    trivial
  · intro n hn
    have hw2 := hsu.w2
    conv => whnf
    refine ASpl_intro (fun hc => ?_) (fun hc => ?_)
    · simp at hc
      obtain ⟨hs0, hs1⟩ := hsu.w1 w[n] (List.getElem_mem hc)
      have hR := hsu.len n
      have hS := hsu.stk n
      have hR2 := hsu.len (n + 1)
      have hS2 := hsu.stk (n + 1)
      obtain ⟨f1, f2, f3, f4, f5⟩ := hsu.few
      conv => whnf
      conv => whnf
      refine AIdx_map n rfl (by omega) ?_
      conv => whnf
      refine ACall_pv (c25 l a (runL l a (w.take n)) w[n] hsu.l1 hs0 hs1 (by omega) (fun x hx => by have := hS x hx; omega) (by omega) (by omega) (by omega)) rfl ?_
      conv => whnf
      refine AIdx_map n rfl (by omega) ?_
      conv => whnf
      refine ACall_pv (c26 l a (runL l a (w.take n)) w[n] (by omega) (by omega) (by omega) (by omega) (fun x hx => by have := hS x hx; omega)) rfl ?_
      rw [← stepL_eq hsu.made, ← runL_succ hc]
      conv => whnf
      refine AChk_intro (by kernel_rfl) ?_
      conv => whnf
      refine ACall_pv (c24 (runL l a (w.take (n + 1))) (by omega)) rfl ?_
      conv => whnf
      refine ACall_pv (c23 (runL l a (w.take (n + 1))) (runL l a (w.take (n + 1))) (by omega) (fun x hx => by have := hS2 x hx; omega)) rfl ?_
      rw [decide_eq_true rfl]
      repeat ((conv => whnf); first | refine ASpl_t ?_ | refine ASpl_f ?_)
      conv => whnf
      have hwn : IntKind.i64.wrap ((n : Int) + 1) = ((n + 1 : Nat) : Int) := wr (by omega) (by omega)
      rw [hwn]
      have hc27 : CallsTo Try.prog 27 [.pv (sl l), autoL a, .pv (.lst 1 (List.take (n + 1) (w.map ei)))] [] (.pv (.bool (ends a (runL l a (w.take (n + 1)))))) [] := by
        rw [← List.map_take, ← takF_ends]
        exact c27 l a (w.take (n + 1)) hsu.l1 (fun s hs => hsu.w1 s (List.mem_of_mem_take hs)) (by rw [List.length_take]; omega) (by omega) (by omega) (by omega) (by omega) (by omega) hsu.tgt
      conv => whnf
      refine ALe_intro (by omega) (by simp; omega) ?_
      repeat ((conv => whnf); first | refine ASpl_t ?_ | refine ASpl_f ?_)
      conv => whnf
      refine ACall_pv hc27 rfl ?_
      repeat ((conv => whnf); first | refine ASpl_t ?_ | refine ASpl_f ?_)
      conv => whnf
      refine ACall_pv (c28 a (runL l a (w.take (n + 1))) (by omega) (by omega)) rfl ?_
      have hbb : (!ends a (runL l a (w.take (n + 1))) == ends a (runL l a (w.take (n + 1)))) = false := by simp
      repeat ((conv => whnf); first | refine ASpl_t ?_ | refine ASpl_f ?_)
      conv => whnf
      refine AChk_intro (by kernel_rfl) ?_
      conv => whnf
      rw [hbb]
      repeat ((conv => whnf); first | refine ASpl_t ?_ | refine ASpl_f ?_)
      conv => whnf
      refine ABack_intro (n + 1) [] [] [] ?_ ?_ ?_
      · omega
      · show _ - (n + 1) < _ - n; omega
      · repeat ((conv => whnf); first | refine AEq_intro (by first | with_reducible rfl | (exact wrS n (by omega); done) | rfl) ?_ | refine APerm_intro (by first | exact .refl _ | assumption | (exact wrS n (by omega); done)) ?_)
        trivial
    · simp at hc
      conv => whnf
      conv => whnf
      refine AFin_intro [(8, _)] [] [] [] rfl ?_
      conv => whnf
      refine AEq_intro ?_ trivial
      rfl
end Go.Proofs.Ytcpgcenlgihmnaa.Abs
/- From a contract to a law's walk. -/
set_option linter.unusedVariables false
namespace Go.Proofs.Ytcpgcenlgihmnaa.Abs
open Go Go.RowKit

/-- A slice of integers that came in. -/
def IsRow (k : IntKind) (w : World) (a : Option Addr) (len cap : Nat) (zs : List Int) : Prop :=
  (a = none ∧ len = 0 ∧ cap = 0 ∧ zs = []) ∨
  ∃ x, a = some x ∧ len ≤ cap ∧ cap ≤ maxLen ∧ zs.length = cap ∧ (∀ i, i < zs.length → w.cell? (x.add i) = some (.int k (zs.getD i 0))) ∧ ∀ n ∈ zs, (Lit.int k n).wf = true
abbrev allB (w : World) (b : Nat) : Prop := b < w.heap.size
theorem cell_some {w : World} {x : Addr} {v : Value} (h : w.cell? x = some v) : x.spot = none ∧ x.block < w.heap.size := by
  unfold World.cell? at h
  split at h
  · rename_i c e f hb
    cases hs : x.spot with
    | none => exact ⟨rfl, (Array.getElem?_eq_some_iff.1 hb).1⟩
    | some s => simp [hs] at h
  · cases h
theorem IsRow.rep {w : World} {a : Option Addr} {len cap : Nat} {zs : List Int} (h : IsRow .i64 w a len cap zs) : Rep w (allB w) (.slice a len cap) (il (zs.take len)) := by
  rcases h with ⟨rfl, rfl, rfl, rfl⟩ | ⟨x, rfl, hl, hm, hz, hcell, hwf⟩
  · exact .lst none 0 1 [] 0 0 (fun _ _ => undef) (by simp) (by simp) (by simp) (by simp) (by simp)
  · have hlen : ((zs.take len).map fun x => [AV.int .i64 x]).length = len := by simp; omega
    have hcl : ∀ i, i < len → w.cell? ⟨x.block, x.off + i, none⟩ = some (.int .i64 (zs.getD i 0)) ∧ x.spot = none ∧ x.block < w.heap.size := fun i hi => by
      obtain ⟨hs, hb⟩ := cell_some (hcell 0 (by omega))
      rw [show x.add 0 = x from rfl] at hs hb
      have h := hcell i (by omega)
      have e : x.add i = ⟨x.block, x.off + i, none⟩ := by
        unfold Addr.add
        split
        · rename_i h0; subst h0; cases x; simp at hs; subst hs; rfl
        · rfl
      rw [e] at h
      exact ⟨h, hs, hb⟩
    have := Rep.lst (w := w) (S := allB w) (some x) cap 1 ((zs.take len).map fun x => [AV.int .i64 x]) x.block x.off (fun i _ => .int .i64 (zs.getD i 0)) (by omega) (fun hne => ?_) (fun i y hy => ?_) (fun i y j hy hj => ?_) (fun i y j v hy hv => ?_)
    · rw [hlen] at this; exact this
    · have hpos : 0 < len := by rw [← hlen]; exact List.length_pos_iff.2 hne
      obtain ⟨_, hs, hb⟩ := hcl 0 hpos
      exact ⟨by cases x; simp at hs; subst hs; rfl, hb⟩
    · rw [List.getElem?_map] at hy
      obtain ⟨z, _, rfl⟩ := Option.map_eq_some_iff.1 hy
      rfl
    · have hi : i < len := by rw [← hlen]; exact (List.getElem?_eq_some_iff.1 hy).1
      obtain rfl : j = 0 := by omega
      rw [Nat.mul_one, Nat.add_zero]
      exact (hcl i hi).1
    · have hi : i < len := by rw [← hlen]; exact (List.getElem?_eq_some_iff.1 hy).1
      rw [List.getElem?_map, List.getElem?_take_of_lt hi, Option.map_eq_some_iff] at hy
      obtain ⟨z, hz', rfl⟩ := hy
      rcases j with _ | j
      · cases hv
        have : zs.getD i 0 = z := by simp [List.getD, hz']
        rw [this]
        exact .int _ _
      · simp at hv
theorem wf_i64 {n : Int} (h : (Lit.int .i64 n).wf = true) : -9223372036854775808 ≤ n ∧ n ≤ 9223372036854775807 := by
  have h1 : IntKind.i64.min = -9223372036854775808 := by decide
  have h2 : IntKind.i64.max = 9223372036854775807 := by decide
  simp [Lit.wf, h1, h2] at h
  exact h
theorem walk_of {P : Program} {g : Nat} {lvs : List LV} {vs : Array Value} {w : World} (hc : CallsTo P g lvs [] (.pv (.bool true)) []) (hsz : vs.size = lvs.length)
    (hrep : ∀ (i : Nat) (v : Value) (l : LV), vs[i]? = some v → lvs[i]? = some l → RepL w (allB w) (fun _ => gv none 0) (lkO []) v l) :
    Calls P g vs w fun e w' => e = .returned (.bool true) ∧ Below w.heap.size w w' := by
  refine (hc.2 w (allB w) (fun _ => gv none 0) vs (fun _ h => h) ⟨fun k r _ h => (by cases h), fun k r b _ h => (by cases h), fun k k' r r' b _ _ h => (by cases h)⟩ hsz hrep).mono ?_
  rintro e w' ⟨v, S', γ', rfl, haft, _, _, _, hr⟩
  have hv : v = .bool true := by
    cases hr with
    | pv h => cases h; rfl
  refine ⟨by rw [hv], ?_⟩
  have hk : ∀ b, b < w.heap.size → w'.heap[b]? = w.heap[b]? := fun b hb => haft.kept b hb (fun ⟨k, r, _, h, _⟩ => by cases h)
  exact ⟨haft.os, haft.tape, haft.output.1, haft.size, hk⟩
end Go.Proofs.Ytcpgcenlgihmnaa.Abs
/- canopyref3.below, canopyref3.rows. -/
set_option linter.unusedVariables false
set_option linter.unusedSimpArgs false
set_option maxRecDepth 100000
set_option maxHeartbeats 1000000
namespace Go.Proofs.Ytcpgcenlgihmnaa.Abs
open Go

theorem keyOk109 : KeyOk Try.prog 109 (List.replicate 4 (.int .i64)) := KeyOk.array (el := 3) (len := 4) _ (by kernel_rfl) Try.sizeOf3 (by kernel_rfl) (by decide) (by kernel_rfl)
abbrev q4L (x : R4) : LV := .ag ((e4 x).map .pv)
def ltQ (a b : R4) : Bool := if a.1 ≠ b.1 then decide (a.1 < b.1) else if a.2.1 ≠ b.2.1 then decide (a.2.1 < b.2.1) else if a.2.2.1 ≠ b.2.2.1 then decide (a.2.2.1 < b.2.2.1) else decide (a.2.2.2 < b.2.2.2)
theorem ltQ_iff (a b : R4) : ltQ a b = true ↔ a.1 < b.1 ∨ (a.1 = b.1 ∧ (a.2.1 < b.2.1 ∨ (a.2.1 = b.2.1 ∧ (a.2.2.1 < b.2.2.1 ∨ (a.2.2.1 = b.2.2.1 ∧ a.2.2.2 < b.2.2.2))))) := by
  unfold ltQ
  split
  · rw [decide_eq_true_eq]; omega
  · split
    · rw [decide_eq_true_eq]; omega
    · split
      · rw [decide_eq_true_eq]; omega
      · rw [decide_eq_true_eq]; omega
theorem stoQ : STO ltQ := by
  refine ⟨fun a => ?_, fun a b c h1 h2 => ?_, fun a b h1 h2 => ?_⟩
  · rw [← Bool.not_eq_true, ltQ_iff]; omega
  · rw [ltQ_iff] at *; omega
  · rw [← Bool.not_eq_true, ltQ_iff] at *
    refine Prod.ext (by omega) (Prod.ext (by omega) (Prod.ext (by omega) (by omega)))
theorem c103 (x y : R4) : CallsTo Try.prog 103 [q4L x, q4L y] [] (.pv (.bool (ltQ x y))) [] := by
  refine callsTo_of (ann := []) Try.func103 rfl (by kernel_rfl) (by kernel_rfl) mixed tab_ok (Nat.le_of_ble_eq_true rfl) rfl ?_
  conv => whnf
  refine ALoop_intro (fun n : Nat => n ≤ 4 ∧ (1 ≤ n → x.1 = y.1) ∧ (2 ≤ n → x.2.1 = y.2.1) ∧ (3 ≤ n → x.2.2.1 = y.2.2.1) ∧ (4 ≤ n → x.2.2.2 = y.2.2.2)) (fun n => [(2, .bx 2 0), (3, .bx 3 0), (5, .pv (.int .i64 n))]) (fun _ => [(2, .box ((e4 x).map .pv)), (3, .box ((e4 y).map .pv))]) (fun n => 4 - n) 0 [] [] [] (by omega) ?_ ?_
  · repeat ((conv => whnf); first | refine AEq_intro (by first | with_reducible rfl | rfl) ?_ | refine APerm_intro (by first | exact .refl _ | assumption) ?_)
    trivial
  · rintro n ⟨h0, h1, h2, h3, h4⟩
    have hn : n = 0 ∨ n = 1 ∨ n = 2 ∨ n = 3 ∨ n = 4 := by omega
    rcases hn with rfl | rfl | rfl | rfl | rfl
    · conv => whnf
      refine ASpl_intro (fun hc => ?_) (fun hc => ?_)
      · conv => whnf
        refine AChk_intro (by kernel_rfl) ?_
        conv => whnf
        refine ASpl_intro (fun g1 => ?_) (fun g1 => ?_) <;> rw [g1]
        · repeat ((conv => whnf); first | refine ASpl_t ?_ | refine ASpl_f ?_)
          conv => whnf
          refine AChk_intro (by kernel_rfl) ?_
          conv => whnf
          refine AFin_intro [(4, _)] [] [] [] rfl ?_
          conv => whnf
          refine AEq_intro ?_ trivial
          simp only [bne_iff_ne, ne_eq] at g1
          simp [ltQ, g1]
        · repeat ((conv => whnf); first | refine ASpl_t ?_ | refine ASpl_f ?_)
          simp only [bne_eq_false_iff_eq] at g1
          conv => whnf
          refine ABack_intro 1 [] [] [] ?_ ?_ ?_
          · exact ⟨by omega, fun _ => g1, by omega, by omega, by omega⟩
          · decide
          · repeat ((conv => whnf); first | refine AEq_intro (by first | with_reducible rfl | (exact wrS 0 (by omega); done) | rfl) ?_ | refine APerm_intro (by first | exact .refl _ | assumption | (exact wrS 0 (by omega); done)) ?_)
            trivial
      · simp at hc
    · conv => whnf
      refine ASpl_intro (fun hc => ?_) (fun hc => ?_)
      · conv => whnf
        refine AChk_intro (by kernel_rfl) ?_
        conv => whnf
        refine ASpl_intro (fun g1 => ?_) (fun g1 => ?_) <;> rw [g1]
        · repeat ((conv => whnf); first | refine ASpl_t ?_ | refine ASpl_f ?_)
          conv => whnf
          refine AChk_intro (by kernel_rfl) ?_
          conv => whnf
          refine AFin_intro [(4, _)] [] [] [] rfl ?_
          conv => whnf
          refine AEq_intro ?_ trivial
          simp only [bne_iff_ne, ne_eq] at g1
          simp [ltQ, h1 (by omega), g1]
        · repeat ((conv => whnf); first | refine ASpl_t ?_ | refine ASpl_f ?_)
          simp only [bne_eq_false_iff_eq] at g1
          conv => whnf
          refine ABack_intro 2 [] [] [] ?_ ?_ ?_
          · exact ⟨by omega, fun _ => h1 (by omega), fun _ => g1, by omega, by omega⟩
          · decide
          · repeat ((conv => whnf); first | refine AEq_intro (by first | with_reducible rfl | (exact wrS 1 (by omega); done) | rfl) ?_ | refine APerm_intro (by first | exact .refl _ | assumption | (exact wrS 1 (by omega); done)) ?_)
            trivial
      · simp at hc
    · conv => whnf
      refine ASpl_intro (fun hc => ?_) (fun hc => ?_)
      · conv => whnf
        refine AChk_intro (by kernel_rfl) ?_
        conv => whnf
        refine ASpl_intro (fun g1 => ?_) (fun g1 => ?_) <;> rw [g1]
        · repeat ((conv => whnf); first | refine ASpl_t ?_ | refine ASpl_f ?_)
          conv => whnf
          refine AChk_intro (by kernel_rfl) ?_
          conv => whnf
          refine AFin_intro [(4, _)] [] [] [] rfl ?_
          conv => whnf
          refine AEq_intro ?_ trivial
          simp only [bne_iff_ne, ne_eq] at g1
          simp [ltQ, h1 (by omega), h2 (by omega), g1]
        · repeat ((conv => whnf); first | refine ASpl_t ?_ | refine ASpl_f ?_)
          simp only [bne_eq_false_iff_eq] at g1
          conv => whnf
          refine ABack_intro 3 [] [] [] ?_ ?_ ?_
          · exact ⟨by omega, fun _ => h1 (by omega), fun _ => h2 (by omega), fun _ => g1, by omega⟩
          · decide
          · repeat ((conv => whnf); first | refine AEq_intro (by first | with_reducible rfl | (exact wrS 2 (by omega); done) | rfl) ?_ | refine APerm_intro (by first | exact .refl _ | assumption | (exact wrS 2 (by omega); done)) ?_)
            trivial
      · simp at hc
    · conv => whnf
      refine ASpl_intro (fun hc => ?_) (fun hc => ?_)
      · conv => whnf
        refine AChk_intro (by kernel_rfl) ?_
        conv => whnf
        refine ASpl_intro (fun g1 => ?_) (fun g1 => ?_) <;> rw [g1]
        · repeat ((conv => whnf); first | refine ASpl_t ?_ | refine ASpl_f ?_)
          conv => whnf
          refine AChk_intro (by kernel_rfl) ?_
          conv => whnf
          refine AFin_intro [(4, _)] [] [] [] rfl ?_
          conv => whnf
          refine AEq_intro ?_ trivial
          simp only [bne_iff_ne, ne_eq] at g1
          simp [ltQ, h1 (by omega), h2 (by omega), h3 (by omega), g1]
        · repeat ((conv => whnf); first | refine ASpl_t ?_ | refine ASpl_f ?_)
          simp only [bne_eq_false_iff_eq] at g1
          conv => whnf
          refine ABack_intro 4 [] [] [] ?_ ?_ ?_
          · exact ⟨by omega, fun _ => h1 (by omega), fun _ => h2 (by omega), fun _ => h3 (by omega), fun _ => g1⟩
          · decide
          · repeat ((conv => whnf); first | refine AEq_intro (by first | with_reducible rfl | (exact wrS 3 (by omega); done) | rfl) ?_ | refine APerm_intro (by first | exact .refl _ | assumption | (exact wrS 3 (by omega); done)) ?_)
            trivial
      · simp at hc
    · conv => whnf
      refine ASpl_intro (fun hc => ?_) (fun hc => ?_)
      · simp at hc
      · repeat ((conv => whnf); first | refine ASpl_t ?_ | refine ASpl_f ?_)
        conv => whnf
        refine AFin_intro [(4, _)] [] [] [] rfl ?_
        conv => whnf
        refine AEq_intro ?_ trivial
        simp [ltQ, h1 (by omega), h2 (by omega), h3 (by omega), h4 (by omega)]
end Go.Proofs.Ytcpgcenlgihmnaa.Abs
/- canopyref3.rows. -/
set_option linter.unusedVariables false
set_option linter.unusedSimpArgs false
set_option maxRecDepth 100000
set_option maxHeartbeats 1000000
namespace Go.Proofs.Ytcpgcenlgihmnaa.Abs
open Go

def uniqQ (l : List R4) : List R4 := l.foldl (insG ltQ (0, 0, 0, 0)) []
theorem uniqQ_spec (l : List R4) : SS ltQ (uniqQ l) ∧ ∀ y, y ∈ uniqQ l ↔ y ∈ l := by
  obtain ⟨h1, h2⟩ := insGs_spec stoQ (0, 0, 0, 0) l [] List.Pairwise.nil
  exact ⟨h1, fun y => by rw [uniqQ, h2]; simp⟩
theorem uniqQ_of {l l' : List R4} (hs : SS ltQ l') (hm : ∀ y, y ∈ l' ↔ y ∈ l) : l' = uniqQ l := SS.ext stoQ hs (uniqQ_spec l).1 fun y => by rw [hm, (uniqQ_spec l).2]
theorem uniqQ_len (l : List R4) : (uniqQ l).length ≤ l.length := List.Nodup.length_le_of_subset ((uniqQ_spec l).1.nodup stoQ) fun x hx => ((uniqQ_spec l).2 x).1 hx
def addL (out : List R4) (x : R4) : List R4 := if out.getLast? = some x then out else out ++ [x]
structure MI (dn rs out : List R4) : Prop where
  ss : SS ltQ out
  mem : ∀ y, y ∈ out ↔ y ∈ dn
  low : ∀ z ∈ out, ∀ y ∈ rs, ltQ y z = false
theorem MI.add {dn rs out dn' rs' : List R4} (h : MI dn rs out) {x : R4} (hx : x ∈ rs) (h1 : ∀ y ∈ rs', ltQ y x = false) (h2 : ∀ y ∈ rs', y ∈ rs) (h3 : ∀ y, y ∈ dn' ↔ y = x ∨ y ∈ dn) : MI dn' rs' (addL out x) := by
  unfold addL
  split
  · rename_i hl
    have hxo : x ∈ out := List.mem_of_getLast? hl
    refine ⟨h.ss, fun y => ?_, fun z hz y hy => h.low z hz y (h2 y hy)⟩
    rw [h3, h.mem]
    exact ⟨.inr, fun hy => hy.elim (fun e => e ▸ (h.mem x).1 hxo) id⟩
  · rename_i hl
    have hlt : ∀ z ∈ out, ltQ z x = true := by
      rcases nil_or_snoc out with rfl | ⟨o0, t, rfl⟩
      · simp
      · have hne : t ≠ x := fun e => hl (by rw [e]; simp)
        have ht : ltQ t x = true := by
          cases hh : ltQ t x with
          | true => rfl
          | false => exact (hne (stoQ.tri _ _ hh (h.low t (by simp) x hx))).elim
        intro z hz
        rcases List.mem_append.1 hz with hz | hz
        · exact stoQ.tra _ _ _ ((List.pairwise_append.1 h.ss).2.2 z hz t (by simp)) ht
        · simp at hz; subst hz; exact ht
    refine ⟨?_, fun y => ?_, fun z hz y hy => ?_⟩
    · rw [SS, List.pairwise_append]
      exact ⟨h.ss, by simp, fun z hz y hy => by simp at hy; subst hy; exact hlt z hz⟩
    · rw [h3, List.mem_append, h.mem]; simp [or_comm]
    · rcases List.mem_append.1 hz with hz | hz
      · exact h.low z hz y (h2 y hy)
      · simp at hz; subst hz; exact h1 y hy
theorem drop_mem {l : List R4} {i : Nat} (h : i < l.length) : l.drop i = l[i] :: l.drop (i + 1) := List.drop_eq_getElem_cons h
theorem mem_ds {l : List R4} {i : Nat} (h : i < l.length) : l[i] ∈ l.drop i := by rw [drop_mem h]; exact List.mem_cons_self
theorem mem_dn {l : List R4} {i : Nat} (h : i < l.length) {y : R4} (hy : y ∈ l.drop (i + 1)) : y ∈ l.drop i := by rw [drop_mem h]; exact List.mem_cons_of_mem _ hy
theorem ss_low {l : List R4} (hs : SS ltQ l) {i : Nat} (h : i < l.length) : ∀ y ∈ l.drop i, ltQ y l[i] = false := by
  intro y hy
  rw [drop_mem h] at hy
  rcases List.mem_cons.1 hy with rfl | hy
  · exact stoQ.irr _
  · have := hs.sublist (List.drop_sublist i l)
    rw [drop_mem h, List.pairwise_cons] at this
    exact stoQ.asy (this.1 y hy)
abbrev MJ (A B : List R4) (i k : Nat) (out : List R4) : Prop := MI (A.take i ++ B.take k) (A.drop i ++ B.drop k) out
theorem take_mem {l : List R4} {i : Nat} (h : i < l.length) (y : R4) : y ∈ l.take (i + 1) ↔ y = l[i] ∨ y ∈ l.take i := by rw [← List.take_append_getElem h, List.mem_append]; simp [or_comm]
theorem MJ.left {A B : List R4} {i k : Nat} {out : List R4} (h : MJ A B i k out) (hA : SS ltQ A) (hB : SS ltQ B) (hi : i < A.length) (hk : ∀ hk : k < B.length, ltQ B[k] A[i] = false) : MJ A B (i + 1) k (addL out A[i]) := by
  refine MI.add h (List.mem_append.2 (.inl (mem_ds hi))) (fun y hy => ?_) (fun y hy => ?_) (fun y => ?_)
  · rcases List.mem_append.1 hy with hy | hy
    · exact ss_low hA hi y (by rw [drop_mem hi]; exact List.mem_cons_of_mem _ hy)
    · by_cases hkl : k < B.length
      · have := ss_low hB hkl y hy
        cases hh : ltQ y A[i] with
        | false => rfl
        | true =>
          cases h3 : ltQ B[k] y with
          | true => have := stoQ.tra _ _ _ h3 hh; rw [hk hkl] at this; cases this
          | false => have e := stoQ.tri _ _ this h3; rw [e, hk hkl] at hh; cases hh
      · rw [List.drop_eq_nil_of_le (by omega)] at hy; cases hy
  · exact List.mem_append.2 ((List.mem_append.1 hy).imp (mem_dn hi) id)
  · rw [List.mem_append, take_mem hi, List.mem_append, or_assoc]
theorem MJ.right {A B : List R4} {i k : Nat} {out : List R4} (h : MJ A B i k out) (hA : SS ltQ A) (hB : SS ltQ B) (hk : k < B.length) (hi : ∀ hi : i < A.length, ltQ A[i] B[k] = false) : MJ A B i (k + 1) (addL out B[k]) := by
  refine MI.add h (List.mem_append.2 (.inr (mem_ds hk))) (fun y hy => ?_) (fun y hy => ?_) (fun y => ?_)
  · rcases List.mem_append.1 hy with hy | hy
    · by_cases hkl : i < A.length
      · have := ss_low hA hkl y hy
        cases hh : ltQ y B[k] with
        | false => rfl
        | true =>
          cases h3 : ltQ A[i] y with
          | true => have := stoQ.tra _ _ _ h3 hh; rw [hi hkl] at this; cases this
          | false => have e := stoQ.tri _ _ this h3; rw [e, hi hkl] at hh; cases hh
      · rw [List.drop_eq_nil_of_le (by omega)] at hy; cases hy
    · exact ss_low hB hk y (by rw [drop_mem hk]; exact List.mem_cons_of_mem _ hy)
  · exact List.mem_append.2 ((List.mem_append.1 hy).imp id (mem_dn hk))
  · rw [List.mem_append, take_mem hk, List.mem_append]; simp [or_left_comm]
theorem addL_len (out : List R4) (x : R4) : (addL out x).length ≤ out.length + 1 := by unfold addL; split <;> simp

theorem e4_inj {a b : R4} (h : e4 a = e4 b) : a = b := by
  injection h with h1 h
  injection h with h2 h
  injection h with h3 h
  injection h with h4 h
  injection h1 with _ h1
  injection h2 with _ h2
  injection h3 with _ h3
  injection h4 with _ h4
  exact Prod.ext h1 (Prod.ext h2 (Prod.ext h3 h4))
theorem c67 (n : Nat) : ∀ xs : List R4, xs.length = n → xs.length ≤ 1000000 → CallsTo Try.prog 67 [.pv (l4 xs)] [] (.pv (l4 (uniqQ xs))) [] := by
  induction n using Nat.strongRecOn with
  | _ n ih =>
  intro xs hn hl
  refine callsTo_of (ann := []) Try.func67 rfl (by kernel_rfl) (by kernel_rfl) mixed tab_ok (Nat.le_of_ble_eq_true rfl) rfl ?_
  conv => whnf
  refine ASpl_intro (fun h1 => ?_) (fun h1 => ?_) <;> rw [h1]
  · simp at h1
    have hxe : xs = uniqQ xs := uniqQ_of (by
      match xs, h1 with
      | [], _ => exact List.Pairwise.nil
      | [x], _ => exact List.pairwise_singleton _ _
      | _ :: _ :: _, h => simp at h; omega) (fun _ => Iff.rfl)
    conv => whnf
    conv => whnf
    refine AFin_intro [(2, _)] [] [] [] rfl ?_
    conv => whnf
    refine AEq_intro ?_ trivial
    rw [← hxe]
  · simp at h1
    conv => whnf
    refine ANe0_intro (by decide) ?_
    conv => whnf
    have hq : IntKind.i64.wrap (Int.tdiv ((xs.map e4).length : Int) 2) = ((xs.length / 2 : Nat) : Int) := by
      rw [List.length_map]
      have : Int.tdiv (xs.length : Int) 2 = ((xs.length / 2 : Nat) : Int) := by rw [Int.tdiv_eq_ediv_of_nonneg (by omega)]; omega
      rw [this]; exact wr (by omega) (by omega)
    rw [hq]
    have hh : xs.length / 2 < xs.length := by omega
    have hcA : CallsTo Try.prog 67 [.pv (.lst 4 (List.take (xs.length / 2) (xs.map e4)))] [] (.pv (l4 (uniqQ (xs.take (xs.length / 2))))) [] := by
      rw [← List.map_take]
      exact ih (xs.take (xs.length / 2)).length (by rw [List.length_take]; omega) _ rfl (by rw [List.length_take]; omega)
    conv => whnf
    refine ALe_intro (by omega) (by simp; omega) ?_
    conv => whnf
    refine ACall_pv hcA rfl ?_
    conv => whnf
    refine ANe0_intro (by decide) ?_
    conv => whnf
    rw [hq]
    have hcB : CallsTo Try.prog 67 [.pv (.lst 4 (List.drop (xs.length / 2) (xs.map e4)))] [] (.pv (l4 (uniqQ (xs.drop (xs.length / 2))))) [] := by
      rw [← List.map_drop]
      exact ih (xs.drop (xs.length / 2)).length (by rw [List.length_drop]; omega) _ rfl (by rw [List.length_drop]; omega)
    have hcB' : CallsTo Try.prog 67 [.pv (.lst 4 (List.drop (xs.length / 2) (List.take (xs.map e4).length (xs.map e4))))] [] (.pv (l4 (uniqQ (xs.drop (xs.length / 2))))) [] := by
      rw [List.take_length]; exact hcB
    conv => whnf
    refine ALe_intro (by omega) (by simp; omega) ?_
    conv => whnf
    first
      | refine ACall_pv hcB rfl ?_
      | refine ACall_pv hcB' rfl ?_
    have hAs := uniqQ_spec (xs.take (xs.length / 2))
    have hBs := uniqQ_spec (xs.drop (xs.length / 2))
    have hAl := uniqQ_len (xs.take (xs.length / 2))
    have hBl := uniqQ_len (xs.drop (xs.length / 2))
    rw [List.length_take] at hAl
    rw [List.length_drop] at hBl
    have hres : ∀ out, SS ltQ out → (∀ y, y ∈ out ↔ y ∈ uniqQ (xs.take (xs.length / 2)) ∨ y ∈ uniqQ (xs.drop (xs.length / 2))) → out = uniqQ xs := fun out h1 h2 => uniqQ_of h1 fun y => by
      rw [h2, hAs.2, hBs.2, ← List.mem_append, List.take_append_drop]
    generalize uniqQ (xs.take (xs.length / 2)) = A at *
    generalize uniqQ (xs.drop (xs.length / 2)) = B at *
    conv => whnf
    refine AChk_intro (by kernel_rfl) ?_
    conv => whnf
    refine ALoop_intro (fun (⟨i, k, out⟩ : Nat × Nat × List R4) => i ≤ A.length ∧ k ≤ B.length ∧ out.length ≤ i + k ∧ MJ A B i k out) (fun ⟨i, k, out⟩ => [(3, .pv (l4 A)), (4, .pv (l4 B)), (5, .rw 5 out.length), (6, .pv (.int .i64 i)), (7, .pv (.int .i64 k))]) (fun ⟨i, k, out⟩ => [(5, .row 4 (out.map e4))]) (fun i => (A.length - i.1) + (B.length - i.2.1)) (0, 0, []) [] [] [] ⟨by omega, by omega, by simp, ⟨List.Pairwise.nil, by simp, by simp⟩⟩ ?_ ?_
    · repeat ((conv => whnf); first | refine AEq_intro (by first | with_reducible rfl | (simp; done) | rfl) ?_ | refine APerm_intro (by first | exact .refl _ | assumption | (simp; done)) ?_)
      trivial
    · rintro ⟨i, k, out⟩ ⟨hi, hk, ho, hM⟩
      conv => whnf
      refine ASpl_intro (fun c1 => ?_) (fun c1 => ?_) <;> rw [c1]
      · simp at c1
        have hiA : i < A.length := by omega
        repeat ((conv => whnf); first | refine ASpl_t ?_ | refine ASpl_f ?_)
        conv => whnf
        conv => whnf
        refine ASpl_intro (fun g1 => ?_) (fun g1 => ?_) <;> rw [g1]
        · simp at g1
          repeat ((conv => whnf); first | refine ASpl_t ?_ | refine ASpl_f ?_)
          conv => whnf
          refine AChk_intro (by kernel_rfl) ?_
          repeat ((conv => whnf); first | refine ASpl_t ?_ | refine ASpl_f ?_)
          have hM2 := hM.left hAs.1 hBs.1 hiA (fun h => by omega)
          conv => whnf
          conv => whnf
          refine AIdx_map i rfl (by omega) ?_
          have hlenx : e4 A[i] = e4 A[i] := rfl
          generalize A[i] = x at *
          conv => whnf
          refine ASpl_intro (fun z => ?_) (fun z => ?_) <;> rw [z]
          · simp at z
            subst z
            repeat ((conv => whnf); first | refine ASpl_t ?_ | refine ASpl_f ?_)
            conv => whnf
            refine AChk_intro (by kernel_rfl) ?_
            repeat ((conv => whnf); first | refine ASpl_t ?_ | refine ASpl_f ?_)
            conv => whnf
            refine AFits_intro (by simp <;> omega) ?_
            conv => whnf
            refine ABack_intro (i + 1, k, [x]) [(5, 86)] [] [] ?_ ?_ ?_
            · exact ⟨by show _ ≤ _; omega, by show _ ≤ _; omega, by simp; omega, by simpa [addL] using hM2⟩
            · show (A.length - (i + 1)) + (B.length - (k)) < (A.length - i) + (B.length - k); omega
            · repeat ((conv => whnf); first | refine AEq_intro (by first | with_reducible rfl | (simp; done) | (exact wrS i (by omega); done) | rfl) ?_ | refine APerm_intro (by first | exact .refl _ | assumption | (simp; done) | (exact wrS i (by omega); done)) ?_)
              trivial
          · rcases nil_or_snoc out with rfl | ⟨o0, t, rfl⟩
            · simp at z
            have hwr : IntKind.i64.wrap ((((o0 ++ [t]).length : Nat) : Int) - 1) = (o0.length : Int) := by
              have e1 : (o0 ++ [t]).length = o0.length + 1 := by simp
              rw [e1] at ho ⊢
              rw [show ((o0.length + 1 : Nat) : Int) - 1 = o0.length by omega]; exact wr (by omega) (by omega)
            repeat ((conv => whnf); first | refine ASpl_t ?_ | refine ASpl_f ?_)
            conv => whnf
            rw [hwr]
            conv => whnf
            refine ARow_intro (by omega) (by simp; omega) ?_
            repeat ((conv => whnf); first | refine ASpl_t ?_ | refine ASpl_f ?_)
            conv => whnf
            refine AGet_intro (e4 t) (by simp) ?_
            repeat ((conv => whnf); first | refine ASpl_t ?_ | refine ASpl_f ?_)
            conv => whnf
            have he4 : e4 t = e4 x ↔ t = x := ⟨e4_inj, fun h => by rw [h]⟩
            refine AEqv_intro _ (decide (t = x)) keyOk109 rfl rfl (by rw [decide_eq_true_eq]; exact he4.symm) ?_
            rcases Classical.em (t = x) with e | e
            · rw [decide_eq_true e]
              repeat ((conv => whnf); first | refine ASpl_t ?_ | refine ASpl_f ?_)
              conv => whnf
              refine AChk_intro (by kernel_rfl) ?_
              repeat ((conv => whnf); first | refine ASpl_t ?_ | refine ASpl_f ?_)
              conv => whnf
              conv => whnf
              refine ABack_intro (i + 1, k, o0 ++ [t]) [] [] [] ?_ ?_ ?_
              · exact ⟨by show _ ≤ _; omega, by show _ ≤ _; omega, by simp at ho ⊢; omega, by simpa [addL, e] using hM2⟩
              · show (A.length - (i + 1)) + (B.length - (k)) < (A.length - i) + (B.length - k); omega
              · repeat ((conv => whnf); first | refine AEq_intro (by first | with_reducible rfl | (simp; done) | (exact wrS i (by omega); done) | rfl) ?_ | refine APerm_intro (by first | exact .refl _ | assumption | (simp; done) | (exact wrS i (by omega); done)) ?_)
                trivial
            · rw [decide_eq_false e]
              repeat ((conv => whnf); first | refine ASpl_t ?_ | refine ASpl_f ?_)
              conv => whnf
              refine AChk_intro (by kernel_rfl) ?_
              repeat ((conv => whnf); first | refine ASpl_t ?_ | refine ASpl_f ?_)
              conv => whnf
              refine AFits_intro (by simp at ho ⊢; omega) ?_
              conv => whnf
              refine ABack_intro (i + 1, k, o0 ++ [t] ++ [x]) [(5, 86)] [] [] ?_ ?_ ?_
              · exact ⟨by show _ ≤ _; omega, by show _ ≤ _; omega, by simp at ho ⊢; omega, by simpa [addL, e] using hM2⟩
              · show (A.length - (i + 1)) + (B.length - (k)) < (A.length - i) + (B.length - k); omega
              · repeat ((conv => whnf); first | refine AEq_intro (by first | with_reducible rfl | ((exact wrS i (by omega)); done) | ((simp; done); done) | ((rw [List.take_of_length_le (by simp)]; simp); done) | rfl) ?_ | refine APerm_intro (by first | exact .refl _ | assumption | ((exact wrS i (by omega)); done) | ((simp; done); done) | ((rw [List.take_of_length_le (by simp)]; simp); done)) ?_)
                trivial
        · simp at g1
          have hkB : k < B.length := by omega
          repeat ((conv => whnf); first | refine ASpl_t ?_ | refine ASpl_f ?_)
          conv => whnf
          refine ASpl_intro (fun g2 => ?_) (fun g2 => ?_) <;> rw [g2]
          · repeat ((conv => whnf); first | refine ASpl_t ?_ | refine ASpl_f ?_)
            conv => whnf
            refine AIdx_map k rfl (by omega) ?_
            repeat ((conv => whnf); first | refine ASpl_t ?_ | refine ASpl_f ?_)
            conv => whnf
            refine AIdx_map i rfl (by omega) ?_
            repeat ((conv => whnf); first | refine ASpl_t ?_ | refine ASpl_f ?_)
            conv => whnf
            refine ACall_pv (c103 B[k] A[i]) rfl ?_
            cases hq : ltQ B[k] A[i] with
            | false =>
              repeat ((conv => whnf); first | refine ASpl_t ?_ | refine ASpl_f ?_)
              conv => whnf
              refine AChk_intro (by kernel_rfl) ?_
              repeat ((conv => whnf); first | refine ASpl_t ?_ | refine ASpl_f ?_)
              have hM2 := hM.left hAs.1 hBs.1 hiA (fun h => hq)
              conv => whnf
              conv => whnf
              refine AIdx_map i rfl (by omega) ?_
              have hlenx : e4 A[i] = e4 A[i] := rfl
              generalize A[i] = x at *
              conv => whnf
              refine ASpl_intro (fun z => ?_) (fun z => ?_) <;> rw [z]
              · simp at z
                subst z
                repeat ((conv => whnf); first | refine ASpl_t ?_ | refine ASpl_f ?_)
                conv => whnf
                refine AChk_intro (by kernel_rfl) ?_
                repeat ((conv => whnf); first | refine ASpl_t ?_ | refine ASpl_f ?_)
                conv => whnf
                refine AFits_intro (by simp <;> omega) ?_
                conv => whnf
                refine ABack_intro (i + 1, k, [x]) [(5, 86)] [] [] ?_ ?_ ?_
                · exact ⟨by show _ ≤ _; omega, by show _ ≤ _; omega, by simp; omega, by simpa [addL] using hM2⟩
                · show (A.length - (i + 1)) + (B.length - (k)) < (A.length - i) + (B.length - k); omega
                · repeat ((conv => whnf); first | refine AEq_intro (by first | with_reducible rfl | (simp; done) | (exact wrS i (by omega); done) | rfl) ?_ | refine APerm_intro (by first | exact .refl _ | assumption | (simp; done) | (exact wrS i (by omega); done)) ?_)
                  trivial
              · rcases nil_or_snoc out with rfl | ⟨o0, t, rfl⟩
                · simp at z
                have hwr : IntKind.i64.wrap ((((o0 ++ [t]).length : Nat) : Int) - 1) = (o0.length : Int) := by
                  have e1 : (o0 ++ [t]).length = o0.length + 1 := by simp
                  rw [e1] at ho ⊢
                  rw [show ((o0.length + 1 : Nat) : Int) - 1 = o0.length by omega]; exact wr (by omega) (by omega)
                repeat ((conv => whnf); first | refine ASpl_t ?_ | refine ASpl_f ?_)
                conv => whnf
                rw [hwr]
                conv => whnf
                refine ARow_intro (by omega) (by simp; omega) ?_
                repeat ((conv => whnf); first | refine ASpl_t ?_ | refine ASpl_f ?_)
                conv => whnf
                refine AGet_intro (e4 t) (by simp) ?_
                repeat ((conv => whnf); first | refine ASpl_t ?_ | refine ASpl_f ?_)
                conv => whnf
                have he4 : e4 t = e4 x ↔ t = x := ⟨e4_inj, fun h => by rw [h]⟩
                refine AEqv_intro _ (decide (t = x)) keyOk109 rfl rfl (by rw [decide_eq_true_eq]; exact he4.symm) ?_
                rcases Classical.em (t = x) with e | e
                · rw [decide_eq_true e]
                  repeat ((conv => whnf); first | refine ASpl_t ?_ | refine ASpl_f ?_)
                  conv => whnf
                  refine AChk_intro (by kernel_rfl) ?_
                  repeat ((conv => whnf); first | refine ASpl_t ?_ | refine ASpl_f ?_)
                  conv => whnf
                  conv => whnf
                  refine ABack_intro (i + 1, k, o0 ++ [t]) [] [] [] ?_ ?_ ?_
                  · exact ⟨by show _ ≤ _; omega, by show _ ≤ _; omega, by simp at ho ⊢; omega, by simpa [addL, e] using hM2⟩
                  · show (A.length - (i + 1)) + (B.length - (k)) < (A.length - i) + (B.length - k); omega
                  · repeat ((conv => whnf); first | refine AEq_intro (by first | with_reducible rfl | (simp; done) | (exact wrS i (by omega); done) | rfl) ?_ | refine APerm_intro (by first | exact .refl _ | assumption | (simp; done) | (exact wrS i (by omega); done)) ?_)
                    trivial
                · rw [decide_eq_false e]
                  repeat ((conv => whnf); first | refine ASpl_t ?_ | refine ASpl_f ?_)
                  conv => whnf
                  refine AChk_intro (by kernel_rfl) ?_
                  repeat ((conv => whnf); first | refine ASpl_t ?_ | refine ASpl_f ?_)
                  conv => whnf
                  refine AFits_intro (by simp at ho ⊢; omega) ?_
                  conv => whnf
                  refine ABack_intro (i + 1, k, o0 ++ [t] ++ [x]) [(5, 86)] [] [] ?_ ?_ ?_
                  · exact ⟨by show _ ≤ _; omega, by show _ ≤ _; omega, by simp at ho ⊢; omega, by simpa [addL, e] using hM2⟩
                  · show (A.length - (i + 1)) + (B.length - (k)) < (A.length - i) + (B.length - k); omega
                  · repeat ((conv => whnf); first | refine AEq_intro (by first | with_reducible rfl | ((exact wrS i (by omega)); done) | ((simp; done); done) | ((rw [List.take_of_length_le (by simp)]; simp); done) | rfl) ?_ | refine APerm_intro (by first | exact .refl _ | assumption | ((exact wrS i (by omega)); done) | ((simp; done); done) | ((rw [List.take_of_length_le (by simp)]; simp); done)) ?_)
                    trivial
            | true =>
              repeat ((conv => whnf); first | refine ASpl_t ?_ | refine ASpl_f ?_)
              conv => whnf
              refine AChk_intro (by kernel_rfl) ?_
              repeat ((conv => whnf); first | refine ASpl_t ?_ | refine ASpl_f ?_)
              have hM2 := hM.right hAs.1 hBs.1 hkB (fun h => stoQ.asy hq)
              conv => whnf
              conv => whnf
              refine AIdx_map k rfl (by omega) ?_
              have hlenx : e4 B[k] = e4 B[k] := rfl
              generalize B[k] = x at *
              conv => whnf
              refine ASpl_intro (fun z => ?_) (fun z => ?_) <;> rw [z]
              · simp at z
                subst z
                repeat ((conv => whnf); first | refine ASpl_t ?_ | refine ASpl_f ?_)
                conv => whnf
                refine AChk_intro (by kernel_rfl) ?_
                repeat ((conv => whnf); first | refine ASpl_t ?_ | refine ASpl_f ?_)
                conv => whnf
                refine AFits_intro (by simp <;> omega) ?_
                conv => whnf
                refine ABack_intro (i, k + 1, [x]) [(5, 86)] [] [] ?_ ?_ ?_
                · exact ⟨by show _ ≤ _; omega, by show _ ≤ _; omega, by simp; omega, by simpa [addL] using hM2⟩
                · show (A.length - (i)) + (B.length - (k + 1)) < (A.length - i) + (B.length - k); omega
                · repeat ((conv => whnf); first | refine AEq_intro (by first | with_reducible rfl | (simp; done) | (exact wrS k (by omega); done) | rfl) ?_ | refine APerm_intro (by first | exact .refl _ | assumption | (simp; done) | (exact wrS k (by omega); done)) ?_)
                  trivial
              · rcases nil_or_snoc out with rfl | ⟨o0, t, rfl⟩
                · simp at z
                have hwr : IntKind.i64.wrap ((((o0 ++ [t]).length : Nat) : Int) - 1) = (o0.length : Int) := by
                  have e1 : (o0 ++ [t]).length = o0.length + 1 := by simp
                  rw [e1] at ho ⊢
                  rw [show ((o0.length + 1 : Nat) : Int) - 1 = o0.length by omega]; exact wr (by omega) (by omega)
                repeat ((conv => whnf); first | refine ASpl_t ?_ | refine ASpl_f ?_)
                conv => whnf
                rw [hwr]
                conv => whnf
                refine ARow_intro (by omega) (by simp; omega) ?_
                repeat ((conv => whnf); first | refine ASpl_t ?_ | refine ASpl_f ?_)
                conv => whnf
                refine AGet_intro (e4 t) (by simp) ?_
                repeat ((conv => whnf); first | refine ASpl_t ?_ | refine ASpl_f ?_)
                conv => whnf
                have he4 : e4 t = e4 x ↔ t = x := ⟨e4_inj, fun h => by rw [h]⟩
                refine AEqv_intro _ (decide (t = x)) keyOk109 rfl rfl (by rw [decide_eq_true_eq]; exact he4.symm) ?_
                rcases Classical.em (t = x) with e | e
                · rw [decide_eq_true e]
                  repeat ((conv => whnf); first | refine ASpl_t ?_ | refine ASpl_f ?_)
                  conv => whnf
                  refine AChk_intro (by kernel_rfl) ?_
                  repeat ((conv => whnf); first | refine ASpl_t ?_ | refine ASpl_f ?_)
                  conv => whnf
                  conv => whnf
                  refine ABack_intro (i, k + 1, o0 ++ [t]) [] [] [] ?_ ?_ ?_
                  · exact ⟨by show _ ≤ _; omega, by show _ ≤ _; omega, by simp at ho ⊢; omega, by simpa [addL, e] using hM2⟩
                  · show (A.length - (i)) + (B.length - (k + 1)) < (A.length - i) + (B.length - k); omega
                  · repeat ((conv => whnf); first | refine AEq_intro (by first | with_reducible rfl | (simp; done) | (exact wrS k (by omega); done) | rfl) ?_ | refine APerm_intro (by first | exact .refl _ | assumption | (simp; done) | (exact wrS k (by omega); done)) ?_)
                    trivial
                · rw [decide_eq_false e]
                  repeat ((conv => whnf); first | refine ASpl_t ?_ | refine ASpl_f ?_)
                  conv => whnf
                  refine AChk_intro (by kernel_rfl) ?_
                  repeat ((conv => whnf); first | refine ASpl_t ?_ | refine ASpl_f ?_)
                  conv => whnf
                  refine AFits_intro (by simp at ho ⊢; omega) ?_
                  conv => whnf
                  refine ABack_intro (i, k + 1, o0 ++ [t] ++ [x]) [(5, 86)] [] [] ?_ ?_ ?_
                  · exact ⟨by show _ ≤ _; omega, by show _ ≤ _; omega, by simp at ho ⊢; omega, by simpa [addL, e] using hM2⟩
                  · show (A.length - (i)) + (B.length - (k + 1)) < (A.length - i) + (B.length - k); omega
                  · repeat ((conv => whnf); first | refine AEq_intro (by first | with_reducible rfl | ((exact wrS k (by omega)); done) | ((simp; done); done) | ((rw [List.take_of_length_le (by simp)]; simp); done) | rfl) ?_ | refine APerm_intro (by first | exact .refl _ | assumption | ((exact wrS k (by omega)); done) | ((simp; done); done) | ((rw [List.take_of_length_le (by simp)]; simp); done)) ?_)
                    trivial
          · simp at g2; omega
      · simp at c1
        repeat ((conv => whnf); first | refine ASpl_t ?_ | refine ASpl_f ?_)
        conv => whnf
        refine ASpl_intro (fun c2 => ?_) (fun c2 => ?_) <;> rw [c2]
        · simp at c2
          have hkB : k < B.length := by omega
          repeat ((conv => whnf); first | refine ASpl_t ?_ | refine ASpl_f ?_)
          conv => whnf
          conv => whnf
          refine ASpl_intro (fun g1 => ?_) (fun g1 => ?_) <;> rw [g1]
          · simp at g1; omega
          · simp at g1
            repeat ((conv => whnf); first | refine ASpl_t ?_ | refine ASpl_f ?_)
            conv => whnf
            refine ASpl_intro (fun g2 => ?_) (fun g2 => ?_) <;> rw [g2]
            · simp at g2; omega
            · repeat ((conv => whnf); first | refine ASpl_t ?_ | refine ASpl_f ?_)
              conv => whnf
              refine AChk_intro (by kernel_rfl) ?_
              repeat ((conv => whnf); first | refine ASpl_t ?_ | refine ASpl_f ?_)
              have hM2 := hM.right hAs.1 hBs.1 hkB (fun h => by omega)
              conv => whnf
              conv => whnf
              refine AIdx_map k rfl (by omega) ?_
              have hlenx : e4 B[k] = e4 B[k] := rfl
              generalize B[k] = x at *
              conv => whnf
              refine ASpl_intro (fun z => ?_) (fun z => ?_) <;> rw [z]
              · simp at z
                subst z
                repeat ((conv => whnf); first | refine ASpl_t ?_ | refine ASpl_f ?_)
                conv => whnf
                refine AChk_intro (by kernel_rfl) ?_
                repeat ((conv => whnf); first | refine ASpl_t ?_ | refine ASpl_f ?_)
                conv => whnf
                refine AFits_intro (by simp <;> omega) ?_
                conv => whnf
                refine ABack_intro (i, k + 1, [x]) [(5, 86)] [] [] ?_ ?_ ?_
                · exact ⟨by show _ ≤ _; omega, by show _ ≤ _; omega, by simp; omega, by simpa [addL] using hM2⟩
                · show (A.length - (i)) + (B.length - (k + 1)) < (A.length - i) + (B.length - k); omega
                · repeat ((conv => whnf); first | refine AEq_intro (by first | with_reducible rfl | (simp; done) | (exact wrS k (by omega); done) | rfl) ?_ | refine APerm_intro (by first | exact .refl _ | assumption | (simp; done) | (exact wrS k (by omega); done)) ?_)
                  trivial
              · rcases nil_or_snoc out with rfl | ⟨o0, t, rfl⟩
                · simp at z
                have hwr : IntKind.i64.wrap ((((o0 ++ [t]).length : Nat) : Int) - 1) = (o0.length : Int) := by
                  have e1 : (o0 ++ [t]).length = o0.length + 1 := by simp
                  rw [e1] at ho ⊢
                  rw [show ((o0.length + 1 : Nat) : Int) - 1 = o0.length by omega]; exact wr (by omega) (by omega)
                repeat ((conv => whnf); first | refine ASpl_t ?_ | refine ASpl_f ?_)
                conv => whnf
                rw [hwr]
                conv => whnf
                refine ARow_intro (by omega) (by simp; omega) ?_
                repeat ((conv => whnf); first | refine ASpl_t ?_ | refine ASpl_f ?_)
                conv => whnf
                refine AGet_intro (e4 t) (by simp) ?_
                repeat ((conv => whnf); first | refine ASpl_t ?_ | refine ASpl_f ?_)
                conv => whnf
                have he4 : e4 t = e4 x ↔ t = x := ⟨e4_inj, fun h => by rw [h]⟩
                refine AEqv_intro _ (decide (t = x)) keyOk109 rfl rfl (by rw [decide_eq_true_eq]; exact he4.symm) ?_
                rcases Classical.em (t = x) with e | e
                · rw [decide_eq_true e]
                  repeat ((conv => whnf); first | refine ASpl_t ?_ | refine ASpl_f ?_)
                  conv => whnf
                  refine AChk_intro (by kernel_rfl) ?_
                  repeat ((conv => whnf); first | refine ASpl_t ?_ | refine ASpl_f ?_)
                  conv => whnf
                  conv => whnf
                  refine ABack_intro (i, k + 1, o0 ++ [t]) [] [] [] ?_ ?_ ?_
                  · exact ⟨by show _ ≤ _; omega, by show _ ≤ _; omega, by simp at ho ⊢; omega, by simpa [addL, e] using hM2⟩
                  · show (A.length - (i)) + (B.length - (k + 1)) < (A.length - i) + (B.length - k); omega
                  · repeat ((conv => whnf); first | refine AEq_intro (by first | with_reducible rfl | (simp; done) | (exact wrS k (by omega); done) | rfl) ?_ | refine APerm_intro (by first | exact .refl _ | assumption | (simp; done) | (exact wrS k (by omega); done)) ?_)
                    trivial
                · rw [decide_eq_false e]
                  repeat ((conv => whnf); first | refine ASpl_t ?_ | refine ASpl_f ?_)
                  conv => whnf
                  refine AChk_intro (by kernel_rfl) ?_
                  repeat ((conv => whnf); first | refine ASpl_t ?_ | refine ASpl_f ?_)
                  conv => whnf
                  refine AFits_intro (by simp at ho ⊢; omega) ?_
                  conv => whnf
                  refine ABack_intro (i, k + 1, o0 ++ [t] ++ [x]) [(5, 86)] [] [] ?_ ?_ ?_
                  · exact ⟨by show _ ≤ _; omega, by show _ ≤ _; omega, by simp at ho ⊢; omega, by simpa [addL, e] using hM2⟩
                  · show (A.length - (i)) + (B.length - (k + 1)) < (A.length - i) + (B.length - k); omega
                  · repeat ((conv => whnf); first | refine AEq_intro (by first | with_reducible rfl | ((exact wrS k (by omega)); done) | ((simp; done); done) | ((rw [List.take_of_length_le (by simp)]; simp); done) | rfl) ?_ | refine APerm_intro (by first | exact .refl _ | assumption | ((exact wrS k (by omega)); done) | ((simp; done); done) | ((rw [List.take_of_length_le (by simp)]; simp); done)) ?_)
                    trivial
        · simp at c2
          repeat ((conv => whnf); first | refine ASpl_t ?_ | refine ASpl_f ?_)
          conv => whnf
          obtain rfl : i = A.length := by omega
          obtain rfl : k = B.length := by omega
          have hout : out = uniqQ xs := hres out hM.ss (fun y => by rw [hM.mem, List.take_length, List.take_length, List.mem_append])
          subst hout
          conv => whnf
          refine AFin_intro [(2, _)] [] [5] [] rfl ?_
          conv => whnf
          refine AEq_intro ?_ trivial
          rw [List.take_of_length_le (by simp)]
end Go.Proofs.Ytcpgcenlgihmnaa.Abs
/- canopyref3.Norm. -/
set_option linter.unusedVariables false
set_option linter.unusedSimpArgs false
set_option maxRecDepth 100000
set_option maxHeartbeats 2000000
namespace Go.Proofs.Ytcpgcenlgihmnaa.Abs
open Go

abbrev up3 (r : R3) : R4 := (r.1, r.2.1, r.2.2, 0)
abbrev dn4 (q : R4) : R3 := (q.1, q.2.1, q.2.2.1)
def normA (a : Auto) : Auto := { a with init := ints a.init, fin := ints a.fin, opens := uniqQ a.opens, closes := uniqQ a.closes, inners := (uniqQ (a.inners.map up3)).map dn4 }
theorem c29 (a : Auto) (h1 : a.init.length ≤ 1000) (h2 : a.fin.length ≤ 1000) (h3 : a.opens.length ≤ 1000) (h4 : a.closes.length ≤ 1000) (h5 : a.inners.length ≤ 1000) : CallsTo Try.prog 29 [autoL a] [] (autoL (normA a)) [] := by
  refine callsTo_of (ann := []) Try.func29 rfl (by kernel_rfl) (by kernel_rfl) mixed tab_ok (Nat.le_of_ble_eq_true rfl) rfl ?_
  conv => whnf
  refine ACall_pv (c59 a.init (by omega)) rfl ?_
  conv => whnf
  refine ACall_pv (c59 a.fin (by omega)) rfl ?_
  conv => whnf
  refine AChk_intro (by kernel_rfl) ?_
  conv => whnf
  refine ALoop_intro (fun n : Nat => n ≤ a.opens.length) (fun n => [(1, .bx 1 0), (2, .bx 2 0), (3, .bx 3 0), (4, .rw 4 n), (5, .rw 5 0), (6, .rw 6 0), (7, .pv (.int .i64 n))]) (fun n => [(1, .box (autoC a)), (2, .box [.un, .un, .un, .un, .un, .un, .un]), (3, .box [.pv (.int .i64 a.N), .pv (.int .i64 a.G), .pv (il (ints a.init)), .pv (il (ints a.fin)), .nl, .nl, .nl]), (4, .row 4 ((a.opens.take n).map (e4))), (5, .row 4 []), (6, .row 4 [])]) (fun n => a.opens.length - n) 0 [] [] [] (by simp) ?_ ?_
  · repeat ((conv => whnf); first | refine AEq_intro (by first | with_reducible rfl | (simp; done) | rfl) ?_ | refine APerm_intro (by first | exact .refl _ | assumption | (simp; done)) ?_)
    trivial
  · intro n hn
    conv => whnf
    refine ASpl_intro (fun hc => ?_) (fun hc => ?_)
    · simp at hc
      conv => whnf
      conv => whnf
      refine AIdx_map n rfl (by omega) ?_
      conv => whnf
      refine AFits_intro (by simp; omega) ?_
      conv => whnf
      refine ABack_intro (n + 1) [(4, 50)] [] [] ?_ ?_ ?_
      · omega
      · show _ - (n + 1) < _ - n; omega
      · repeat ((conv => whnf); first | refine AEq_intro (by first | with_reducible rfl | ((rw [take_up (e4) hc]; rfl); done) | (exact wrS n (by omega); done) | (simp; done) | rfl) ?_ | refine APerm_intro (by first | exact .refl _ | assumption | ((rw [take_up (e4) hc]; rfl); done) | (exact wrS n (by omega); done) | (simp; done)) ?_)
        trivial
    · simp at hc
      obtain rfl : n = a.opens.length := by omega
      rw [List.take_length]
      conv => whnf
      refine ALoop_intro (fun n : Nat => n ≤ a.closes.length) (fun n => [(1, .bx 1 0), (2, .bx 2 0), (3, .bx 3 0), (4, .rw 4 a.opens.length), (5, .rw 5 n), (6, .rw 6 0), (9, .pv (.int .i64 n))]) (fun n => [(1, .box (autoC a)), (2, .box [.un, .un, .un, .un, .un, .un, .un]), (3, .box [.pv (.int .i64 a.N), .pv (.int .i64 a.G), .pv (il (ints a.init)), .pv (il (ints a.fin)), .nl, .nl, .nl]), (4, .row 4 (a.opens.map (e4))), (5, .row 4 ((a.closes.take n).map (e4))), (6, .row 4 [])]) (fun n => a.closes.length - n) 0 [] [] [] (by simp) ?_ ?_
      · repeat ((conv => whnf); first | refine AEq_intro (by first | with_reducible rfl | (simp; done) | rfl) ?_ | refine APerm_intro (by first | exact .refl _ | assumption | (simp; done)) ?_)
        trivial
      · intro n hn
        conv => whnf
        refine ASpl_intro (fun hc => ?_) (fun hc => ?_)
        · simp at hc
          conv => whnf
          conv => whnf
          refine AIdx_map n rfl (by omega) ?_
          conv => whnf
          refine AFits_intro (by simp; omega) ?_
          conv => whnf
          refine ABack_intro (n + 1) [(5, 74)] [] [] ?_ ?_ ?_
          · omega
          · show _ - (n + 1) < _ - n; omega
          · repeat ((conv => whnf); first | refine AEq_intro (by first | with_reducible rfl | ((rw [take_up (e4) hc]; rfl); done) | (exact wrS n (by omega); done) | (simp; done) | rfl) ?_ | refine APerm_intro (by first | exact .refl _ | assumption | ((rw [take_up (e4) hc]; rfl); done) | (exact wrS n (by omega); done) | (simp; done)) ?_)
            trivial
        · simp at hc
          obtain rfl : n = a.closes.length := by omega
          rw [List.take_length]
          conv => whnf
          refine ALoop_intro (fun n : Nat => n ≤ a.inners.length) (fun n => [(1, .bx 1 0), (2, .bx 2 0), (3, .bx 3 0), (4, .rw 4 a.opens.length), (5, .rw 5 a.closes.length), (6, .rw 6 n), (11, .pv (.int .i64 n))]) (fun n => [(1, .box (autoC a)), (2, .box [.un, .un, .un, .un, .un, .un, .un]), (3, .box [.pv (.int .i64 a.N), .pv (.int .i64 a.G), .pv (il (ints a.init)), .pv (il (ints a.fin)), .nl, .nl, .nl]), (4, .row 4 (a.opens.map (e4))), (5, .row 4 (a.closes.map (e4))), (6, .row 4 ((a.inners.take n).map (fun r => e4 (up3 r))))]) (fun n => a.inners.length - n) 0 [] [] [] (by simp) ?_ ?_
          · repeat ((conv => whnf); first | refine AEq_intro (by first | with_reducible rfl | (simp; done) | rfl) ?_ | refine APerm_intro (by first | exact .refl _ | assumption | (simp; done)) ?_)
            trivial
          · intro n hn
            conv => whnf
            refine ASpl_intro (fun hc => ?_) (fun hc => ?_)
            · simp at hc
              conv => whnf
              conv => whnf
              refine AIdx_map n rfl (by omega) ?_
              conv => whnf
              refine AFits_intro (by simp; omega) ?_
              conv => whnf
              refine ABack_intro (n + 1) [(6, 96)] [] [] ?_ ?_ ?_
              · omega
              · show _ - (n + 1) < _ - n; omega
              · repeat ((conv => whnf); first | refine AEq_intro (by first | with_reducible rfl | ((rw [take_up (fun r => e4 (up3 r)) hc]; rfl); done) | (exact wrS n (by omega); done) | (simp; done) | rfl) ?_ | refine APerm_intro (by first | exact .refl _ | assumption | ((rw [take_up (fun r => e4 (up3 r)) hc]; rfl); done) | (exact wrS n (by omega); done) | (simp; done)) ?_)
                trivial
            · simp at hc
              obtain rfl : n = a.inners.length := by omega
              rw [List.take_length]
              conv => whnf
              have hm3 : a.inners.map (fun r => e4 (up3 r)) = (a.inners.map up3).map e4 := by rw [List.map_map]; rfl
              rw [hm3]
              refine ACall_own (((c67 _ a.opens rfl (by omega)).conv0 4 4 a.opens.length (a.opens.map e4) (by
                have e : List.take a.opens.length (a.opens.map e4) = a.opens.map e4 := List.take_of_length_le (by simp)
                have := ArgsR.cons (ArgR.rw (K := 4) (es := 4) (m := a.opens.length) (ys := a.opens.map e4)) .nil
                rw [e] at this
                exact this) rfl)) (by rfl) (by rfl) ⟨rfl, trivial⟩ ⟨⟨_, rfl, trivial⟩, trivial⟩ (by rfl) (by rfl) ?_
              conv => whnf
              refine ACall_own (((c67 _ a.closes rfl (by omega)).conv0 5 4 a.closes.length (a.closes.map e4) (by
                have e : List.take a.closes.length (a.closes.map e4) = a.closes.map e4 := List.take_of_length_le (by simp)
                have := ArgsR.cons (ArgR.rw (K := 5) (es := 4) (m := a.closes.length) (ys := a.closes.map e4)) .nil
                rw [e] at this
                exact this) rfl)) (by rfl) (by rfl) ⟨rfl, trivial⟩ ⟨⟨_, rfl, trivial⟩, trivial⟩ (by rfl) (by rfl) ?_
              conv => whnf
              refine ACall_own (((c67 _ (a.inners.map up3) rfl (by simp; omega)).conv0 6 4 a.inners.length ((a.inners.map up3).map e4) (by
                have e : List.take a.inners.length ((a.inners.map up3).map e4) = (a.inners.map up3).map e4 := List.take_of_length_le (by simp)
                have := ArgsR.cons (ArgR.rw (K := 6) (es := 4) (m := a.inners.length) (ys := (a.inners.map up3).map e4)) .nil
                rw [e] at this
                exact this) rfl)) (by rfl) (by rfl) ⟨rfl, trivial⟩ ⟨⟨_, rfl, trivial⟩, trivial⟩ (by rfl) (by rfl) ?_
              conv => whnf
              have hu1 := uniqQ_len a.opens
              have hu2 := uniqQ_len a.closes
              have hu3 := uniqQ_len (a.inners.map up3)
              rw [List.length_map] at hu3
              have hfin : normA a = { a with init := ints a.init, fin := ints a.fin, opens := uniqQ a.opens, closes := uniqQ a.closes, inners := (uniqQ (a.inners.map up3)).map dn4 } := rfl
              generalize uniqQ a.opens = U1 at *
              generalize uniqQ a.closes = U2 at *
              generalize uniqQ (a.inners.map up3) = U3 at *
              refine ALoop_intro (fun n : Nat => n ≤ U1.length) (fun n => [(2, .bx 2 0), (3, .bx 3 0), (4, .pv (l4 U1)), (5, .pv (l4 U2)), (6, .pv (l4 U3)), (13, .pv (.int .i64 n))]) (fun n => [(2, .box [.un, .un, .un, .un, .un, .un, .un]), (3, .box [.pv (.int .i64 a.N), .pv (.int .i64 a.G), .pv (il (ints a.init)), .pv (il (ints a.fin)), .rw 204 n, .rw 205 0, .rw 206 0]), (204, .row 4 ((U1.take n).map (e4))), (205, .row 4 []), (206, .row 3 [])]) (fun n => U1.length - n) 0 [] [] [204, 205, 206] (by simp) ?_ ?_
              · repeat ((conv => whnf); first | refine AEq_intro (by first | with_reducible rfl | (simp; done) | rfl) ?_ | refine APerm_intro (by first | exact .refl _ | assumption | (simp; done)) ?_)
                trivial
              · intro n hn
                conv => whnf
                refine ASpl_intro (fun hc => ?_) (fun hc => ?_)
                · simp at hc
                  conv => whnf
                  conv => whnf
                  refine AIdx_map n rfl (by omega) ?_
                  conv => whnf
                  conv => whnf
                  refine AIdx_map n rfl (by omega) ?_
                  conv => whnf
                  conv => whnf
                  refine AIdx_map n rfl (by omega) ?_
                  conv => whnf
                  conv => whnf
                  refine AIdx_map n rfl (by omega) ?_
                  conv => whnf
                  conv => whnf
                  refine AFits_intro (by simp; omega) ?_
                  conv => whnf
                  refine AChk_intro (by kernel_rfl) ?_
                  conv => whnf
                  refine ABack_intro (n + 1) [(204, 133)] [] [] ?_ ?_ ?_
                  · omega
                  · show _ - (n + 1) < _ - n; omega
                  · repeat ((conv => whnf); first | refine AEq_intro (by first | with_reducible rfl | ((rw [take_up (e4) hc]; rfl); done) | (exact wrS n (by omega); done) | (simp; done) | rfl) ?_ | refine APerm_intro (by first | exact .refl _ | assumption | ((rw [take_up (e4) hc]; rfl); done) | (exact wrS n (by omega); done) | (simp; done)) ?_)
                    trivial
                · simp at hc
                  obtain rfl : n = U1.length := by omega
                  rw [List.take_length]
                  conv => whnf
                  refine ALoop_intro (fun n : Nat => n ≤ U2.length) (fun n => [(2, .bx 2 0), (3, .bx 3 0), (4, .pv (l4 U1)), (5, .pv (l4 U2)), (6, .pv (l4 U3)), (14, .pv (.int .i64 n))]) (fun n => [(2, .box [.un, .un, .un, .un, .un, .un, .un]), (3, .box [.pv (.int .i64 a.N), .pv (.int .i64 a.G), .pv (il (ints a.init)), .pv (il (ints a.fin)), .rw 204 U1.length, .rw 205 n, .rw 206 0]), (204, .row 4 (U1.map (e4))), (205, .row 4 ((U2.take n).map (e4))), (206, .row 3 [])]) (fun n => U2.length - n) 0 [] [] [] (by simp) ?_ ?_
                  · repeat ((conv => whnf); first | refine AEq_intro (by first | with_reducible rfl | (simp; done) | rfl) ?_ | refine APerm_intro (by first | exact .refl _ | assumption | (simp; done)) ?_)
                    trivial
                  · intro n hn
                    conv => whnf
                    refine ASpl_intro (fun hc => ?_) (fun hc => ?_)
                    · simp at hc
                      conv => whnf
                      conv => whnf
                      refine AIdx_map n rfl (by omega) ?_
                      conv => whnf
                      conv => whnf
                      refine AIdx_map n rfl (by omega) ?_
                      conv => whnf
                      conv => whnf
                      refine AIdx_map n rfl (by omega) ?_
                      conv => whnf
                      conv => whnf
                      refine AIdx_map n rfl (by omega) ?_
                      conv => whnf
                      conv => whnf
                      refine AFits_intro (by simp; omega) ?_
                      conv => whnf
                      refine AChk_intro (by kernel_rfl) ?_
                      conv => whnf
                      refine ABack_intro (n + 1) [(205, 165)] [] [] ?_ ?_ ?_
                      · omega
                      · show _ - (n + 1) < _ - n; omega
                      · repeat ((conv => whnf); first | refine AEq_intro (by first | with_reducible rfl | ((rw [take_up (e4) hc]; rfl); done) | (exact wrS n (by omega); done) | (simp; done) | rfl) ?_ | refine APerm_intro (by first | exact .refl _ | assumption | ((rw [take_up (e4) hc]; rfl); done) | (exact wrS n (by omega); done) | (simp; done)) ?_)
                        trivial
                    · simp at hc
                      obtain rfl : n = U2.length := by omega
                      rw [List.take_length]
                      conv => whnf
                      refine ALoop_intro (fun n : Nat => n ≤ U3.length) (fun n => [(2, .bx 2 0), (3, .bx 3 0), (4, .pv (l4 U1)), (5, .pv (l4 U2)), (6, .pv (l4 U3)), (15, .pv (.int .i64 n))]) (fun n => [(2, .box [.un, .un, .un, .un, .un, .un, .un]), (3, .box [.pv (.int .i64 a.N), .pv (.int .i64 a.G), .pv (il (ints a.init)), .pv (il (ints a.fin)), .rw 204 U1.length, .rw 205 U2.length, .rw 206 n]), (204, .row 4 (U1.map (e4))), (205, .row 4 (U2.map (e4))), (206, .row 3 ((U3.take n).map (fun q => e3 (dn4 q))))]) (fun n => U3.length - n) 0 [] [] [] (by simp) ?_ ?_
                      · repeat ((conv => whnf); first | refine AEq_intro (by first | with_reducible rfl | (simp; done) | rfl) ?_ | refine APerm_intro (by first | exact .refl _ | assumption | (simp; done)) ?_)
                        trivial
                      · intro n hn
                        conv => whnf
                        refine ASpl_intro (fun hc => ?_) (fun hc => ?_)
                        · simp at hc
                          conv => whnf
                          conv => whnf
                          refine AIdx_map n rfl (by omega) ?_
                          conv => whnf
                          conv => whnf
                          refine AIdx_map n rfl (by omega) ?_
                          conv => whnf
                          conv => whnf
                          refine AIdx_map n rfl (by omega) ?_
                          conv => whnf
                          conv => whnf
                          refine AFits_intro (by simp; omega) ?_
                          conv => whnf
                          refine AChk_intro (by kernel_rfl) ?_
                          conv => whnf
                          refine ABack_intro (n + 1) [(206, 192)] [] [] ?_ ?_ ?_
                          · omega
                          · show _ - (n + 1) < _ - n; omega
                          · repeat ((conv => whnf); first | refine AEq_intro (by first | with_reducible rfl | ((rw [take_up (fun q => e3 (dn4 q)) hc]; rfl); done) | (exact wrS n (by omega); done) | (simp; done) | rfl) ?_ | refine APerm_intro (by first | exact .refl _ | assumption | ((rw [take_up (fun q => e3 (dn4 q)) hc]; rfl); done) | (exact wrS n (by omega); done) | (simp; done)) ?_)
                            trivial
                        · simp at hc
                          obtain rfl : n = U3.length := by omega
                          rw [List.take_length]
                          conv => whnf
                          rw [hfin]
                          refine AFin_cell [(2, .bx 2 0)] [(2, .box [_, _, _, _, _, _, _])] [] [204, 205, 206] [] ⟨2, 0, _, _, rfl, rfl, rfl, Nat.le_of_ble_eq_true rfl, rfl, rfl⟩ ?_
                          have t1 : List.take U1.length (U1.map e4) = U1.map e4 := List.take_of_length_le (by simp)
                          have t2 : List.take U2.length (U2.map e4) = U2.map e4 := List.take_of_length_le (by simp)
                          have t3 : List.take U3.length (U3.map fun q => e3 (dn4 q)) = (U3.map dn4).map e3 := by rw [List.map_map]; exact List.take_of_length_le (by simp)
                          repeat ((conv => whnf); first | refine AEq_intro (by first | with_reducible rfl | (exact t1.symm; done) | (exact t2.symm; done) | (exact t3.symm; done) | rfl) ?_ | refine APerm_intro (by first | exact .refl _ | assumption | (exact t1.symm; done) | (exact t2.symm; done) | (exact t3.symm; done)) ?_)
                          trivial
end Go.Proofs.Ytcpgcenlgihmnaa.Abs
