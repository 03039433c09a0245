import Derived.Test.YtocdpfdnnijdkaaGQ
namespace Go.Proofs.Ytocdpfdnnijdkaa.G
open Go.RowKit Go.Proofs.YtocdpfdnnijdkaaW.PrintWords Go.Proofs.YtocdpfdnnijdkaaW.PrintLast Go.Proofs.YtocdpfdnnijdkaaW.PrintMore
attribute [local go_sem] max2_int min2_int max_two min_two max_three min_three max_four min_four
attribute [local go_sem] Go.Proofs.YtocdpfdnnijdkaaS.cell_set_map Go.Proofs.YtocdpfdnnijdkaaS.setCell_drewN
set_option linter.unusedVariables false
set_option linter.unusedSimpArgs false
/-- A row of events in blocks of its own, g not among them. -/
def RU (B : Nat) (w : World) (u : Value) (xs : List S24) (g : Nat) : Prop := Kd.R k24 24 w B (fun k => k ≠ g) u xs
theorem RU_of {B : Nat} {w : World} {u : Value} {xs : List S24} {g : Nat} (h : Kd.R k24 24 w B (fun _ => True) u xs) (hg : w.heap.size ≤ g) : RU B w u xs g := Kd.R_mono (Kd.R_bound h) (fun k hk e => by have := hk.2.2.1; omega)
theorem RU_any {B : Nat} {w : World} {u : Value} {xs : List S24} {g : Nat} (h : RU B w u xs g) : Kd.R k24 24 w B (fun _ => True) u xs := Kd.R_mono h (fun _ _ => trivial)
theorem RU_below {B : Nat} {w w' : World} {u : Value} {xs : List S24} {g : Nat} (h : RU B w u xs g) (hb : Below w.heap.size w w') : RU B w' u xs g := Kd.R_below h hb
theorem RU_row {B : Nat} {w : World} {u : Value} {xs : List S24} {g : Nat} (h : RU B w u xs g) (vs : Array Value) : RU B (w.setRow g vs) u xs g := Kd.R_step h (fun k hk _ => setRow_other _ _ _ _ hk)
theorem RU_went {B : Nat} {w w' : World} {g g' : Nat} {v u : Value} {l : List S60} {most n : Int} {xs : List S24} (h : RU B w u xs g') (ha : AG w g v l most n) (hk : KP w w' (fun k => k = g ∨ some k = v.ownBlock)) : RU B w' u xs g' :=
  Kd.R_mono (Kd.R_step (Kd.R_bound h) (fun k hk' hlt => hk.2.2 k hlt (by
    obtain ⟨_, _, _, q, hq, cells, hc⟩ := hk'
    have hq' : q = 24 := by simpa [k24, Kd.iso, Kd.pair, Kd.int, Kd.scalar] using hq
    subst hq'
    rintro (rfl | e)
    · rw [ha.1] at hc
      cases hc
    · rcases ha.2.1 with ⟨rfl, _⟩ | ⟨b, cap, rfl, _, _, c, hb, _⟩
      · simp [Value.ownBlock] at e
      · obtain rfl : k = b := by simpa [Value.ownBlock] using e
        rw [hb] at hc
        cases hc))) (fun k hk => hk.1)
theorem AGX_drew {B : Nat} {w : World} {g : Nat} {v : Value} {l : List S60} {most n : Int} (h : AGX B w g v l most n) : AGX B w.drew g v l most n := ⟨AG_move h.1 (fun _ _ _ => rfl), h.2⟩
/-- No first one that is not behind a time. -/
theorem Next_stop (g : Nat) (v : Value) (l : List S60) (most n till : Int) (w : World) (h : AG w g v l most n) (hs : ∀ x, l[0]? = some x → till < x.f0) :
    Calls Try.prog 11 #[.pointer (some ⟨g, 0, none⟩), .int .i64 till] w fun e w' => e = .returned (.tuple #[.agg #[.int .i64 0, .int .i64 0, .int .i64 0, .int .u64 0], .bool false]) ∧ Below w.heap.size w w' := by
  cases hl : l[0]? with
  | none =>
    obtain rfl : l = [] := List.length_eq_zero_iff.1 (by have := List.getElem?_eq_none_iff.1 hl; omega)
    exact Next_none g v [] most n till rfl w h
  | some x => exact Next_late g v l most n till x hl (hs x hl) w h
theorem All_x (B : Nat) (g : Nat) (v : Value) (l : List S60) (most n : Int) (w : World) (h : AGX B w g v l most n) (hB : B ≤ w.heap.size) (m : Nat) (hm : m = l.length) (hl : m ≤ 1000000) :
    Calls Try.prog 18 #[.pointer (some ⟨g, 0, none⟩)] w fun e w' => ∃ A c, e = .returned (.slice A m c) ∧ m ≤ c ∧ Kd.R k24 24 w' B (fun _ => True) (.slice A m c) (allL l) ∧ Below w.heap.size w w' :=
  (All_v g v l most n w h.1 (by omega)).mono (by
    rintro e w' ⟨u, rfl, hu, hb⟩
    obtain ⟨A, c, rfl, hc, _⟩ := Kd.R_reads hu
    rw [allL_length, ← hm] at *
    exact ⟨A, c, rfl, hc, Kd.R_lower hu hB, hb⟩)
theorem Same_x (l : List S24) (m : Nat) (hm : m = l.length) (hl : m ≤ 1000000) (A0 : Option Addr) (c0 : Nat) (A1 : Option Addr) (c1 : Nat) (w : World) (h0 : Kd.C k24 w A0 l.length l) (hc0 : m ≤ c0) (h1 : Kd.C k24 w A1 l.length l) (hc1 : m ≤ c1) :
    Calls Try.prog 17 #[.slice A0 m c0, .slice A1 m c1] w fun e w' => e = .returned (.bool true) ∧ Below w.heap.size w w' := by
  subst hm
  exact Same_v l hl A0 c0 A1 c1 w h0 hc0 h1 hc1
/-! ### The heap of a row of entries -/
def hE (e : Nat → S60) : Nat → List S60
  | 0 => []
  | m + 1 => putL (hE e m) (e m)
theorem hE_length (e : Nat → S60) : ∀ m, (hE e m).length = m
  | 0 => rfl
  | m + 1 => by
    show (putL (hE e m) (e m)).length = _
    rw [putL_length, hE_length e m]
theorem hE_heap (e : Nat → S60) : ∀ m, isHeap (hE e m)
  | 0 => heap_nil
  | m + 1 => putL_heap (hE_heap e m) (e m)
theorem hE_perm (e : Nat → S60) : ∀ m, (hE e m).Perm ((List.range m).map e)
  | 0 => List.Perm.refl _
  | m + 1 => by
    refine (putL_perm _ _).trans ?_
    rw [List.range_succ, List.map_append]
    exact List.Perm.append_right _ (hE_perm e m)
/-- How many are not behind a time. -/
def cT (p : Int) (l : List S60) : Nat := l.countP (fun x => decide (x.f0 ≤ p))
theorem cT_put (p : Int) (l : List S60) (x : S60) : cT p (putL l x) = cT p l + if x.f0 ≤ p then 1 else 0 := by
  unfold cT
  rw [(putL_perm l x).countP_eq, List.countP_append, List.countP_singleton]
  by_cases h : x.f0 ≤ p <;> simp [h]
theorem cT_take {p : Int} {l : List S60} {x : S60} (hx : l[0]? = some x) (h : x.f0 ≤ p) : cT p l = cT p (takeL l) + 1 := by
  unfold cT
  rw [(takeL_perm hx).countP_eq, List.countP_cons, if_pos (decide_eq_true h)]
theorem cT_stop {p : Int} {l : List S60} (hh : isHeap l) (hs : ∀ x, l[0]? = some x → p < x.f0) : cT p l = 0 := by
  unfold cT
  rw [List.countP_eq_zero]
  intro y hy
  obtain ⟨j, hj, rfl⟩ := mem_gL hy
  have h1 := heap_min hh j hj
  have hp : 0 < l.length := by omega
  have h2 := hs _ (List.getElem?_eq_getElem hp)
  have h3 : gL l 0 = l[0] := gL_get (List.getElem?_eq_getElem hp)
  rw [h3] at h1
  unfold leS at h1
  simp only [decide_eq_true_eq]
  omega
theorem cT_le (p : Int) (l : List S60) : cT p l ≤ l.length := List.countP_le_length
/-- What was told is the drain's beginning. -/
theorem told_step {l lr : List S60} {n : Nat} {x : S60} (h : (drain l).drop n = drain lr) (hx : lr[0]? = some x) : (drain l).drop (n + 1) = drain (takeL lr) ∧ rd_T24 (allL l) (n : Int) = evS x := by
  rw [drain_cons hx] at h
  refine ⟨by rw [← List.drop_drop, h]; rfl, ?_⟩
  have h1 : (drain l)[n]? = some x := by
    have h2 : ((drain l).drop n)[0]? = some x := by rw [h]; rfl
    rw [List.getElem?_drop] at h2
    exact h2
  show ((drain l).map evS).getD ((n : Int)).toNat z24 = _
  rw [Int.toNat_natCast, List.getD_eq_getElem?_getD, List.getElem?_map, h1]
  rfl
theorem told_rest {l lr : List S60} {n : Nat} (h : (drain l).drop n = drain lr) : (allL l).drop n = allL lr := by
  rw [allL_drain, allL_drain, ← h, List.map_drop]
end Go.Proofs.Ytocdpfdnnijdkaa.G
