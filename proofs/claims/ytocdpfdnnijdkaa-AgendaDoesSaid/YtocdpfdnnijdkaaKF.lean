import Derived.Test.YtocdpfdnnijdkaaKC
import Derived.Test.YtocdpfdnnijdkaaKD
import Derived.Test.YtocdpfdnnijdkaaKE
import Derived.Test.YtocdpfdnnijdkaaGR
namespace Go.Proofs.Ytocdpfdnnijdkaa.G
open Go.RowKit Go.Proofs.YtocdpfdnnijdkaaW.PrintWords Go.Proofs.YtocdpfdnnijdkaaW.PrintLast Go.Proofs.YtocdpfdnnijdkaaW.PrintMore
attribute [local go_sem] max2_int min2_int max_two min_two max_three min_three max_four min_four
attribute [local go_sem] Go.Proofs.YtocdpfdnnijdkaaS.cell_set_map Go.Proofs.YtocdpfdnnijdkaaS.setCell_drewN
set_option linter.unusedVariables false
set_option linter.unusedSimpArgs false
theorem own60 {w : World} {v : Value} {l : List S60} (h : AR w v l) : ∀ b, v.ownBlock = some b → ∃ c, w.heap[b]? = some (.cells c 60 (0, 0)) := by
  intro b hb
  rcases h with ⟨rfl, _⟩ | ⟨b', cap, rfl, _, _, c, hc, _⟩
  · simp [Value.ownBlock] at hb
  · obtain rfl : b' = b := by simpa [Value.ownBlock] using hb
    exact ⟨c, hc⟩
theorem stay_went {w w' : World} {g : Nat} {v : Value} {l : List S60} {most n : Int} (h : AG w g v l most n) (hk : KP w w' (fun k => k = g ∨ some k = v.ownBlock)) {k t : Nat} {cs : Array Value} (hb : w.heap[k]? = some (.cells cs t (0, 0))) (h57 : t ≠ 57) (h60 : t ≠ 60) : w'.heap[k]? = some (.cells cs t (0, 0)) :=
  blk_KP hb hk (fun e => e.elim (fun e => blk_ne hb h.1 h57 e) (fun e => by
    obtain ⟨c, hc⟩ := own60 h.2.1 k e.symm
    exact blk_ne hb hc h60 rfl))
theorem MG_went {B : Nat} {w w' : World} {g : Nat} {v : Value} {l : List S60} {most n : Int} {gm : Nat} {u : Value} {ml : List S24} {m2 : Int} (hm : MG B w gm u ml m2) (h : AG w g v l most n) (hk : KP w w' (fun k => k = g ∨ some k = v.ownBlock)) : MG B w' gm u ml m2 :=
  ⟨stay_went h hk hm.1 (by decide) (by decide), R_went hm.2.1 h hk, hm.2.2⟩
theorem stay_ref {B : Nat} {w w' : World} {gm : Nat} {u : Value} {ml : List S24} {most : Int} (h : MG B w gm u ml most) (hk : KP w w' (fun k => k = gm ∨ some k = u.ownBlock)) {k t : Nat} {cs : Array Value} (hb : w.heap[k]? = some (.cells cs t (0, 0))) (h44 : t ≠ 44) (h24 : t ≠ 24) : w'.heap[k]? = some (.cells cs t (0, 0)) :=
  blk_KP hb hk (fun e => e.elim (fun e => blk_ne hb h.1 h44 e) (fun e => Kd.R_ne h.2.1 hb (fun e2 => h24 e2.symm) e))
theorem stay_ref1 {B : Nat} {w w' : World} {gm : Nat} {u : Value} {ml : List S24} {most : Int} (h : MG B w gm u ml most) (hk : KP w w' (fun k => k = gm)) {k t : Nat} {cs : Array Value} (hb : w.heap[k]? = some (.cells cs t (0, 0))) (h44 : t ≠ 44) : w'.heap[k]? = some (.cells cs t (0, 0)) :=
  blk_KP hb hk (fun e => blk_ne hb h.1 h44 e)
theorem AGX_ref {B B2 : Nat} {w w' : World} {g : Nat} {v : Value} {l : List S60} {most n : Int} {gm : Nat} {u : Value} {ml : List S24} {m2 : Int} (h : AGX B w g v l most n) (hm : MG B2 w gm u ml m2) (hk : KP w w' (fun k => k = gm ∨ some k = u.ownBlock)) : AGX B w' g v l most n :=
  ⟨⟨stay_ref hm hk h.1.1 (by decide) (by decide), AR_move h.1.2.1 (fun b hb => by
    obtain ⟨c, hc⟩ := own60 h.1.2.1 b hb
    rw [hc]
    exact stay_ref hm hk hc (by decide) (by decide)), h.1.2.2⟩, h.2⟩
/-- The agenda and the document's one, side by side, in blocks from B on. -/
def BG (B : Nat) (u0 w : World) (g : Nat) (v : Value) (l : List S60) (most n : Int) (gm : Nat) (u : Value) (ml : List S24) : Prop := AGX B w g v l most n ∧ MG B w gm u ml most ∧ Below B u0 w ∧ B ≤ w.heap.size
section
variable {B : Nat} {u0 w w' : World} {g : Nat} {v : Value} {l : List S60} {most n : Int} {gm : Nat} {u : Value} {ml : List S24}
theorem BG_below (h : BG B u0 w g v l most n gm u ml) (hb : Below w.heap.size w w') : BG B u0 w' g v l most n gm u ml :=
  ⟨AGX_below h.1 hb, MG_below h.2.1 hb, below_then h.2.2.1 h.2.2.2 hb, Nat.le_trans h.2.2.2 hb.size⟩
theorem BG_drew (h : BG B u0 w g v l most n gm u ml) : BG B u0 w.drew g v l most n gm u ml := BG_below h (below_drew1 (Below.refl _ _))
theorem BG_went {v' : Value} {l' : List S60} {n' : Int} (h : BG B u0 w g v l most n gm u ml) (ha : AG w' g v' l' most n') (hk : KP w w' (fun k => k = g ∨ some k = v.ownBlock)) (ho : OAT w v v') : BG B u0 w' g v' l' most n' gm u ml ∧ (∀ (k : Nat) (cs : Array Value), w.heap[k]? = some (Obj.cells cs 40 (0, 0)) → w'.heap[k]? = some (Obj.cells cs 40 (0, 0))) :=
  have h1 := went h.1 h.2.2.1 h.2.2.2 ha hk ho
  ⟨⟨h1.1, MG_went h.2.1 h.1.1 hk, h1.2.1, Nat.le_trans h.2.2.2 hk.1.size⟩, fun k cs hb => stay_went h.1.1 hk hb (by decide) (by decide)⟩
theorem BG_ref {u' : Value} {ml' : List S24} (h : BG B u0 w g v l most n gm u ml) (hm : MG B w' gm u' ml' most) (hk : KP w w' (fun k => k = gm ∨ some k = u.ownBlock)) : BG B u0 w' g v l most n gm u' ml' ∧ (∀ (k : Nat) (cs : Array Value), w.heap[k]? = some (Obj.cells cs 40 (0, 0)) → w'.heap[k]? = some (Obj.cells cs 40 (0, 0))) :=
  ⟨⟨AGX_ref h.1 h.2.1 hk, hm, below_KP h.2.2.1 hk h.2.2.2 (fun i hi => hi.elim (fun e => e ▸ h.2.1.2.2) (fun e => Kd.R_base h.2.1.2.1 i e.symm)), Nat.le_trans h.2.2.2 hk.1.size⟩, fun k cs hb => stay_ref h.2.1 hk hb (by decide) (by decide)⟩
end
theorem MG_form {B : Nat} {w : World} {gm : Nat} {u : Value} {ml : List S24} {most : Int} (h : MG B w gm u ml most) : ∃ A c, u = .slice A ml.length c := Kd.R_slice h.2.1
theorem BPut (B : Nat) (u0 : World) (g : Nat) (v : Value) (l : List S60) (most n : Int) (gm : Nat) (u : Value) (ml : List S24) (x : S24) (r : Int) (l' : List S60) (n' : Int) (w : World) (h : BG B u0 w g v l most n gm u ml) (hl : l.length ≤ 1000000) (hn0 : 0 ≤ n) (hn1 : n ≤ 1000000) (hp : ((l.length : Int) = most ∧ r = 2 ∧ l' = l ∧ n' = n) ∨ (¬ (l.length : Int) = most ∧ r = 0 ∧ l' = putL l ⟨x.f0, x.f1, x.f2, x.f3, n⟩ ∧ n' = n + 1)) :
    Calls Try.prog 9 #[.pointer (some ⟨g, 0, none⟩), .agg #[.int .i64 x.f0, .int .i64 x.f1, .int .i64 x.f2, .int .u64 x.f3]] w fun e w' => ∃ v', e = .returned (.int .i64 r) ∧ BG B u0 w' g v' l' most n' gm u ml ∧ (∀ (k : Nat) (cs : Array Value), w.heap[k]? = some (Obj.cells cs 40 (0, 0)) → w'.heap[k]? = some (Obj.cells cs 40 (0, 0))) := by
  rcases hp with ⟨hm, rfl, rfl, rfl⟩ | ⟨hm, rfl, rfl, rfl⟩
  · exact (Put_full g v _ most _ x w h.1.1 hm).mono (by
      rintro e w' ⟨rfl, hb⟩
      exact ⟨v, rfl, BG_below h hb, fun k cs hk => blk_below hk hb⟩)
  · exact (Put_v g v l most n x w h.1.1 hl hm hn0 hn1).mono (by
      rintro e w' ⟨v', rfl, h2, h3, h4⟩
      exact ⟨v', rfl, BG_went h h2 h3 h4⟩)
theorem BrPut (B : Nat) (u0 : World) (g : Nat) (v : Value) (l : List S60) (most n : Int) (gm : Nat) (u : Value) (ml : List S24) (x : S24) (r : Int) (ml' : List S24) (w : World) (h : BG B u0 w g v l most n gm u ml) (hl : ml.length ≤ 1000000) (hp : (most ≤ (ml.length : Int) ∧ r = 2 ∧ ml' = ml) ∨ ((ml.length : Int) < most ∧ r = 0 ∧ ml' = ml ++ [x])) :
    Calls Try.prog 13 #[.pointer (some ⟨gm, 0, none⟩), .agg #[.int .i64 x.f0, .int .i64 x.f1, .int .i64 x.f2, .int .u64 x.f3]] w fun e w' => ∃ A c, e = .returned (.int .i64 r) ∧ BG B u0 w' g v l most n gm (.slice A ml'.length c) ml' ∧ (∀ (k : Nat) (cs : Array Value), w.heap[k]? = some (Obj.cells cs 40 (0, 0)) → w'.heap[k]? = some (Obj.cells cs 40 (0, 0))) := by
  rcases hp with ⟨hm, rfl, rfl⟩ | ⟨hm, rfl, rfl⟩
  · exact (refPut_full B gm u _ most x w h.2.1 hm).mono (by
      rintro e w' ⟨rfl, hb⟩
      obtain ⟨A, c, rfl⟩ := MG_form h.2.1
      exact ⟨A, c, rfl, BG_below h hb, fun k cs hk => blk_below hk hb⟩)
  · exact (refPut_v B gm u ml most x w h.2.1 hm hl h.2.2.2).mono (by
      rintro e w' ⟨u', rfl, h2, h3⟩
      obtain ⟨A, c, rfl⟩ := MG_form h2
      exact ⟨A, c, rfl, BG_ref h h2 h3⟩)
theorem BNext (B : Nat) (u0 : World) (g : Nat) (v : Value) (l : List S60) (most n : Int) (gm : Nat) (u : Value) (ml : List S24) (till : Int) (x : S24) (b : Bool) (l' : List S60) (w : World) (h : BG B u0 w g v l most n gm u ml) (hl : l.length ≤ 1000000) (hp : (b = false ∧ x = z24 ∧ l' = l ∧ ∀ y, l[0]? = some y → till < y.f0) ∨ (b = true ∧ l' = takeL l ∧ ∃ y, l[0]? = some y ∧ y.f0 ≤ till ∧ x = evS y)) :
    Calls Try.prog 11 #[.pointer (some ⟨g, 0, none⟩), .int .i64 till] w fun e w' => ∃ v', e = .returned (.tuple #[.agg #[.int .i64 x.f0, .int .i64 x.f1, .int .i64 x.f2, .int .u64 x.f3], .bool b]) ∧ BG B u0 w' g v' l' most n gm u ml ∧ (∀ (k : Nat) (cs : Array Value), w.heap[k]? = some (Obj.cells cs 40 (0, 0)) → w'.heap[k]? = some (Obj.cells cs 40 (0, 0))) := by
  rcases hp with ⟨rfl, rfl, rfl, hs⟩ | ⟨rfl, rfl, y, hy, hyt, rfl⟩
  · exact (Next_stop g v _ most n till w h.1.1 hs).mono (by
      rintro e w' ⟨rfl, hb⟩
      exact ⟨v, rfl, BG_below h hb, fun k cs hk => blk_below hk hb⟩)
  · exact (Next_some g v l most n till y hy hyt hl w h.1.1).mono (by
      rintro e w' ⟨v', rfl, h2, h3, h4⟩
      exact ⟨v', rfl, BG_went h h2 h3 (.inl h4)⟩)
theorem BrNext (B : Nat) (u0 : World) (g : Nat) (v : Value) (l : List S60) (most n : Int) (gm : Nat) (u : Value) (ml : List S24) (till q : Int) (x : S24) (b : Bool) (ml' : List S24) (w : World) (h : BG B u0 w g v l most n gm u ml) (hl : ml.length ≤ 1000000) (hf : pacemakerref29_first.f (ml.length + 1) ml = some q) (hp : (b = false ∧ x = z24 ∧ ml' = ml ∧ (q < 0 ∨ ∃ a : Nat, q = (a : Int) ∧ a < ml.length ∧ till < (gM ml a).f0)) ∨ (b = true ∧ ∃ a : Nat, q = (a : Int) ∧ a < ml.length ∧ (gM ml a).f0 ≤ till ∧ x = gM ml a ∧ ml' = ml.eraseIdx a)) :
    Calls Try.prog 14 #[.pointer (some ⟨gm, 0, none⟩), .int .i64 till] w fun e w' => ∃ A c, e = .returned (.tuple #[.agg #[.int .i64 x.f0, .int .i64 x.f1, .int .i64 x.f2, .int .u64 x.f3], .bool b]) ∧ BG B u0 w' g v l most n gm (.slice A ml'.length c) ml' ∧ (∀ (k : Nat) (cs : Array Value), w.heap[k]? = some (Obj.cells cs 40 (0, 0)) → w'.heap[k]? = some (Obj.cells cs 40 (0, 0))) ∧ (∀ (k : Nat) (cs : Array Value), w.heap[k]? = some (Obj.cells cs 24 (0, 0)) → w'.heap[k]? = some (Obj.cells cs 24 (0, 0))) := by
  have hsame : ∀ w', Below w.heap.size w w' → ∃ A c, BG B u0 w' g v l most n gm (.slice A ml.length c) ml ∧ (∀ (k : Nat) (cs : Array Value), w.heap[k]? = some (Obj.cells cs 40 (0, 0)) → w'.heap[k]? = some (Obj.cells cs 40 (0, 0))) ∧ (∀ (k : Nat) (cs : Array Value), w.heap[k]? = some (Obj.cells cs 24 (0, 0)) → w'.heap[k]? = some (Obj.cells cs 24 (0, 0))) := by
    intro w' hb
    obtain ⟨A, c, rfl⟩ := MG_form h.2.1
    exact ⟨A, c, BG_below h hb, fun k cs hk => blk_below hk hb, fun k cs hk => blk_below hk hb⟩
  rcases hp with ⟨rfl, rfl, rfl, hq | ⟨a, rfl, ha, ht⟩⟩ | ⟨rfl, a, rfl, ha, ht, rfl, rfl⟩
  · exact (refNext_none B gm u _ most till q hf hq w h.2.1).mono (by
      rintro e w' ⟨rfl, hb⟩
      obtain ⟨A, c, h1⟩ := hsame w' hb
      exact ⟨A, c, rfl, h1⟩)
  · exact (refNext_late B gm u _ most till a _ hf ha rfl ht w h.2.1).mono (by
      rintro e w' ⟨rfl, hb⟩
      obtain ⟨A, c, h1⟩ := hsame w' hb
      exact ⟨A, c, rfl, h1⟩)
  · exact (refNext_some B gm u ml most till a _ hf ha rfl ht hl w h.2.1).mono (by
      rintro e w' ⟨u', rfl, h2, h3⟩
      obtain ⟨A, c, rfl⟩ := MG_form h2
      exact ⟨A, c, rfl, (BG_ref h h2 (KP.mono h3 (fun k e => .inl e))).1, (BG_ref h h2 (KP.mono h3 (fun k e => .inl e))).2, fun k cs hb => stay_ref1 h.2.1 h3 hb (by decide)⟩)
theorem BPeek (B : Nat) (u0 : World) (g : Nat) (v : Value) (l : List S60) (most n : Int) (gm : Nat) (u : Value) (ml : List S24) (x : S24) (b : Bool) (w : World) (h : BG B u0 w g v l most n gm u ml) (hp : (b = false ∧ x = z24 ∧ l = []) ∨ (b = true ∧ ∃ y, l[0]? = some y ∧ x = evS y)) :
    Calls Try.prog 15 #[.pointer (some ⟨g, 0, none⟩)] w fun e w' => e = .returned (.tuple #[.agg #[.int .i64 x.f0, .int .i64 x.f1, .int .i64 x.f2, .int .u64 x.f3], .bool b]) ∧ Below w.heap.size w w' := by
  rcases hp with ⟨rfl, rfl, rfl⟩ | ⟨rfl, y, hy, rfl⟩
  · exact Peek_none g v _ most n rfl w h.1.1
  · exact Peek_some g v l most n y hy w h.1.1
theorem BrPeek (B : Nat) (u0 : World) (g : Nat) (v : Value) (l : List S60) (most n : Int) (gm : Nat) (u : Value) (ml : List S24) (q : Int) (x : S24) (b : Bool) (w : World) (h : BG B u0 w g v l most n gm u ml) (hf : pacemakerref29_first.f (ml.length + 1) ml = some q) (hp : (b = false ∧ x = z24 ∧ q < 0) ∨ (b = true ∧ ∃ a : Nat, q = (a : Int) ∧ a < ml.length ∧ x = gM ml a)) :
    Calls Try.prog 16 #[.pointer (some ⟨gm, 0, none⟩)] w fun e w' => e = .returned (.tuple #[.agg #[.int .i64 x.f0, .int .i64 x.f1, .int .i64 x.f2, .int .u64 x.f3], .bool b]) ∧ Below w.heap.size w w' := by
  rcases hp with ⟨rfl, rfl, hq⟩ | ⟨rfl, a, rfl, ha, rfl⟩
  · exact refPeek_none B gm u ml most q hf hq w h.2.1
  · exact refPeek_some B gm u ml most a _ hf ha rfl w h.2.1
theorem BLen (B : Nat) (u0 : World) (g : Nat) (v : Value) (l : List S60) (most n : Int) (gm : Nat) (u : Value) (ml : List S24) (w : World) (h : BG B u0 w g v l most n gm u ml) (hr : ml.length = l.length) :
    Calls Try.prog 10 #[.pointer (some ⟨g, 0, none⟩)] w fun e w' => e = .returned (.int .i64 (ml.length : Int)) ∧ Below w.heap.size w w' := by
  rw [hr]
  exact Len_v g v l most n w h.1.1
theorem BAll (B : Nat) (u0 : World) (g : Nat) (v : Value) (l : List S60) (most n : Int) (gm : Nat) (u : Value) (ml : List S24) (w : World) (h : BG B u0 w g v l most n gm u ml) (m : Nat) (hm : m = l.length) (hl : m ≤ 1000000) :
    Calls Try.prog 18 #[.pointer (some ⟨g, 0, none⟩)] w fun e w' => ∃ A c, e = .returned (.slice A m c) ∧ m ≤ c ∧ Kd.R k24 24 w' B (fun _ => True) (.slice A m c) (allL l) ∧ Below w.heap.size w w' :=
  All_x B g v l most n w h.1 h.2.2.2 m hm hl
theorem BrAll (B : Nat) (u0 : World) (g : Nat) (v : Value) (l : List S60) (most n : Int) (gm : Nat) (u : Value) (ml : List S24) (w : World) (h : BG B u0 w g v l most n gm u ml) (hr : Rel l ml n) (m : Nat) (hm : m = l.length) (hl : m ≤ 1000000) :
    Calls Try.prog 19 #[.pointer (some ⟨gm, 0, none⟩)] w fun e w' => ∃ A c, e = .returned (.slice A m c) ∧ m ≤ c ∧ Kd.R k24 24 w' B (fun _ => True) (.slice A m c) (allL l) ∧ Below w.heap.size w w' :=
  (refAll_v B gm u ml most l n w h.2.1 hr (by rw [rel_len hr]; omega)).mono (by
    rintro e w' ⟨u', rfl, hu, hb⟩
    obtain ⟨A, c, rfl, hc, _⟩ := Kd.R_reads hu
    rw [allL_length, ← hm] at *
    exact ⟨A, c, rfl, hc, Kd.R_lower hu h.2.2.2, hb⟩)
/-! ### One step, by both -/
theorem do_put {l : List S60} {ml : List S24} {n most : Int} (h : Rel l ml n) (hm : (l.length : Int) ≤ most) (x : S24) : ∃ (r : Int) (l' : List S60) (n' : Int) (ml' : List S24), (((l.length : Int) = most ∧ r = 2 ∧ l' = l ∧ n' = n) ∨ (¬ (l.length : Int) = most ∧ r = 0 ∧ l' = putL l ⟨x.f0, x.f1, x.f2, x.f3, n⟩ ∧ n' = n + 1)) ∧ ((most ≤ (ml.length : Int) ∧ r = 2 ∧ ml' = ml) ∨ ((ml.length : Int) < most ∧ r = 0 ∧ ml' = ml ++ [x])) ∧ Rel l' ml' n' ∧ n ≤ n' ∧ n' ≤ n + 1 ∧ (l'.length : Int) ≤ most ∧ l'.length ≤ l.length + 1 := by
  have hlen := rel_len h
  by_cases e : (l.length : Int) = most
  · exact ⟨2, l, n, ml, .inl ⟨e, rfl, rfl, rfl⟩, .inl ⟨by omega, rfl, rfl⟩, h, by omega, by omega, hm, by omega⟩
  · exact ⟨0, putL l ⟨x.f0, x.f1, x.f2, x.f3, n⟩, n + 1, ml ++ [x], .inr ⟨e, rfl, rfl, rfl⟩, .inr ⟨by omega, rfl, rfl⟩, rel_put h x, by omega, by omega, by rw [putL_length]; omega, by rw [putL_length]; omega⟩
theorem do_next {l : List S60} {ml : List S24} {n : Int} (h : Rel l ml n) (hl : l.length ≤ 1000000) (till : Int) : ∃ (q : Int) (x : S24) (b : Bool) (l' : List S60) (ml' : List S24), pacemakerref29_first.f (ml.length + 1) ml = some q ∧ ((b = false ∧ x = z24 ∧ l' = l ∧ ∀ y, l[0]? = some y → till < y.f0) ∨ (b = true ∧ l' = takeL l ∧ ∃ y, l[0]? = some y ∧ y.f0 ≤ till ∧ x = evS y)) ∧ ((b = false ∧ x = z24 ∧ ml' = ml ∧ (q < 0 ∨ ∃ a : Nat, q = (a : Int) ∧ a < ml.length ∧ till < (gM ml a).f0)) ∨ (b = true ∧ ∃ a : Nat, q = (a : Int) ∧ a < ml.length ∧ (gM ml a).f0 ≤ till ∧ x = gM ml a ∧ ml' = ml.eraseIdx a)) ∧ Rel l' ml' n ∧ l'.length ≤ l.length := by
  have hlen := rel_len h
  obtain ⟨q, hf, hq⟩ := first_f ml (by omega)
  rcases hq with ⟨rfl, rfl⟩ | ⟨a, rfl, ha⟩
  · obtain rfl := rel_empty h
    exact ⟨-1, z24, false, [], [], hf, .inl ⟨rfl, rfl, rfl, fun y hy => by simp at hy⟩, .inl ⟨rfl, rfl, rfl, .inl (by decide)⟩, h, by omega⟩
  · obtain ⟨y, hy, hye, h2⟩ := rel_first h ha
    have hf0 : y.f0 = (gM ml a).f0 := by rw [← hye]; rfl
    by_cases ht : till < y.f0
    · exact ⟨(a : Int), z24, false, l, ml, hf, .inl ⟨rfl, rfl, rfl, fun y' hy' => by rw [hy] at hy'; obtain rfl := Option.some.inj hy'; exact ht⟩, .inl ⟨rfl, rfl, rfl, .inr ⟨a, rfl, ha.1, by rw [← hf0]; exact ht⟩⟩, h, by omega⟩
    · exact ⟨(a : Int), evS y, true, takeL l, ml.eraseIdx a, hf, .inr ⟨rfl, rfl, y, hy, by omega, rfl⟩, .inr ⟨rfl, a, rfl, ha.1, by rw [← hf0]; omega, hye, rfl⟩, h2, by rw [takeL_length]; omega⟩
theorem do_peek {l : List S60} {ml : List S24} {n : Int} (h : Rel l ml n) (hl : l.length ≤ 1000000) : ∃ (q : Int) (x : S24) (b : Bool), pacemakerref29_first.f (ml.length + 1) ml = some q ∧ ((b = false ∧ x = z24 ∧ l = []) ∨ (b = true ∧ ∃ y, l[0]? = some y ∧ x = evS y)) ∧ ((b = false ∧ x = z24 ∧ q < 0) ∨ (b = true ∧ ∃ a : Nat, q = (a : Int) ∧ a < ml.length ∧ x = gM ml a)) := by
  have hlen := rel_len h
  obtain ⟨q, hf, hq⟩ := first_f ml (by omega)
  rcases hq with ⟨rfl, rfl⟩ | ⟨a, rfl, ha⟩
  · obtain rfl := rel_empty h
    exact ⟨-1, z24, false, hf, .inl ⟨rfl, rfl, rfl⟩, .inl ⟨rfl, rfl, by decide⟩⟩
  · obtain ⟨y, hy, hye, _⟩ := rel_first h ha
    exact ⟨(a : Int), evS y, true, hf, .inr ⟨rfl, y, hy, rfl⟩, .inr ⟨rfl, a, rfl, ha.1, hye⟩⟩
end Go.Proofs.Ytocdpfdnnijdkaa.G
