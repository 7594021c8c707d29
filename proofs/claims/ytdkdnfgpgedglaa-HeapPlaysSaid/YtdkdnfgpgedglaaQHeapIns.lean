import Derived.Test.YtdkdnfgpgedglaaQHeapSpec
import Derived.Test.YtdkdnfgpgedglaaQMergeSpec
import Derived.Test.YtdkdnfgpgedglaaPx3
namespace Go.Proofs.Ytdkdnfgpgedglaa.P
end Go.Proofs.Ytdkdnfgpgedglaa.P
namespace Go.Proofs.Ytdkdnfgpgedglaa.Q
end Go.Proofs.Ytdkdnfgpgedglaa.Q
namespace Go.Proofs.Ytdkdnfgpgedglaa.Q
open Go.RowKit Go.Proofs.Ytdkdnfgpgedglaa.P Go.Proofs.YtdkdnfgpgedglaaW.PrintWords Go.Proofs.YtdkdnfgpgedglaaW.PrintLast Go.Proofs.YtdkdnfgpgedglaaW.PrintMore
set_option linter.unusedVariables false
set_option linter.unusedSimpArgs false
theorem place_cons (x : S29) (t : List S29) (key : List UInt8) (seq : Int) : placeE (x :: t) key seq = if lessF (ky x) x.f1 key seq = true then placeE t key seq + 1 else 0 := by
  unfold placeE
  rw [List.takeWhile_cons]
  unfold ahead
  split <;> simp
theorem thereE_eq : ∀ {l : List S29}, l.Pairwise (fun a b => lessE a b = true) → ∀ e, thereE l e = (lookE l (ky e) e.f1).isSome
  | [], _, e => rfl
  | x :: t, h, e => by
    have h1 := List.pairwise_cons.1 h
    have ih := thereE_eq h1.2 e
    unfold thereE ixE at ih ⊢
    rw [place_cons, look_cons]
    rcases lessF_tri (ky x) (ky e) x.f1 e.f1 with h3 | h3 | h3
    · rw [if_pos h3, if_neg (fun hh => less_ne (a := x) (b := e) h3 (hit_iff.1 hh)), ← ih]
      simp only [List.length_cons, Nat.add_lt_add_iff_right, List.getD_cons_succ]
    · have h4 : lessF (ky x) x.f1 (ky e) e.f1 = false := by rw [h3.1, h3.2]; exact lessF_irrefl _ _
      rw [if_neg (by rw [h4]; simp), if_pos (hit_iff.2 h3)]
      simp [h3.1, h3.2]
    · have h4 := lessF_asymm h3
      have h5 : ¬ (ky x = ky e ∧ x.f1 = e.f1) := fun hh => less_ne (a := e) (b := x) h3 ⟨hh.1.symm, hh.2.symm⟩
      rw [if_neg (by rw [h4]; simp), if_neg (fun hh => h5 (hit_iff.1 hh)), behind_none (x := e) (fun y hy => lessF_trans h3 (h1.1 y hy)) ⟨rfl, rfl⟩]
      simp only [List.getD_cons_zero, Option.isSome_none, Bool.and_eq_false_iff]
      by_cases h6 : ky x = ky e
      · exact .inr (.inr (beq_eq_false_iff_ne.2 (fun h7 => h5 ⟨h6, h7⟩)))
      · exact .inr (.inl (beq_eq_false_iff_ne.2 h6))
theorem ins_eq : ∀ {l : List S29}, l.Pairwise (fun a b => lessE a b = true) → ∀ e, ins l e = if thereE l e = true then l else insL l (ixE l e) e
  | [], _, e => rfl
  | x :: t, h, e => by
    have h1 := List.pairwise_cons.1 h
    have ih := ins_eq h1.2 e
    rw [thereE_eq h] 
    rw [thereE_eq h1.2] at ih
    unfold ixE at ih ⊢
    rw [place_cons, look_cons, ins]
    rcases lessF_tri (ky x) (ky e) x.f1 e.f1 with h3 | h3 | h3
    · have h4 : lessE e x = false := lessF_asymm h3
      rw [if_neg (by rw [h4]; simp), if_neg (less_ne (a := x) (b := e) h3), if_pos h3, if_neg (fun hh => less_ne (a := x) (b := e) h3 (hit_iff.1 hh)), ih]
      split
      · rfl
      · simp [insL]
    · have h4 : lessE e x = false := by unfold lessE; rw [h3.1, h3.2]; exact lessF_irrefl _ _
      rw [if_neg (by rw [h4]; simp), if_pos h3, if_pos (hit_iff.2 h3)]
      simp
    · have h4 := lessF_asymm h3
      have h5 : ¬ (ky x = ky e ∧ x.f1 = e.f1) := fun hh => less_ne (a := e) (b := x) h3 ⟨hh.1.symm, hh.2.symm⟩
      rw [if_pos (show lessE e x = true from h3), if_neg (c := lessF (ky x) x.f1 (ky e) e.f1 = true) (by rw [h4]; simp), if_neg (fun hh => h5 (hit_iff.1 hh)), behind_none (x := e) (fun y hy => lessF_trans h3 (h1.1 y hy)) ⟨rfl, rfl⟩]
      simp [insL]
def PW (l : List S29) : Prop := l.Pairwise (fun a b => lessE a b = true)
theorem putB_eq {l : List S29} (h : PW l) (e : S29) : putB l e = (okE e && (lookE l (ky e) e.f1).isNone) := by
  unfold putB
  rw [thereE_eq h]
  cases lookE l (ky e) e.f1 <;> rfl
theorem putE_eq {l : List S29} (h : PW l) (e : S29) : putE l e = if okE e = true then ins l e else l := by
  unfold putE putB
  rw [ins_eq h]
  cases okE e <;> cases thereE l e <;> rfl
theorem putE_pw {l : List S29} (h : PW l) (e : S29) : PW (putE l e) := by
  rw [putE_eq h]
  split
  · exact ins_pw e h
  · exact h
theorem putE_length {l : List S29} (e : S29) : (putE l e).length = if putB l e = true then l.length + 1 else l.length := by
  unfold putE
  split
  · have hp : ixE l e ≤ l.length := place_le l _ _
    simp only [insL, List.length_append, List.length_take, List.length_cons, List.length_drop]
    omega
  · rfl
theorem putE_le (l : List S29) (e : S29) : (putE l e).length ≤ l.length + 1 := by
  rw [putE_length]; split <;> omega
theorem sumE_append (a b : List S29) : sumE (a ++ b) = sumE a + sumE b := by simp [sumE]
theorem sumE_cons (a : S29) (b : List S29) : sumE (a :: b) = szE a + sumE b := by simp [sumE]
theorem sumE_put (l : List S29) (e : S29) : (if putB l e = true then sumE l + szE e else sumE l) = sumE (putE l e) := by
  unfold putE
  split
  · have h : sumE l = sumE (l.take (ixE l e)) + sumE (l.drop (ixE l e)) := by rw [← sumE_append, List.take_append_drop]
    rw [insL, sumE_append, sumE_cons]
    omega
  · rfl
theorem szE_ok {e : S29} (h : okE e = true) : 0 ≤ szE e ∧ szE e ≤ 100 := by
  have h0 := isF_iff.1 h
  have a0 : (ky e).length = e.f0.size := rfl
  have a1 : (vl e).length = e.f3.size := rfl
  unfold szE
  omega
/-- What stands there may stand there. -/
def Good (l : List S29) : Prop := PW l ∧ ∀ e ∈ l, okE e = true
theorem good_nil : Good [] := ⟨List.Pairwise.nil, fun _ h => by cases h⟩
theorem good_put {l : List S29} (h : Good l) (e : S29) : Good (putE l e) := by
  refine ⟨putE_pw h.1 e, fun x hx => ?_⟩
  rw [putE_eq h.1] at hx
  split at hx
  · rename_i ho
    rcases mem_ins hx with rfl | hx
    · exact ho
    · exact h.2 x hx
  · exact h.2 x hx
theorem sum_le : ∀ {l : List S29}, (∀ e ∈ l, okE e = true) → 0 ≤ sumE l ∧ sumE l ≤ 100 * l.length
  | [], _ => by simp [sumE]
  | e :: t, h => by
    have h1 := sum_le (l := t) (fun x hx => h x (List.mem_cons_of_mem _ hx))
    have h2 := szE_ok (h e List.mem_cons_self)
    rw [sumE_cons, List.length_cons]
    omega
/-- HPut once more: a good row with its sum. -/
theorem HPutG (w : World) (g : Nat) (l : List S29) (F : Nat → Prop) (e : S29) (h : HpF w g l (sumE l) F) (hs : Good l) (hl : l.length ≤ 1000000) :
    Calls Try.prog 12 #[.pointer (some ⟨g, 0, none⟩), .agg #[.string e.f0, .int .i64 e.f1, .bool e.f2, .string e.f3]] w fun r w' => ∃ F' : Nat → Prop, r = .returned (.bool (putB l e)) ∧ HpF w' g (putE l e) (sumE (putE l e)) F' ∧ (∀ k, F' k → F k ∨ w.heap.size ≤ k ∧ k < w'.heap.size) ∧ Go.Proofs.Ytdkdnfgpgedglaa.P.Fr w w' F := by
  have h1 := sum_le hs.2
  refine (HPut w g l (sumE l) F e h (pw_sorted hs.1) hl ⟨h1.1, by omega⟩).mono ?_
  rintro r w' ⟨F', a, b, c, d⟩
  rw [sumE_put] at b
  exact ⟨F', a, b, c, d⟩
/-! All entries of a row put in, one by one -/
def putAll (l row : List S29) : List S29 := row.foldl putE l
theorem putAll_snoc (l row : List S29) (e : S29) : putAll l (row ++ [e]) = putE (putAll l row) e := by simp [putAll, List.foldl_append]
theorem good_all (row : List S29) : ∀ {l : List S29}, Good l → Good (putAll l row) := by
  induction row with
  | nil => exact fun h => h
  | cons e t ih => exact fun h => ih (good_put h e)
theorem putAll_length (row : List S29) : ∀ (l : List S29), (putAll l row).length ≤ l.length + row.length := by
  induction row with
  | nil => exact fun l => Nat.le_refl _
  | cons e t ih =>
    intro l
    have h1 := ih (putE l e)
    have h2 := putE_le l e
    show (putAll (putE l e) t).length ≤ _
    rw [List.length_cons]
    omega
theorem look_putAll (row : List S29) (k : List UInt8) (s : Int) : ∀ {l : List S29}, PW l → lookE (putAll l row) k s = (lookE l k s).or (lookE (row.filter okE) k s) := by
  induction row with
  | nil => intro l h; simp only [List.filter_nil]; rw [look_nil, Option.or_none]; rfl
  | cons e t ih =>
    intro l h
    show lookE (putAll (putE l e) t) k s = _
    rw [ih (putE_pw h e), putE_eq h, List.filter_cons]
    by_cases ho : okE e = true
    · rw [if_pos ho, if_pos ho, look_ins e h, Option.or_assoc, ← look_append]; rfl
    · rw [if_neg ho, if_neg ho]
/-! Get, Range: in one -/
def getE (l : List S29) (key : List UInt8) (seq : Int) : NE :=
  if placeE l key seq < l.length ∧ ky (l.getD (placeE l key seq) z29) = key then someE (l.getD (placeE l key seq) z29) else noneE
theorem HGetG (w : World) (g : Nat) (l : List S29) (n : Int) (key : ByteArray) (seq : Int) (h : HpR w g l n) (hs : Good l) (hl : l.length ≤ 1000000) :
    Calls Try.prog 14 #[.pointer (some ⟨g, 0, none⟩), .string key, .int .i64 seq] w fun e w' => e = .returned (.tuple #[.agg #[.string (getE l key.data.toList seq).1, .int .i64 (getE l key.data.toList seq).2.1, .bool (getE l key.data.toList seq).2.2.1, .string (getE l key.data.toList seq).2.2.2.1], .bool (getE l key.data.toList seq).2.2.2.2]) ∧ Below w.heap.size w w' := by
  obtain ⟨K, hK⟩ := first_ev l (by omega) (pw_sorted hs.1) key seq
  have hF := hK K (Nat.le_refl _)
  have hle : placeE l key.data.toList seq ≤ l.length := place_le l _ _
  rcases Nat.lt_or_ge (placeE l key.data.toList seq) l.length with hi | hi
  · by_cases hk : ky (l.getD (placeE l key.data.toList seq) z29) = key.data.toList
    · have e : getE l key.data.toList seq = someE (l.getD (placeE l key.data.toList seq) z29) := if_pos ⟨hi, hk⟩
      refine (HGet_some K w g l n key seq _ h hF hi (by rw [hrd, toL, toL]; exact hk)).mono ?_
      rintro r w' ⟨a, b⟩
      rw [e]
      rw [hrd] at a
      exact ⟨a, b⟩
    · have e : getE l key.data.toList seq = noneE := if_neg (fun hh => hk hh.2)
      refine (HGet_key K w g l n key seq _ h hF hi (by rw [hrd, toL, toL]; exact hk)).mono ?_
      rintro r w' ⟨a, b⟩
      rw [e]
      exact ⟨a, b⟩
  · have e : getE l key.data.toList seq = noneE := if_neg (fun hh => by omega)
    refine (HGet_end K w g l n key seq _ h hF (by omega)).mono ?_
    rintro r w' ⟨a, b⟩
    rw [e]
    exact ⟨a, b⟩
def rangeE (l : List S29) (a tx : List UInt8) : List S29 := rngL tx (l.drop (placeE l a 1000000))
theorem HRangeG (w : World) (g : Nat) (l : List S29) (n : Int) (a tx : ByteArray) (h : HpR w g l n) (hs : Good l) (hl : l.length ≤ 1000000) :
    Calls Try.prog 18 #[.pointer (some ⟨g, 0, none⟩), .string a, .string tx] w fun e w' => ∃ v : Value, e = .returned v ∧ Kd.R k29 29 w' w.heap.size (fun _ => True) v (rangeE l a.data.toList tx.data.toList) ∧ Below w.heap.size w w' := by
  obtain ⟨K, hK⟩ := first_ev l (by omega) (pw_sorted hs.1) a 1000000
  have := HRange K w g l n a tx _ h (hK K (Nat.le_refl _)) (place_le l _ _) hl
  rw [toL] at this
  exact this
/-! few -/
def fewB (l : List S29) : Bool := l.all (fun e => decide (e.f0.size ≤ 20) && decide (e.f3.size ≤ 40)) && decide (l.length ≤ 60)
theorem few_l0 (l : List S29) (hl : l.length ≤ 9223372036854775807) (n : Nat) : ∀ i : Nat, l.length - i = n → Ev (fun k => ravelinlaw10_few.l0 k l (i : Int)) ((l.drop i).all (fun e => decide (e.f0.size ≤ 20) && decide (e.f3.size ≤ 40)) && decide (l.length ≤ 60)) := by
  induction n with
  | zero =>
    intro i hi
    refine Ev.step (fun k => ravelinlaw10_few.l0.eq_2 ..) (evF (by omega) (evEq (evSome _) ?_))
    rw [List.drop_eq_nil_of_le (by omega)]
    simp only [List.all_nil, Bool.true_and]
    exact decide_eq_decide.2 (by omega)
  | succ n ih =>
    intro i hi
    refine Ev.step (fun k => ravelinlaw10_few.l0.eq_2 ..) (evT (by omega) (evT (by omega) ?_))
    rw [hrd, drop_cons l z29 i (by omega), List.all_cons, w64 (by omega), show (i : Int) + 1 = ((i + 1 : Nat) : Int) by omega]
    by_cases h1 : (l.getD i z29).f0.size ≤ 20
    · refine evF (by omega) ?_
      by_cases h2 : (l.getD i z29).f3.size ≤ 40
      · refine evF (by omega) (evEq (ih (i + 1) (by omega)) ?_)
        rw [decide_eq_true h1, decide_eq_true h2, Bool.true_and, Bool.true_and]
      · refine evT (by omega) (evEq (evSome _) ?_)
        rw [decide_eq_false h2, Bool.and_false, Bool.false_and, Bool.false_and]
    · refine evT (by omega) (evEq (evSome _) ?_)
      rw [decide_eq_false h1, Bool.false_and, Bool.false_and, Bool.false_and]
theorem few_ev (l : List S29) (hl : l.length ≤ 9223372036854775807) : Ev (fun k => ravelinlaw10_few.f k l) (fewB l) :=
  Ev.congr (fun k => ravelinlaw10_few.f.eq_1 ..) (few_l0 l hl _ 0 rfl)
/-! A heap of the function's own: what it is needed for, in one -/
structure HpA (w0 w : World) (g : Nat) (l : List S29) (F : Nat → Prop) : Prop where
  hp : HpF w g l (sumE l) F
  own : ∀ k, F k → w0.heap.size ≤ k ∧ k < w.heap.size
  low : Below w0.heap.size w0 w
  good : Good l
theorem HpA.rd {w0 w : World} {g : Nat} {l : List S29} {F : Nat → Prop} (h : HpA w0 w g l F) : HpR w g l (sumE l) := h.hp.reads
theorem HpA.below {w0 w w' : World} {g : Nat} {l : List S29} {F : Nat → Prop} (h : HpA w0 w g l F) (hb : Below w.heap.size w w') : HpA w0 w' g l F :=
  ⟨HpF_below h.hp hb, fun k hk => ⟨(h.own k hk).1, Nat.lt_of_lt_of_le (h.own k hk).2 hb.size⟩, below_step h.low hb, h.good⟩
theorem Fr_low {w0 w w' : World} {F : Nat → Prop} (h : Below w0.heap.size w0 w) (ho : ∀ k, F k → w0.heap.size ≤ k ∧ k < w.heap.size) (hf : Go.Proofs.Ytdkdnfgpgedglaa.P.Fr w w' F) : Below w0.heap.size w0 w' :=
  ⟨hf.os.trans h.os, hf.tape.trans h.tape, hf.output.trans h.output, Nat.le_trans h.size hf.size, fun k hk => (hf.block k (Nat.lt_of_lt_of_le hk h.size) (fun hF => by have := (ho k hF).1; omega)).trans (h.block k hk)⟩
theorem HpA.apart {w0 w w' : World} {g : Nat} {l : List S29} {F G : Nat → Prop} (h : HpA w0 w g l F) (hf : Go.Proofs.Ytdkdnfgpgedglaa.P.Fr w w' G) (hd : ∀ k, F k → ¬ G k) (hG : ∀ k, G k → w0.heap.size ≤ k ∧ k < w.heap.size) : HpA w0 w' g l F :=
  ⟨h.hp.move (fun k hk => hf.block k (h.own k hk).2 (hd k hk)), fun k hk => ⟨(h.own k hk).1, Nat.lt_of_lt_of_le (h.own k hk).2 hf.size⟩, Fr_low h.low hG hf, h.good⟩
theorem HNewA (w0 w : World) (hB : Below w0.heap.size w0 w) : Calls Try.prog 10 #[] w fun e w' => ∃ (g : Nat) (F : Nat → Prop), e = .returned (.pointer (some ⟨g, 0, none⟩)) ∧ HpA w0 w' g [] F ∧ (∀ k, F k → w.heap.size ≤ k) ∧ Below w.heap.size w w' := by
  refine (HNew w).mono ?_
  rintro e w' ⟨g, rfl, hh, hg, hlt, hb⟩
  exact ⟨g, fun k => k = g, rfl, ⟨hh, fun k hk => by subst hk; exact ⟨Nat.le_trans hB.size hg, hlt⟩, below_step hB hb, good_nil⟩, fun k hk => by subst hk; exact hg, hb⟩
theorem HPutA (w0 w : World) (g : Nat) (l : List S29) (F : Nat → Prop) (e : S29) (h : HpA w0 w g l F) (hl : l.length ≤ 1000000) :
    Calls Try.prog 12 #[.pointer (some ⟨g, 0, none⟩), .agg #[.string e.f0, .int .i64 e.f1, .bool e.f2, .string e.f3]] w fun r w' => ∃ F' : Nat → Prop, r = .returned (.bool (putB l e)) ∧ HpA w0 w' g (putE l e) F' ∧ (∀ k, F' k → F k ∨ w.heap.size ≤ k) ∧ Go.Proofs.Ytdkdnfgpgedglaa.P.Fr w w' F := by
  refine (HPutG w g l F e h.hp h.good hl).mono ?_
  rintro r w' ⟨F', rfl, b, c, d⟩
  refine ⟨F', rfl, ⟨b, fun k hk => ?_, Fr_low h.low h.own d, good_put h.good e⟩, fun k hk => (c k hk).imp id And.left, d⟩
  rcases c k hk with h1 | h1
  · exact ⟨(h.own k h1).1, Nat.lt_of_lt_of_le (h.own k h1).2 d.size⟩
  · exact ⟨Nat.le_trans h.low.size h1.1, h1.2⟩
theorem HCopyA (w0 w : World) (g : Nat) (l : List S29) (F : Nat → Prop) (h : HpA w0 w g l F) (hl : l.length ≤ 1000000) :
    Calls Try.prog 11 #[.pointer (some ⟨g, 0, none⟩)] w fun e w' => ∃ (g' : Nat) (F' : Nat → Prop), e = .returned (.pointer (some ⟨g', 0, none⟩)) ∧ HpA w0 w' g' l F' ∧ (∀ k, F' k → w.heap.size ≤ k) ∧ Below w.heap.size w w' := by
  refine (HCopy w g l (sumE l) h.rd (by omega)).mono ?_
  rintro e w' ⟨g', F', rfl, a, b, c⟩
  exact ⟨g', F', rfl, ⟨a, fun k hk => ⟨Nat.le_trans h.low.size (b k hk).1, (b k hk).2⟩, below_step h.low c, h.good⟩, fun k hk => (b k hk).1, c⟩
/-- Two of them that are apart. -/
structure HpA2 (w0 w : World) (g : Nat) (l : List S29) (F : Nat → Prop) (g' : Nat) (l' : List S29) (F' : Nat → Prop) : Prop where
  one : HpA w0 w g l F
  two : HpA w0 w g' l' F'
  dis : ∀ k, F k → ¬ F' k
theorem HpA2.below {w0 w w' : World} {g g' : Nat} {l l' : List S29} {F F' : Nat → Prop} (h : HpA2 w0 w g l F g' l' F') (hb : Below w.heap.size w w') : HpA2 w0 w' g l F g' l' F' := ⟨h.one.below hb, h.two.below hb, h.dis⟩
theorem HpA2.swap {w0 w : World} {g g' : Nat} {l l' : List S29} {F F' : Nat → Prop} (h : HpA2 w0 w g l F g' l' F') : HpA2 w0 w g' l' F' g l F := ⟨h.two, h.one, fun k h1 h2 => h.dis k h2 h1⟩
theorem HpA2.mk_new {w0 w w' : World} {g g' : Nat} {l l' : List S29} {F F' : Nat → Prop} (h : HpA w0 w g l F) (hb : Below w.heap.size w w') (h' : HpA w0 w' g' l' F') (hn : ∀ k, F' k → w.heap.size ≤ k) : HpA2 w0 w' g l F g' l' F' :=
  ⟨h.below hb, h', fun k h1 h2 => by have := (h.own k h1).2; have := hn k h2; omega⟩
theorem HPutA2 (w0 w : World) (g : Nat) (l : List S29) (F : Nat → Prop) (g' : Nat) (l' : List S29) (F' : Nat → Prop) (e : S29) (h : HpA2 w0 w g l F g' l' F') (hl : l.length ≤ 1000000) :
    Calls Try.prog 12 #[.pointer (some ⟨g, 0, none⟩), .agg #[.string e.f0, .int .i64 e.f1, .bool e.f2, .string e.f3]] w fun r w' => ∃ G : Nat → Prop, r = .returned (.bool (putB l e)) ∧ HpA2 w0 w' g (putE l e) G g' l' F' ∧ (∀ k, G k → F k ∨ w.heap.size ≤ k) ∧ Go.Proofs.Ytdkdnfgpgedglaa.P.Fr w w' F := by
  refine (HPutA w0 w g l F e h.one hl).mono ?_
  rintro r w' ⟨G, rfl, b, c, d⟩
  refine ⟨G, rfl, ⟨b, h.two.apart d (fun k h1 h2 => h.dis k h2 h1) h.one.own, fun k h1 h2 => ?_⟩, c, d⟩
  rcases c k h1 with h3 | h3
  · exact h.dis k h3 h2
  · have := (h.two.own k h2).2; omega
/-! A box of one entry beside them -/
theorem HpA.set {w0 w : World} {g : Nat} {l : List S29} {F : Nat → Prop} (h : HpA w0 w g l F) {gb j : Nat} (hd : ∀ k, F k → k ≠ gb) (hg : w0.heap.size ≤ gb) (v : Value) : HpA w0 (w.setCell ⟨gb, j, none⟩ v) g l F :=
  have hb : Below gb w (w.setCell ⟨gb, j, none⟩ v) := (Below.refl gb w).setCell (Nat.le_refl _) _
  ⟨h.hp.move (fun k hk => Below.heap_setCell w ⟨gb, j, none⟩ v k (hd k hk)), fun k hk => ⟨(h.own k hk).1, Nat.lt_of_lt_of_le (h.own k hk).2 hb.size⟩, h.low.setCell hg v, h.good⟩
def S4 (w : World) (g : Nat) (a b c d : Value) : World := (((w.setCell ⟨g, 0, none⟩ a).setCell ⟨g, 1, none⟩ b).setCell ⟨g, 2, none⟩ c).setCell ⟨g, 3, none⟩ d
theorem S4_box {w : World} {g : Nat} {a b c d a' b' c' d' : Value} {t : TypeId} (h : w.heap[g]? = some (.cells #[a, b, c, d] t (0, 0))) : (S4 w g a' b' c' d').heap[g]? = some (.cells #[a', b', c', d'] t (0, 0)) := by
  unfold S4
  refine blk_put (cs := #[a', b', c', d]) ?_ 3 _ rfl
  refine blk_put (cs := #[a', b', c, d]) ?_ 2 _ rfl
  refine blk_put (cs := #[a', b, c, d]) ?_ 1 _ rfl
  refine blk_put (cs := #[a, b, c, d]) ?_ 0 _ rfl
  exact h
theorem HpA.set4 {w0 w : World} {g : Nat} {l : List S29} {F : Nat → Prop} (h : HpA w0 w g l F) {gb : Nat} (hd : ∀ k, F k → k ≠ gb) (hg : w0.heap.size ≤ gb) (a b c d : Value) : HpA w0 (S4 w gb a b c d) g l F :=
  (((h.set hd hg a).set hd hg b).set hd hg c).set hd hg d
theorem below_set4 {w0 w : World} {gb : Nat} (h : Below w0.heap.size w0 w) (hg : w0.heap.size ≤ gb) (a b c d : Value) : Below w0.heap.size w0 (S4 w gb a b c d) := (((h.setCell hg _).setCell hg _).setCell hg _).setCell hg _
theorem far_set4 {w : World} {gb g : Nat} {o : Obj} (h : w.heap[g]? = some o) (hg : g ≠ gb) (a b c d : Value) : (S4 w gb a b c d).heap[g]? = some o := by
  unfold S4
  rw [Below.heap_setCell _ ⟨gb, 3, none⟩ d g hg, Below.heap_setCell _ ⟨gb, 2, none⟩ c g hg, Below.heap_setCell _ ⟨gb, 1, none⟩ b g hg, Below.heap_setCell _ ⟨gb, 0, none⟩ a g hg]
  exact h
theorem HpA2.set4 {w0 w : World} {g g' : Nat} {l l' : List S29} {F F' : Nat → Prop} (h : HpA2 w0 w g l F g' l' F') {gb : Nat} (hd : ∀ k, F k → k ≠ gb) (hd' : ∀ k, F' k → k ≠ gb) (hg : w0.heap.size ≤ gb) (a b c d : Value) : HpA2 w0 (S4 w gb a b c d) g l F g' l' F' :=
  ⟨h.one.set4 hd hg a b c d, h.two.set4 hd' hg a b c d, h.dis⟩
/-! Rows that come back, as they are read -/
/-- A row at A, read. -/
structure RdE (w : World) (A : Option Addr) (c : Nat) (l : List S29) : Prop where
  rd : Kd.C k29 w A l.length l
  le : l.length ≤ c
theorem RdE.below {w w' : World} {A : Option Addr} {c : Nat} {l : List S29} (h : RdE w A c l) (hb : Below w.heap.size w w') : RdE w' A c l := ⟨Kd.C_below h.1 hb, h.2⟩
theorem HAllC (w0 w : World) (g : Nat) (l : List S29) (F : Nat → Prop) (h : HpA w0 w g l F) (hl : l.length ≤ 1000000) : Calls Try.prog 17 #[.pointer (some ⟨g, 0, none⟩)] w fun e w' => ∃ (A : Option Addr) (c : Nat), e = .returned (.slice A l.length c) ∧ RdE w' A c l ∧ Below w.heap.size w w' :=
  (HAll w g l _ h.rd (by omega)).mono (fun e w' ⟨v, a, b, d⟩ => by
    obtain ⟨A, c, rfl, hc, hC⟩ := Kd.R_reads b
    exact ⟨A, c, a, ⟨hC, hc⟩, d⟩)
theorem HRangeC (w0 w : World) (g : Nat) (l : List S29) (F : Nat → Prop) (a tx : ByteArray) (h : HpA w0 w g l F) (hl : l.length ≤ 1000000) : Calls Try.prog 18 #[.pointer (some ⟨g, 0, none⟩), .string a, .string tx] w fun e w' => ∃ (A : Option Addr) (c : Nat), e = .returned (.slice A (rangeE l a.data.toList tx.data.toList).length c) ∧ RdE w' A c (rangeE l a.data.toList tx.data.toList) ∧ Below w.heap.size w w' :=
  (HRangeG w g l _ a tx h.rd h.good hl).mono (fun e w' ⟨v, x, b, d⟩ => by
    obtain ⟨A, c, rfl, hc, hC⟩ := Kd.R_reads b
    exact ⟨A, c, x, ⟨hC, hc⟩, d⟩)
end Go.Proofs.Ytdkdnfgpgedglaa.Q
