import Derived.Test.YtdkdnfgpgedglaaQHeapIns
namespace Go.Proofs.Ytdkdnfgpgedglaa.P
end Go.Proofs.Ytdkdnfgpgedglaa.P
namespace Go.Proofs.Ytdkdnfgpgedglaa.Q
end Go.Proofs.Ytdkdnfgpgedglaa.Q
namespace Go.Proofs.Ytdkdnfgpgedglaa.Q
open Go.RowKit Go.Proofs.Ytdkdnfgpgedglaa.P Go.Proofs.YtdkdnfgpgedglaaW.PrintWords Go.Proofs.YtdkdnfgpgedglaaW.PrintLast Go.Proofs.YtdkdnfgpgedglaaW.PrintMore
set_option linter.unusedVariables false
set_option linter.unusedSimpArgs false
theorem less_key {x y : S29} (h : lessE x y = true) {a : List UInt8} (hy : Op.bytesLess (ky y) a = true) : Op.bytesLess (ky x) a = true := by
  rcases lessF_iff.1 (show lessF (ky x) x.f1 (ky y) y.f1 = true from h) with h1 | h1
  · exact lt_trans h1 hy
  · rw [h1.1]; exact hy
def ltK (a : List UInt8) (e : S29) : Bool := Op.bytesLess (ky e) a
def inK (tx : List UInt8) (e : S29) : Bool := tx.isEmpty || Op.bytesLess (ky e) tx
theorem rngL_filter (tx : List UInt8) : ∀ {l : List S29}, PW l → rngL tx l = l.filter (inK tx)
  | [], _ => rfl
  | x :: t, h => by
    have h1 := List.pairwise_cons.1 h
    have ih := rngL_filter tx (l := t) h1.2
    rw [rngL, List.filter_cons, toL]
    cases tx with
    | nil => rw [if_neg (by simp), ih]; rfl
    | cons c tx =>
      cases hx : Op.bytesLess (ky x) (c :: tx) with
      | true =>
        rw [if_neg (fun hh => by have h2 := hh.2; rw [show x.f0.data.toList = ky x from rfl, hx] at h2; cases h2), if_pos (show inK (c :: tx) x = true from hx), ih]
      | false =>
        rw [if_pos ⟨by simp, hx⟩, if_neg (show ¬ inK (c :: tx) x = true from fun hh => by have h2 : Op.bytesLess (ky x) (c :: tx) = true := hh; rw [hx] at h2; cases h2)]
        refine (List.filter_eq_nil_iff.2 (fun y hy hh => ?_)).symm
        have := less_key (h1.1 y hy) (show Op.bytesLess (ky y) (c :: tx) = true from hh)
        rw [hx] at this; cases this
theorem less_top {e : S29} (h : okE e = true) (a : List UInt8) : lessF (ky e) e.f1 a 1000000 = Op.bytesLess (ky e) a := by
  have h0 := isF_iff.1 h
  unfold lessF
  rw [decide_eq_false (by omega), Bool.and_false, Bool.or_false]
theorem good_tail {x : S29} {t : List S29} (h : Good (x :: t)) : Good t := ⟨(List.pairwise_cons.1 h.1).2, fun e he => h.2 e (List.mem_cons_of_mem _ he)⟩
theorem range_filter (a tx : List UInt8) : ∀ {l : List S29}, Good l → rangeE l a tx = l.filter (fun e => !(ltK a e) && inK tx e)
  | [], _ => rfl
  | x :: t, h => by
    have h1 := List.pairwise_cons.1 h.1
    have ih := range_filter a tx (good_tail h)
    unfold rangeE at ih ⊢
    rw [place_cons, less_top (h.2 x List.mem_cons_self), List.filter_cons]
    cases hx : Op.bytesLess (ky x) a with
    | true =>
      rw [if_pos rfl, List.drop_succ_cons, ih, if_neg (by unfold ltK; rw [hx]; simp)]
    | false =>
      rw [if_neg (by simp), List.drop_zero, rngL_filter tx h.1]
      have hall : ∀ y ∈ x :: t, ltK a y = false := by
        intro y hy
        rcases List.mem_cons.1 hy with rfl | hy
        · exact hx
        · cases h2 : ltK a y with
          | false => rfl
          | true => have := less_key (h1.1 y hy) h2; rw [hx] at this; cases this
      rw [← List.filter_cons (p := fun e => !(ltK a e) && inK tx e)]
      refine List.filter_congr (fun y hy => ?_)
      rw [hall y hy]; rfl
theorem less_nil (x : List UInt8) : Op.bytesLess x [] = false := by cases x <;> rfl
theorem range_low {l : List S29} (h : Good l) {key : List UInt8} (hk : key ≠ []) : rangeE l [] key = l.filter (ltK key) := by
  rw [range_filter [] key h]
  refine List.filter_congr (fun y _ => ?_)
  unfold ltK inK
  rw [less_nil]
  cases key with
  | nil => exact absurd rfl hk
  | cons c t => rfl
theorem range_high {l : List S29} (h : Good l) (key : List UInt8) : rangeE l key [] = l.filter (fun e => !(ltK key e)) := by
  rw [range_filter key [] h]
  refine List.filter_congr (fun y _ => ?_)
  simp [inK]
theorem range_all {l : List S29} (h : Good l) : rangeE l [] [] = l := by
  rw [range_high h]
  refine List.filter_eq_self.2 (fun y _ => ?_)
  unfold ltK
  rw [less_nil]; rfl
theorem range_none {l : List S29} (h : Good l) {key : List UInt8} (hk : key ≠ []) : rangeE l key key = [] := by
  rw [range_filter key key h]
  refine List.filter_eq_nil_iff.2 (fun y _ => ?_)
  cases key with
  | nil => exact absurd rfl hk
  | cons c t =>
    show ¬ (!(Op.bytesLess (ky y) (c :: t)) && (Op.bytesLess (ky y) (c :: t))) = true
    cases Op.bytesLess (ky y) (c :: t) <;> simp
theorem filter_parts (key : List UInt8) : ∀ {l : List S29}, PW l → l.filter (ltK key) ++ l.filter (fun e => !(ltK key e)) = l
  | [], _ => rfl
  | x :: t, h => by
    have h1 := List.pairwise_cons.1 h
    have ih := filter_parts key (l := t) h1.2
    rw [List.filter_cons, List.filter_cons]
    cases hx : ltK key x with
    | true => rw [if_pos rfl, if_neg (by simp), List.cons_append, ih]
    | false =>
      rw [if_neg (by simp), if_pos (show (!false) = true from rfl)]
      have hall : ∀ y ∈ t, ltK key y = false := by
        intro y hy
        cases h2 : ltK key y with
        | false => rfl
        | true => have := less_key (h1.1 y hy) h2; rw [show Op.bytesLess (ky x) key = ltK key x from rfl, hx] at this; cases this
      rw [List.filter_eq_nil_iff.2 (fun y hy => by rw [hall y hy]; simp), List.nil_append, List.filter_eq_self.2 (fun y hy => by rw [hall y hy]; rfl)]
theorem parts_all {l : List S29} (h : Good l) {key : List UInt8} (hk : key ≠ []) : rangeE l [] key ++ rangeE l key [] = l := by
  rw [range_low h hk, range_high h]; exact filter_parts key h.1
theorem low_at {l : List S29} (h : Good l) {key : List UInt8} (hk : key ≠ []) {e : S29} (he : e ∈ rangeE l [] key) : Op.bytesLess (ky e) key = true := by
  rw [range_low h hk] at he; exact (List.mem_filter.1 he).2
theorem high_at {l : List S29} (h : Good l) {key : List UInt8} {e : S29} (he : e ∈ rangeE l key []) : Op.bytesLess (ky e) key = false := by
  rw [range_high h] at he; simpa [ltK] using (List.mem_filter.1 he).2
end Go.Proofs.Ytdkdnfgpgedglaa.Q
