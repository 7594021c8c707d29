import Derived.Test.YtjcpdbekdimceaaQMergeSpec
namespace Go.Proofs.Ytjcpdbekdimceaa.P
end Go.Proofs.Ytjcpdbekdimceaa.P
namespace Go.Proofs.Ytjcpdbekdimceaa.Q
end Go.Proofs.Ytjcpdbekdimceaa.Q
namespace Go.Proofs.Ytjcpdbekdimceaa.Q
open Go.RowKit Go.Proofs.Ytjcpdbekdimceaa.P Go.Proofs.YtjcpdbekdimceaaW.PrintWords Go.Proofs.YtjcpdbekdimceaaW.PrintLast Go.Proofs.YtjcpdbekdimceaaW.PrintMore
set_option linter.unusedVariables false
set_option linter.unusedSimpArgs false

/-! Groups: entries in order, those of one key together -/
def isG : List S39 → List (List S39) → Prop
  | l, [] => l = []
  | l, g :: gs => ∃ e t rest, g = e :: t ∧ l = g ++ rest ∧ (∀ x ∈ g, ky x = ky e) ∧ (∀ y u, rest = y :: u → ky y ≠ ky e) ∧ isG rest gs
theorem key_lt {a b : S39} (h : lessE a b = true) : Op.bytesLess (ky a) (ky b) = true ∨ ky a = ky b := by
  unfold lessE at h
  rcases lessF_iff.1 h with h | h
  · exact .inl h
  · exact .inr h.1
theorem key_le {a b : S39} (h : lessE a b = true) (hk : ky a = ky b) : b.f1 < a.f1 := by
  unfold lessE at h
  rcases lessF_iff.1 h with h | h
  · rw [hk, lt_irrefl] at h; cases h
  · exact h.2
/-- Behind a group there is none of its key. -/
theorem rest_ne {e : S39} {t rest : List S39} (hp : (e :: t ++ rest).Pairwise (fun a b => lessE a b = true)) (hr : ∀ y u, rest = y :: u → ky y ≠ ky e) : ∀ x ∈ rest, ky x ≠ ky e := by
  intro x hx he
  rw [List.pairwise_append] at hp
  cases rest with
  | nil => cases hx
  | cons y u =>
    have h0 := hr y u rfl
    have h1 := hp.2.2 e List.mem_cons_self y List.mem_cons_self
    have h2 : Op.bytesLess (ky e) (ky y) = true := by
      rcases key_lt h1 with h | h
      · exact h
      · exact absurd h.symm h0
    rcases List.mem_cons.1 hx with rfl | hx
    · exact h0 he
    · have h3 := (List.pairwise_cons.1 hp.2.1).1 x hx
      have h4 : Op.bytesLess (ky y) (ky x) = true := by
        rcases key_lt h3 with h | h
        · exact h
        · exact absurd (h.trans he) h0
      rw [he] at h4
      have h5 := lt_trans h2 h4
      rw [lt_irrefl] at h5; cases h5
/-! What is seen -/
def firstK (p : Option S39) (e : S39) : Bool := match p with | none => true | some d => !(ky d == ky e)
def seen (p : Option S39) (e : S39) (q : Int) : Bool := decide (e.f1 ≤ q) && (match p with | none => true | some d => !(ky d == ky e) || decide (q < d.f1)) && !e.f2
def visL : Option S39 → List S39 → Int → List S39
  | _, [], _ => []
  | p, e :: t, q => (if seen p e q = true then [e] else []) ++ visL (some e) t q
def nv (q : Int) : List S39 → List S39
  | [] => []
  | e :: t => if e.f1 ≤ q then (if e.f2 = true then [] else [e]) else nv q t
def lst : S39 → List S39 → S39
  | e, [] => e
  | _, x :: t => lst x t
theorem lst_key {κ : List UInt8} : ∀ (t : List S39) (e : S39), ky e = κ → (∀ x ∈ t, ky x = κ) → ky (lst e t) = κ
  | [], _, h, _ => h
  | x :: t, _, _, h => lst_key t x (h x List.mem_cons_self) (fun y hy => h y (List.mem_cons_of_mem _ hy))
theorem vis_tail (q : Int) (rest : List S39) : ∀ (t : List S39) (p : S39), (∀ x ∈ t, ky x = ky p) → p.f1 ≤ q → (p :: t).Pairwise (fun a b => lessE a b = true) → visL (some p) (t ++ rest) q = visL (some (lst p t)) rest q
  | [], _, _, _, _ => rfl
  | e :: t, p, h, hq, hp => by
    have h1 := List.pairwise_cons.1 hp
    have hk := h e List.mem_cons_self
    have hlt := key_le (h1.1 e List.mem_cons_self) hk.symm
    have hs : seen (some p) e q = false := by
      unfold seen
      dsimp only
      rw [show (ky p == ky e) = true from beq_iff_eq.2 hk.symm, show decide (q < p.f1) = false from decide_eq_false (by omega)]
      simp
    rw [List.cons_append, visL, hs, if_neg (by simp), List.nil_append]
    exact vis_tail q rest t e (fun x hx => (h x (List.mem_cons_of_mem _ hx)).trans hk.symm) (by omega) h1.2
theorem vis_head (q : Int) (rest : List S39) (κ : List UInt8) : ∀ (t : List S39) (e : S39) (p : Option S39), (∀ x ∈ e :: t, ky x = κ) → (∀ d, p = some d → ky d ≠ κ ∨ q < d.f1) → (e :: t).Pairwise (fun a b => lessE a b = true) →
    visL p (e :: t ++ rest) q = nv q (e :: t) ++ visL (some (lst e t)) rest q
  | t, e, p, h, hd, hp => by
    have h1 := List.pairwise_cons.1 hp
    have hk := h e List.mem_cons_self
    by_cases hq : e.f1 ≤ q
    · have hs : seen p e q = !e.f2 := by
        unfold seen
        rw [decide_eq_true hq]
        cases p with
        | none => simp
        | some d =>
          dsimp only
          rcases hd d rfl with h2 | h2
          · rw [show (ky d == ky e) = false from beq_eq_false_iff_ne.2 (by rw [hk]; exact h2)]; simp
          · rw [decide_eq_true h2]; simp
      rw [List.cons_append, visL, hs, vis_tail q rest t e (fun x hx => (h x (List.mem_cons_of_mem _ hx)).trans hk.symm) hq hp, nv, if_pos hq]
      cases e.f2 <;> simp
    · have hs : seen p e q = false := by unfold seen; rw [decide_eq_false hq]; rfl
      rw [List.cons_append, visL, hs, if_neg (by simp), List.nil_append, nv, if_neg hq]
      cases t with
      | nil => rfl
      | cons x t =>
        exact vis_head q rest κ t x (some e) (fun y hy => h y (List.mem_cons_of_mem _ hy)) (fun d hd' => .inr (by cases hd'; omega)) h1.2
theorem vis_rest (q : Int) (d : S39) (rest : List S39) (h : ∀ y u, rest = y :: u → ky y ≠ ky d) : visL (some d) rest q = visL none rest q := by
  cases rest with
  | nil => rfl
  | cons y u =>
    have : seen (some d) y q = seen none y q := by
      unfold seen
      dsimp only
      rw [show (ky d == ky y) = false from beq_eq_false_iff_ne.2 (fun e => h y u rfl e.symm)]
      simp
    rw [visL, visL, this]
theorem vis_groups (q : Int) : ∀ (gs : List (List S39)) (l : List S39), isG l gs → l.Pairwise (fun a b => lessE a b = true) → visL none l q = gs.flatMap (nv q)
  | [], l, h, _ => by rw [show l = [] from h]; rfl
  | g :: gs, l, h, hp => by
    obtain ⟨e, t, rest, rfl, rfl, hg, hr, hgs⟩ := h
    have hp2 := List.pairwise_append.1 hp
    have hl : ky (lst e t) = ky e := lst_key t e rfl (fun x hx => hg x (List.mem_cons_of_mem _ hx))
    rw [vis_head q rest (ky e) t e none hg (fun d hd => by cases hd) hp2.1, vis_rest q _ rest (fun y u hy => by rw [hl]; exact hr y u hy), vis_groups q gs rest hgs hp2.2.1]
    rfl
/-! What is kept -/
def wantP (p : Option S39) (e : S39) (hs : List Int) : Bool := match p with | none => true | some d => !(ky d == ky e) || hs.any (fun h => decide (e.f1 ≤ h) && decide (h < d.f1))
def wantL : Option S39 → List S39 → List Int → List S39
  | _, [], _ => []
  | p, e :: t, hs => (if wantP p e hs = true then [e] else []) ++ wantL (some e) t hs
def stripR : List S39 → List S39
  | [] => []
  | e :: t => match stripR t with
    | [] => if e.f2 = true then [] else [e]
    | x :: u => if e.f2 = true ∧ ky x ≠ ky e then x :: u else e :: x :: u
def stripT : List S39 → List S39
  | [] => []
  | e :: t => match stripT t with
    | [] => if e.f2 = true then [] else [e]
    | x :: u => e :: x :: u
theorem stripR_mem : ∀ (l : List S39) {x : S39}, x ∈ stripR l → x ∈ l
  | [], _, h => h
  | e :: t, x, h => by
    have ih := fun {y : S39} => stripR_mem t (x := y)
    unfold stripR at h
    cases hs : stripR t with
    | nil =>
      rw [hs] at h
      simp only at h
      split at h
      · cases h
      · rw [List.mem_singleton.1 h]; exact List.mem_cons_self
    | cons y u =>
      rw [hs] at h ih
      simp only at h
      split at h
      · exact List.mem_cons_of_mem _ (ih h)
      · rcases List.mem_cons.1 h with rfl | h
        · exact List.mem_cons_self
        · exact List.mem_cons_of_mem _ (ih h)
theorem stripT_mem : ∀ (l : List S39) {x : S39}, x ∈ stripT l → x ∈ l
  | [], _, h => h
  | e :: t, x, h => by
    have ih := fun {y : S39} => stripT_mem t (x := y)
    unfold stripT at h
    cases hs : stripT t with
    | nil =>
      rw [hs] at h
      simp only at h
      split at h
      · cases h
      · rw [List.mem_singleton.1 h]; exact List.mem_cons_self
    | cons y u =>
      rw [hs] at h ih
      simp only at h
      rcases List.mem_cons.1 h with rfl | h
      · exact List.mem_cons_self
      · exact List.mem_cons_of_mem _ (ih h)
theorem strip_app (κ : List UInt8) (X : List S39) (hX : ∀ x ∈ X, ky x ≠ κ) : ∀ (l : List S39), (∀ x ∈ l, ky x = κ) → stripR (l ++ X) = stripT l ++ stripR X
  | [], _ => rfl
  | e :: t, h => by
    have ih := strip_app κ X hX t (fun x hx => h x (List.mem_cons_of_mem _ hx))
    rw [List.cons_append, stripR, ih, stripT]
    cases hs : stripT t with
    | nil =>
      simp only [List.nil_append]
      cases hx : stripR X with
      | nil => simp
      | cons x u =>
        have h1 : ky x ≠ ky e := by
          rw [h e List.mem_cons_self]
          exact hX x (stripR_mem X (by rw [hx]; exact List.mem_cons_self))
        simp only
        by_cases hd : e.f2 = true
        · rw [if_pos ⟨hd, h1⟩, if_pos hd]; rfl
        · rw [if_neg (fun hh => hd hh.1), if_neg hd]; rfl
    | cons x u =>
      have h1 : ky x = ky e := by
        rw [h e List.mem_cons_self]
        exact h x (List.mem_cons_of_mem _ (stripT_mem t (by rw [hs]; exact List.mem_cons_self)))
      simp only [List.cons_append]
      rw [if_neg (fun hh => hh.2 h1)]
theorem want_mem : ∀ (l : List S39) (p : Option S39) (hs : List Int) {x : S39}, x ∈ wantL p l hs → x ∈ l
  | [], _, _, _, h => h
  | e :: t, p, hs, x, h => by
    rw [wantL] at h
    rcases List.mem_append.1 h with h | h
    · split at h
      · rw [List.mem_singleton.1 h]; exact List.mem_cons_self
      · cases h
    · exact List.mem_cons_of_mem _ (want_mem t (some e) hs h)
theorem want_app (hs : List Int) (rest : List S39) : ∀ (t : List S39) (e : S39) (p : Option S39), wantL p (e :: t ++ rest) hs = wantL p (e :: t) hs ++ wantL (some (lst e t)) rest hs
  | [], e, p => by simp only [List.cons_append, List.nil_append, wantL, lst, List.append_nil]
  | x :: t, e, p => by
    have ih := want_app hs rest t x (some e)
    rw [List.cons_append, wantL, ih, ← List.append_assoc]
    rfl
theorem want_rest (hs : List Int) (d : S39) (rest : List S39) (h : ∀ y u, rest = y :: u → ky y ≠ ky d) : wantL (some d) rest hs = wantL none rest hs := by
  cases rest with
  | nil => rfl
  | cons y u =>
    have : wantP (some d) y hs = wantP none y hs := by
      unfold wantP
      simp only [show (ky d == ky y) = false from beq_eq_false_iff_ne.2 (fun e => h y u rfl e.symm)]
      rfl
    rw [wantL, wantL, this]
def keptG (hs : List Int) (b : Bool) (g : List S39) : List S39 := if b = true then stripT (wantL none g hs) else wantL none g hs
def packL (l : List S39) (hs : List Int) (b : Bool) : List S39 := if b = true then stripR (wantL none l hs) else wantL none l hs
theorem pack_groups (hs : List Int) (b : Bool) : ∀ (gs : List (List S39)) (l : List S39), isG l gs → l.Pairwise (fun a b => lessE a b = true) → packL l hs b = gs.flatMap (keptG hs b)
  | [], l, h, _ => by rw [show l = [] from h]; unfold packL; cases b <;> rfl
  | g :: gs, l, h, hp => by
    obtain ⟨e, t, rest, rfl, rfl, hg, hr, hgs⟩ := h
    have hp2 := List.pairwise_append.1 hp
    have hl : ky (lst e t) = ky e := lst_key t e rfl (fun x hx => hg x (List.mem_cons_of_mem _ hx))
    have ih := pack_groups hs b gs rest hgs hp2.2.1
    have e1 : wantL none (e :: t ++ rest) hs = wantL none (e :: t) hs ++ wantL none rest hs := by
      rw [want_app, want_rest hs _ rest (fun y u hy => by rw [hl]; exact hr y u hy)]
    rw [List.flatMap_cons, ← ih]
    unfold packL keptG
    rw [e1]
    cases b with
    | false => rfl
    | true =>
      rw [if_pos rfl, if_pos rfl, if_pos rfl]
      exact strip_app (ky e) _ (fun x hx => rest_ne hp hr x (want_mem rest none hs hx)) _ (fun x hx => hg x (want_mem _ none hs hx))
end Go.Proofs.Ytjcpdbekdimceaa.Q
