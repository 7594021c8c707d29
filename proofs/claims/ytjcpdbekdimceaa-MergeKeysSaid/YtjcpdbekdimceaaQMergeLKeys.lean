import Derived.Test.YtjcpdbekdimceaaQMergeKy
import Derived.Test.YtjcpdbekdimceaaQKyWords
import Derived.Test.YtjcpdbekdimceaaM2
import Derived.Test.YtjcpdbekdimceaaM3
import Derived.Test.YtjcpdbekdimceaaM6
namespace Go.Proofs.Ytjcpdbekdimceaa.Q
open Go.RowKit Go.Lib Go.Proofs.Ytjcpdbekdimceaa.P Go.Proofs.YtjcpdbekdimceaaW.PrintWords Go.Proofs.YtjcpdbekdimceaaW.PrintLast
set_option linter.unusedVariables false
set_option linter.unusedSimpArgs false
/-! Which keys a row has -/
def uF (l : List Int) (c : Nat) : Bool := l.any (fun x => x % 26 == (c : Int))
def inA (u0 u1 : Nat → Bool) : Array Value := ((List.range 52).map (fun i => Value.bool (if i < 26 then u0 i else u1 (i - 26)))).toArray
theorem inA_at (u0 u1 : Nat → Bool) {i : Nat} (h : i < 52) : (inA u0 u1)[i]? = some (.bool (if i < 26 then u0 i else u1 (i - 26))) := by
  simp [inA, h]
theorem inA_size (u0 u1 : Nat → Bool) : (inA u0 u1).size = 52 := by simp [inA]
theorem inA_ext {u0 u1 v0 v1 : Nat → Bool} {y : Nat} (hy : y < 52) (h : ∀ i, i < 52 → (if i < 26 then v0 i else v1 (i - 26)) = (if i = y then true else (if i < 26 then u0 i else u1 (i - 26)))) : (inA u0 u1).setIfInBounds y (.bool true) = inA v0 v1 := by
  apply Array.ext_getElem?
  intro i
  rcases Nat.lt_or_ge i 52 with hi | hi
  · rw [inA_at _ _ hi, h i hi]
    by_cases e : y = i
    · subst e
      rw [Array.getElem?_setIfInBounds_self_of_lt (by rw [inA_size]; exact hi), if_pos rfl]
    · rw [Array.getElem?_setIfInBounds_ne e, inA_at _ _ hi, if_neg (c := i = y) (fun e2 => e e2.symm)]
  · rw [Array.getElem?_eq_none (by rw [Array.size_setIfInBounds, inA_size]; exact hi), Array.getElem?_eq_none (by rw [inA_size]; exact hi)]
theorem uF_snoc {l : List Int} {i s x : Nat} (hlt : i < l.length) (hs : (s : Int) = l[i]) (hx : x = s % 26) (c : Nat) (hc : c < 26) : uF (l.take (i + 1)) c = if c = x then true else uF (l.take i) c := by
  unfold uF
  rw [List.take_succ_eq_append_getElem hlt, List.any_append, ← hs]
  simp only [List.any_cons, List.any_nil, Bool.or_false]
  by_cases h : c = x
  · rw [if_pos h, show ((s : Int) % 26 == (c : Int)) = true from beq_iff_eq.mpr (by omega), Bool.or_true]
  · rw [if_neg h, show ((s : Int) % 26 == (c : Int)) = false from beq_eq_false_iff_ne.mpr (by omega), Bool.or_false]
theorem set_low (l : List Int) {u1 : Nat → Bool} {i s x : Nat} (hlt : i < l.length) (hs : (s : Int) = l[i]) (hx : x = s % 26) : (inA (uF (l.take i)) u1).setIfInBounds x (.bool true) = inA (uF (l.take (i + 1))) u1 := by
  refine inA_ext (by omega) (fun j hj => ?_)
  by_cases h : j < 26
  · rw [if_pos h, if_pos h, uF_snoc hlt hs hx j h]
  · rw [if_neg h, if_neg h, if_neg (by omega)]
theorem set_high (a l : List Int) {i s x : Nat} (hlt : i < l.length) (hs : (s : Int) = l[i]) (hx : x = s % 26) : (inA (uF a) (uF (l.take i))).setIfInBounds (26 + x) (.bool true) = inA (uF a) (uF (l.take (i + 1))) := by
  refine inA_ext (by omega) (fun j hj => ?_)
  by_cases h : j < 26
  · rw [if_pos h, if_pos h, if_neg (by omega)]
  · rw [if_neg h, if_neg h, uF_snoc hlt hs hx (j - 26) (by omega)]
    by_cases h2 : j = 26 + x
    · rw [if_pos h2, if_pos (by omega)]
    · rw [if_neg h2, if_neg (by omega)]
theorem u0_nil : uF ([].take 0) = fun _ => false := by funext c; rfl
set_option maxRecDepth 100000 in
theorem infoB : (Try.prog.info? 50).map (fun i => i.zero) = some (some (.agg (inA (fun _ => false) (fun _ => false)))) := by kernel_rfl
theorem zeroB (W : World) : (zeroValue 50).run Try.prog W = .ok (.agg (inA (fun _ => false) (fun _ => false))) W := by
  obtain ⟨i, hi, hz⟩ := Option.map_eq_some_iff.1 infoB
  simp [zeroValue, typeInfo, hi, hz]
theorem infoR : (Try.prog.info? 51).map (fun i => i.zero) = some (some (.agg #[.slice none 0 0, .slice none 0 0])) := by kernel_rfl
theorem zeroR (W : World) : (zeroValue 51).run Try.prog W = .ok (.agg #[.slice none 0 0, .slice none 0 0]) W := by
  obtain ⟨i, hi, hz⟩ := Option.map_eq_some_iff.1 infoR
  simp [zeroValue, typeInfo, hi, hz]
structure KyS (w w' : World) (gi gr : Nat) (u0 u1 : Nat → Bool) (v0 v1 : Value) (m0 m1 : Nat) : Prop where
  low : Below w.heap.size w w'
  bi : w'.heap[gi]? = some (.cells (inA u0 u1) 50 (0, 0))
  br : w'.heap[gr]? = some (.cells #[v0, v1] 51 (0, 0))
  r0 : Kd.R k39 39 w' w.heap.size (fun k => k ≠ gi ∧ k ≠ gr ∧ some k ≠ v1.ownBlock) v0 (rowK u0 0 m0)
  r1 : Kd.R k39 39 w' w.heap.size (fun k => k ≠ gi ∧ k ≠ gr ∧ some k ≠ v0.ownBlock) v1 (rowK u1 1 m1)
  ge : w.heap.size ≤ gi ∧ w.heap.size ≤ gr
theorem KyS.below {w w' w2 : World} {gi gr : Nat} {u0 u1 : Nat → Bool} {v0 v1 : Value} {m0 m1 : Nat} (h : KyS w w' gi gr u0 u1 v0 v1 m0 m1) (hb : Below w'.heap.size w' w2) : KyS w w2 gi gr u0 u1 v0 v1 m0 m1 :=
  ⟨below_step h.low hb, blk_below h.bi hb, blk_below h.br hb, Kd.R_below h.r0 hb, Kd.R_below h.r1 hb, h.ge⟩
theorem own_small {w W : World} {base : Nat} {ok : Nat → Prop} {v : Value} {xs : List S39} (h : Kd.R k39 39 W base ok v xs) : ∀ k, v.ownBlock = some k → k < W.heap.size := by
  obtain ⟨_, hown⟩ := Kd.R_own h
  exact own_lt hown
/-- The other row, where one has grown. -/
theorem other {W w1 : World} {base : Nat} {gi gr : Nat} {v v' u : Value} {xs : List S39} (h : Kd.R k39 39 W base (fun k => k ≠ gi ∧ k ≠ gr ∧ some k ≠ v.ownBlock) u xs) (hg : W.grownBy w1 v.ownBlock) (hat : v'.ownBlock = v.ownBlock ∨ ∃ b, v'.ownBlock = some b ∧ W.heap.size ≤ b) : Kd.R k39 39 w1 base (fun k => k ≠ gi ∧ k ≠ gr ∧ some k ≠ v'.ownBlock) u xs := by
  have h1 := Kd.R_move (w1 := w1) (Kd.R_bound h) (fun k hk => hg.block k hk.2.2.1 hk.1.2.2)
  refine Kd.R_mono h1 (fun k hk => ⟨hk.1.1, hk.1.2.1, ?_⟩)
  rcases hat with e | ⟨b, e, hb⟩
  · rw [e]; exact hk.1.2.2
  · rw [e]; intro e2; injection e2 with e2; have := hk.2.2.1; omega
theorem rowK_add {u : Nat → Bool} {r m : Nat} (h : u m = true) : rowK u r (m + 1) = rowK u r m ++ [eK m r] := by rw [rowK, if_pos h]
theorem rowK_same {u : Nat → Bool} {r m : Nat} (h : u m = false) : rowK u r (m + 1) = rowK u r m := by rw [rowK, h]; simp
theorem two_ne {w : World} {g g' : Nat} {t t' : TypeId} {cs cs' : Array Value} (h : w.heap[g]? = some (.cells cs t (0, 0))) (h' : w.heap[g']? = some (.cells cs' t' (0, 0))) (hne : t ≠ t') : g ≠ g' := by
  intro e
  rw [e, h'] at h
  injection h with h
  injection h with _ h2 _
  exact hne h2.symm
theorem KyS.app0 {w W w1 : World} {gi gr : Nat} {u0 u1 : Nat → Bool} {v0 v1 : Value} {m0 m1 : Nat} (h : KyS w W gi gr u0 u1 v0 v1 m0 m1) {v : Value} (ho : Kd.R k39 39 w1 w.heap.size (fun k => k ≠ gi ∧ k ≠ gr ∧ some k ≠ v1.ownBlock) v (rowK u0 0 (m0 + 1))) (hb : Below w.heap.size w w1) (hg : W.grownBy w1 v0.ownBlock) (hat : v.ownBlock = v0.ownBlock ∨ ∃ b, v.ownBlock = some b ∧ W.heap.size ≤ b) : KyS w (w1.setCell ⟨gr, 0, none⟩ v) gi gr u0 u1 v v1 (m0 + 1) m1 := by
  have hne : gi ≠ gr := two_ne h.bi h.br (by decide)
  have e0 : some gi ≠ v0.ownBlock := fun e => (h.r0.1 gi e.symm).1 rfl
  have e1 : some gr ≠ v0.ownBlock := fun e => (h.r0.1 gr e.symm).2.1 rfl
  refine ⟨hb.setCell h.ge.2 v, ?_, ?_, Kd.R_far (p := ⟨gr, 0, none⟩) ho (fun k hk => hk.2.1) v, Kd.R_far (p := ⟨gr, 0, none⟩) (other h.r1 hg hat) (fun k hk => hk.2.1) v, h.ge⟩
  · rw [Below.heap_setCell w1 ⟨gr, 0, none⟩ v gi hne]; exact blk_grown h.bi hg e0
  · exact blk_put (cs := #[v0, v1]) (blk_grown h.br hg e1) 0 v rfl
theorem KyS.app1 {w W w1 : World} {gi gr : Nat} {u0 u1 : Nat → Bool} {v0 v1 : Value} {m0 m1 : Nat} (h : KyS w W gi gr u0 u1 v0 v1 m0 m1) {v : Value} (ho : Kd.R k39 39 w1 w.heap.size (fun k => k ≠ gi ∧ k ≠ gr ∧ some k ≠ v0.ownBlock) v (rowK u1 1 (m1 + 1))) (hb : Below w.heap.size w w1) (hg : W.grownBy w1 v1.ownBlock) (hat : v.ownBlock = v1.ownBlock ∨ ∃ b, v.ownBlock = some b ∧ W.heap.size ≤ b) : KyS w (w1.setCell ⟨gr, 1, none⟩ v) gi gr u0 u1 v0 v m0 (m1 + 1) := by
  have hne : gi ≠ gr := two_ne h.bi h.br (by decide)
  have e0 : some gi ≠ v1.ownBlock := fun e => (h.r1.1 gi e.symm).1 rfl
  have e1 : some gr ≠ v1.ownBlock := fun e => (h.r1.1 gr e.symm).2.1 rfl
  refine ⟨hb.setCell h.ge.2 v, ?_, ?_, Kd.R_far (p := ⟨gr, 1, none⟩) (other h.r0 hg hat) (fun k hk => hk.2.1) v, Kd.R_far (p := ⟨gr, 1, none⟩) ho (fun k hk => hk.2.1) v, h.ge⟩
  · rw [Below.heap_setCell w1 ⟨gr, 1, none⟩ v gi hne]; exact blk_grown h.bi hg e0
  · exact blk_put (cs := #[v0, v1]) (blk_grown h.br hg e1) 1 v rfl
theorem KyS.same0 {w W : World} {gi gr : Nat} {u0 u1 : Nat → Bool} {v0 v1 : Value} {m0 m1 : Nat} (h : KyS w W gi gr u0 u1 v0 v1 m0 m1) (hu : u0 m0 = false) : KyS w W gi gr u0 u1 v0 v1 (m0 + 1) m1 := ⟨h.low, h.bi, h.br, by rw [rowK_same hu]; exact h.r0, h.r1, h.ge⟩
theorem KyS.same1 {w W : World} {gi gr : Nat} {u0 u1 : Nat → Bool} {v0 v1 : Value} {m0 m1 : Nat} (h : KyS w W gi gr u0 u1 v0 v1 m0 m1) (hu : u1 m1 = false) : KyS w W gi gr u0 u1 v0 v1 m0 (m1 + 1) := ⟨h.low, h.bi, h.br, h.r0, by rw [rowK_same hu]; exact h.r1, h.ge⟩
theorem KyS.fresh0 {w W : World} {gi gr : Nat} {u0 u1 : Nat → Bool} {v0 v1 : Value} {m0 m1 : Nat} (h : KyS w W gi gr u0 u1 v0 v1 m0 m1) : ∀ k, W.heap.size ≤ k → k ≠ gi ∧ k ≠ gr ∧ some k ≠ v1.ownBlock := fun k hk =>
  ⟨fun e => by have := blk_lt h.bi; omega, fun e => by have := blk_lt h.br; omega, fun e => by have := own_small (w := w) h.r1 k e.symm; omega⟩
theorem KyS.fresh1 {w W : World} {gi gr : Nat} {u0 u1 : Nat → Bool} {v0 v1 : Value} {m0 m1 : Nat} (h : KyS w W gi gr u0 u1 v0 v1 m0 m1) : ∀ k, W.heap.size ≤ k → k ≠ gi ∧ k ≠ gr ∧ some k ≠ v0.ownBlock := fun k hk =>
  ⟨fun e => by have := blk_lt h.bi; omega, fun e => by have := blk_lt h.br; omega, fun e => by have := own_small (w := w) h.r0 k e.symm; omega⟩
theorem size_1 (w : World) (o : Obj) : (w.alloc o).drew.heap.size = w.heap.size + 1 := by
  exact Array.size_push _
theorem cK_str (c : Nat) (hc : c < 26) : strOfNums [((97 + c : Nat) : Int)] = S [UInt8.ofNat (97 + c)] := by
  have h := strOf [UInt8.ofNat (97 + c)]
  have e0 : (UInt8.ofNat (97 + c)).toNat = 97 + c := by simp; omega
  simp only [List.map_cons, List.map_nil, e0] at h
  exact h
theorem cK_conv (w : World) (g b0 c : Nat) (hb : w.heap[g]? = some (.cells #[.int .u8 (b0 : Int)] 5 (0, 0))) (hc : c < 26) (h0 : b0 = 97 + c) : (convert 45 9 (.slice (some ⟨g, 0, none⟩) 1 1)).run Try.prog w = .ok (.string (S [UInt8.ofNat (97 + c)])) w := by
  subst h0
  rw [← cK_str c hc]
  refine run_convert_bytes_arg _ 45 5 Try.underlying45 Try.underlying5 g 0 1 1 _ rfl (fun i hi => ?_) 9 Try.underlying9
  have hcl := blk_cell hb i
  rcases i with _ | i
  · exact hcl
  · omega
theorem u8w' {n : Int} (h : 0 ≤ n ∧ n < 256) : IntKind.u8.wrap n = n := by
  unfold IntKind.wrap
  simp only [IntKind.bits, IntKind.signed]
  simp
  omega
def U8s (l : List Int) : Prop := ∀ y ∈ l, 0 ≤ y ∧ y ≤ 255
theorem KRows (K : Nat) (Ao : Option Addr) (co : Nat) (R0 R1 M : List S39) (n : Nat) (w : World) (hr : Kd.C (Kd.slice 39 k39) w Ao ([R0, R1] : List (List S39)).length [R0, R1]) (hc : ([R0, R1] : List (List S39)).length ≤ co) (h : merge_Rows.f K [R0, R1] = some (M, 0)) (hn : M.length = n) :
    Calls Try.prog 11 #[.slice Ao 2 co] w fun e w' => ∃ (A : Option Addr) (c : Nat), e = .returned (.tuple #[.slice A n c, .int .i64 0]) ∧ Kd.C k39 w' A M.length M ∧ M.length ≤ c ∧ Below w.heap.size w w' := by
  refine (merge_Rows.calls K Ao co [R0, R1] M 0 w hr hc h).mono ?_
  rintro e w' ⟨v, rfl, ho, hb⟩
  obtain ⟨A, c, rfl, h1, h2⟩ := Kd.R_reads ho
  exact ⟨A, c, by rw [hn], h2, h1, hb⟩
theorem KVis (K : Nat) (A : Option Addr) (c : Nat) (M V : List S39) (seq : Int) (n s : Nat) (w : World) (hr : Kd.C k39 w A M.length M) (hc : M.length ≤ c) (h : merge_Visible.f K M seq = some V) (hn : M.length = n) (hs : V.length = s) :
    Calls Try.prog 14 #[.slice A n c, .int .i64 seq] w fun e w' => ∃ (A' : Option Addr) (c' : Nat), e = .returned (.slice A' s c') ∧ Below w.heap.size w w' := by
  subst hn hs
  refine (merge_Visible.calls K A c M seq V w hr hc h).mono ?_
  rintro e w' ⟨v, rfl, ho, hb⟩
  obtain ⟨A', c', rfl, _, _⟩ := Kd.R_reads ho
  exact ⟨A', c', rfl, hb⟩
set_option maxHeartbeats 4000000 in
set_option maxRecDepth 100000 in
theorem LKeys (w : World) (A0 : Option Addr) (c0 : Nat) (a : List Int) (A1 : Option Addr) (c1 : Nat) (b : List Int) (seq : Int) (hr0 : (Kd.int .u8).C w A0 a.length a) (hc0 : a.length ≤ c0) (hr1 : (Kd.int .u8).C w A1 b.length b) (hc1 : b.length ≤ c1) (hu0 : U8s a) (hu1 : U8s b) (hq : 0 ≤ seq ∧ seq ≤ 255) :
    Calls Try.prog 7 #[.slice A0 a.length c0, .slice A1 b.length c1, .int .u8 seq] w fun e w' => e = .returned (.bool true) ∧ Below w.heap.size w w' := by
  obtain ⟨K, hK⟩ := known11
  have HKn := Aside0.mk (hK K (Nat.le_refl _))
  have HR0 := Aside0.mk hr0
  have HR1 := Aside0.mk hr1
  have HU0 := Aside0.mk hu0
  have HU1 := Aside0.mk hu1
  have HSq := Aside0.mk hq
  have HB := Aside0.mk (Below.refl w.heap.size w)
  clear hK hr0 hc0 hr1 hc1 hu0 hu1 hq
  go_enter Try.func7, Try.ntmps7
  go_upto_region 3 with (go_at_call 8; refine (ravelinlaw11_known.calls K true _ HKn.out rfl).mono ?_; rintro e w1 ⟨rfl, hb⟩; have n0_ := Aside0.mk (below_step HB.out hb); clear HB hb; have HB := n0_; clear n0_)
  by_cases h30 : a.length > 30
  · have b1 : decide (30 < (a.length : Int)) = true := decide_eq_true (by omega)
    have b2 : decide (30 < a.length) = true := decide_eq_true (by omega)
    clear h30
    go_wp2
    go_ret
    exact ⟨rfl, HB.out⟩
  have b1 : decide (30 < (a.length : Int)) = false := decide_eq_false (by omega)
  have b2 : decide (30 < a.length) = false := decide_eq_false (by omega)
  have HL0 := Aside0.mk (show a.length ≤ 30 by omega)
  clear h30
  by_cases h31 : b.length > 30
  · have b3 : decide (30 < (b.length : Int)) = true := decide_eq_true (by omega)
    have b4 : decide (30 < b.length) = true := decide_eq_true (by omega)
    clear h31
    go_wp2
    go_ret
    exact ⟨rfl, HB.out⟩
  have b3 : decide (30 < (b.length : Int)) = false := decide_eq_false (by omega)
  have b4 : decide (30 < b.length) = false := decide_eq_false (by omega)
  have HL1 := Aside0.mk (show b.length ≤ 30 by omega)
  clear h31
  go_upto_region 5 with (fail)
  clear b1 b2 b3 b4
  rename_i wS
  have hz := zeroB w1
  go_upto_region 6 with (fail)
  clear hz
  obtain ⟨gi, hgi⟩ : ∃ gi, gi = w1.heap.size := ⟨_, rfl⟩
  have HGi := Aside0.mk (show w.heap.size ≤ gi by rw [hgi]; exact HB.out.size)
  have H1 := Aside0.mk (below_alloc HB.out (.cells (inA (fun _ => false) (fun _ => false)) 50))
  have BI := Aside0.mk (show (w1.alloc (.cells (inA (fun _ => false) (fun _ => false)) 50)).heap[gi]? = some (.cells (inA (uF (a.take 0)) (fun _ => false)) 50 (0, 0)) by rw [hgi]; exact blk_new w1 _)
  clear HB
  rw [← hgi]
  generalize w1.alloc (.cells (inA (fun _ => false) (fun _ => false)) 50) = w4 at H1 BI ⊢
  clear hgi
  have HB := H1
  clear H1
  go_wp2
  go_loopg [8] a.length (fun kq v8 w' => ∃ (i : Nat), v8 = .int .i64 (i : Int) ∧ Aside0 (kq + i = a.length) ∧ Aside0 (Below w.heap.size w w') ∧ Aside0 (w'.heap[gi]? = some (.cells (inA (uF (a.take i)) (fun _ => false)) 50 (0, 0))))
  case atStart => exact ⟨0, rfl, ⟨by omega⟩, HB, BI⟩
  clear HB BI
  obtain ⟨i, rfl, HQ, HB, BI⟩ := hrel
  by_cases hlt : i < a.length
  · obtain ⟨k1, rfl⟩ : ∃ k1, gk = k1 + 1 := ⟨gk - 1, by have := HQ.out; omega⟩
    have hd0 : decide (i < a.length) = true := decide_eq_true hlt
    have hd1 : decide ((i : Int) < (a.length : Int)) = true := decide_eq_true (by omega)
    have p0 : 0 ≤ (i : Int) := by omega
    have q0 : (i : Int) < (a.length : Int) := by omega
    obtain ⟨ad, e_, hs0⟩ := Kd.at_int HR0.out (i : Int) p0 q0
    cases e_
    have hy := HU0.out (a[i]) (List.getElem_mem hlt)
    obtain ⟨s, hs⟩ : ∃ s : Nat, (s : Int) = a[i] := ⟨(a[i]).toNat, by omega⟩
    have erd : rd a (i : Int) = (s : Int) := by rw [hs]; simp [rd, List.getD_eq_getElem?_getD, hlt]
    rw [Int.toNat_natCast, erd] at hs0
    obtain ⟨x, hx⟩ : ∃ x : Nat, x = s % 26 := ⟨_, rfl⟩
    have T1 := Aside0.mk (show (inA (uF (a.take i)) (fun _ => false)).setIfInBounds x (.bool true) = inA (uF (a.take (i + 1))) (fun _ => false) from set_low a hlt hs hx)
    have hx0 : wr.cell? (ad.add i) = some (.int .u8 (s : Int)) := (HB.out.cell (World.block_lt_of_cell? w _ hs0)).trans hs0
    obtain ⟨bo, hcx⟩ : ∃ bo, wr.cell? ⟨gi, x, none⟩ = some (.bool bo) := ⟨_, (blk_cell BI.out _).trans (inA_at _ _ (by omega))⟩
    have hf0 : wr.frozen? ⟨gi, x, none⟩ = false := blk_frozen BI.out _
    have m1 : (s : Int) % 26 = (x : Int) := by omega
    have m2 : (s : Int).tmod 26 = (x : Int) := by rw [hx]; rfl
    have z1 : (x : Int) < 26 := by omega
    have z2 : x < 26 := by omega
    have z3 : 0 ≤ (x : Int) := by omega
    have HGi2 := HGi
    have HB2 := Aside0.mk (HB.out.setCell HGi.out (.bool true) (p := ⟨gi, x, none⟩))
    have BI2 := Aside0.mk (show (wr.setCell ⟨gi, x, none⟩ (.bool true)).heap[gi]? = some (.cells (inA (uF (a.take (i + 1))) (fun _ => false)) 50 (0, 0)) by rw [← T1.out]; exact blk_set BI.out _ (.bool true))
    clear hs hy erd hx HB BI
    go_wp2
    clear m1 m2 z1 z2 z3 hx0 hf0 hcx
    go_roundg k1
    case measure => have := HQ.out; omega
    case rel => exact ⟨i + 1, by have h_ := HQ.out; have h2_ := HL0.out; simp; unfold wrap64; omega, ⟨by have := HQ.out; omega⟩, HB2, BI2⟩
  have hd0 : decide (i < a.length) = false := decide_eq_false hlt
  have hd1 : decide ((i : Int) < (a.length : Int)) = false := decide_eq_false (by omega)
  rw [List.take_of_length_le (by omega)] at BI
  clear HQ
  go_wp2
  go_loopg [9] b.length (fun kq v9 w' => ∃ (i : Nat), v9 = .int .i64 (i : Int) ∧ Aside0 (kq + i = b.length) ∧ Aside0 (Below w.heap.size w w') ∧ Aside0 (w'.heap[gi]? = some (.cells (inA (uF a) (uF (b.take i))) 50 (0, 0))))
  case atStart => exact ⟨0, rfl, ⟨by omega⟩, HB, BI⟩
  clear HB BI
  obtain ⟨i, rfl, HQ, HB, BI⟩ := hrel
  by_cases hlt : i < b.length
  · obtain ⟨k1, rfl⟩ : ∃ k1, gk = k1 + 1 := ⟨gk - 1, by have := HQ.out; omega⟩
    have hd0 : decide (i < b.length) = true := decide_eq_true hlt
    have hd1 : decide ((i : Int) < (b.length : Int)) = true := decide_eq_true (by omega)
    have p0 : 0 ≤ (i : Int) := by omega
    have q0 : (i : Int) < (b.length : Int) := by omega
    obtain ⟨ad, e_, hs0⟩ := Kd.at_int HR1.out (i : Int) p0 q0
    cases e_
    have hy := HU1.out (b[i]) (List.getElem_mem hlt)
    obtain ⟨s, hs⟩ : ∃ s : Nat, (s : Int) = b[i] := ⟨(b[i]).toNat, by omega⟩
    have erd : rd b (i : Int) = (s : Int) := by rw [hs]; simp [rd, List.getD_eq_getElem?_getD, hlt]
    rw [Int.toNat_natCast, erd] at hs0
    obtain ⟨x, hx⟩ : ∃ x : Nat, x = s % 26 := ⟨_, rfl⟩
    have T1 := Aside0.mk (show (inA (uF a) (uF (b.take i))).setIfInBounds (26 + x) (.bool true) = inA (uF a) (uF (b.take (i + 1))) from set_high a b hlt hs hx)
    have hx0 : wr.cell? (ad.add i) = some (.int .u8 (s : Int)) := (HB.out.cell (World.block_lt_of_cell? w _ hs0)).trans hs0
    obtain ⟨bo, hcx⟩ : ∃ bo, wr.cell? ⟨gi, (26 + x), none⟩ = some (.bool bo) := ⟨_, (blk_cell BI.out _).trans (inA_at _ _ (by omega))⟩
    have hf0 : wr.frozen? ⟨gi, (26 + x), none⟩ = false := blk_frozen BI.out _
    have m1 : (s : Int) % 26 = (x : Int) := by omega
    have m2 : (s : Int).tmod 26 = (x : Int) := by rw [hx]; rfl
    have z1 : (x : Int) < 26 := by omega
    have z2 : x < 26 := by omega
    have z3 : 0 ≤ (x : Int) := by omega
    have HGi2 := HGi
    have HB2 := Aside0.mk (HB.out.setCell HGi.out (.bool true) (p := ⟨gi, (26 + x), none⟩))
    have BI2 := Aside0.mk (show (wr.setCell ⟨gi, (26 + x), none⟩ (.bool true)).heap[gi]? = some (.cells (inA (uF a) (uF (b.take (i + 1)))) 50 (0, 0)) by rw [← T1.out]; exact blk_set BI.out _ (.bool true))
    clear hs hy erd hx HB BI
    go_wp2
    clear m1 m2 z1 z2 z3 hx0 hf0 hcx
    go_roundg k1
    case measure => have := HQ.out; omega
    case rel => exact ⟨i + 1, by have h_ := HQ.out; have h2_ := HL1.out; simp; unfold wrap64; omega, ⟨by have := HQ.out; omega⟩, HB2, BI2⟩
  have hd0 : decide (i < b.length) = false := decide_eq_false hlt
  have hd1 : decide ((i : Int) < (b.length : Int)) = false := decide_eq_false (by omega)
  rw [List.take_of_length_le (by omega)] at BI
  clear HQ
  obtain ⟨u0, hu0⟩ : ∃ u0, u0 = uF a := ⟨_, rfl⟩
  obtain ⟨u1, hu1⟩ : ∃ u1, u1 = uF b := ⟨_, rfl⟩
  rw [← hu0, ← hu1] at BI
  clear hu0 hu1
  go_upto_region 14 with (fail)
  clear hd0 hd1 hlt
  have hz := zeroR wr
  go_upto_region 15 with (fail)
  clear hz
  obtain ⟨gr, hgr⟩ : ∃ gr, gr = wr.heap.size := ⟨_, rfl⟩
  have H := Aside0.mk (show KyS w (wr.alloc (.cells #[.slice none 0 0, .slice none 0 0] 51)) gi gr u0 u1 (.slice none 0 0) (.slice none 0 0) 0 0 from ⟨below_alloc HB.out _, blk_below BI.out (below_alloc (Below.refl _ _) _), by rw [hgr]; exact blk_new wr _, Kd.R_nil _ _ _ _ _, Kd.R_nil _ _ _ _ _, HGi.out, by rw [hgr]; exact HB.out.size⟩)
  clear HB BI
  rw [← hgr]
  generalize wr.alloc (.cells #[.slice none 0 0, .slice none 0 0] 51) = w5 at H ⊢
  clear hgr
  go_wp2
  go_loopg [11, 12, 13] 26 (fun kq v11 v12 v13 w' => ∃ (c : Nat) (v0 v1 : Value), v13 = .int .i64 (c : Int) ∧ v11 = .int .i64 (((rowK u0 0 c).length + (rowK u1 1 c).length : Nat) : Int) ∧ v12 = .int .i64 ((sT u0 u1 seq 0 c : Nat) : Int) ∧ Aside0 (kq + c = 26) ∧ Aside0 (KyS w w' gi gr u0 u1 v0 v1 c c))
  case atStart => exact ⟨0, .slice none 0 0, .slice none 0 0, rfl, rfl, rfl, ⟨by omega⟩, H⟩
  clear H
  obtain ⟨c, v0, v1, rfl, rfl, rfl, HQ, H⟩ := hrel
  by_cases hlt : c < 26
  · obtain ⟨k1, rfl⟩ : ∃ k1, gk = k1 + 1 := ⟨gk - 1, by have := HQ.out; omega⟩
    have hd0 : decide (c < 26) = true := decide_eq_true hlt
    have hd1 : decide ((c : Int) < 26) = true := decide_eq_true (by omega)
    go_wp2
    go_loopg [11, 14] 2 (fun kq v11 v14 w' => ∃ (m0 m1 : Nat) (v0 v1 : Value), ((v14 = .int .i64 0 ∧ kq = 2 ∧ c = m0 ∧ c = m1) ∨ (v14 = .int .i64 1 ∧ kq = 1 ∧ c + 1 = m0 ∧ c = m1) ∨ (v14 = .int .i64 2 ∧ kq = 0 ∧ c + 1 = m0 ∧ c + 1 = m1)) ∧ v11 = .int .i64 (((rowK u0 0 m0).length + (rowK u1 1 m1).length : Nat) : Int) ∧ Aside0 (KyS w w' gi gr u0 u1 v0 v1 m0 m1))
    case atStart => exact ⟨c, c, v0, v1, .inl ⟨rfl, rfl, rfl, rfl⟩, rfl, H⟩
    clear H
    obtain ⟨m0, m1, v0, v1, hcase, rfl, H⟩ := hrel
    rcases hcase with ⟨rfl, rfl, rfl, rfl⟩ | ⟨rfl, rfl, rfl, rfl⟩ | ⟨rfl, rfl, rfl, rfl⟩
    · have hcl : wr.cell? ⟨gi, c, none⟩ = some (.bool (u0 c)) := (blk_cell H.out.bi _).trans ((inA_at _ _ (by omega)).trans (by rw [if_pos hlt]))
      have z1 : (c : Int) < 26 := by omega
      have z3 : 0 ≤ (c : Int) := by omega
      cases hu : u0 c with
      | false =>
        rw [hu] at hcl
        go_wp2
        go_roundg 1
        case measure => omega
        case rel => exact ⟨c + 1, c, v0, v1, .inr (.inl ⟨by first | rfl | simp, rfl, rfl, rfl⟩), by rw [rowK_same hu], ⟨H.out.same0 hu⟩⟩
      | true =>
        rw [hu] at hcl
        obtain ⟨b0, hb0⟩ : ∃ b0 : Nat, b0 = 97 + c := ⟨_, rfl⟩
        have hcr : wr.cell? ⟨gr, 0, none⟩ = some v0 := (blk_cell H.out.br 0).trans rfl
        have s1 : wrap64 (97 + (c : Int)) = (b0 : Int) := by rw [w64 (by omega)]; omega
        have s2 : IntKind.u8.wrap (b0 : Int) = (b0 : Int) := u8w' (by clear s1; omega)
        obtain ⟨cv, hcv1⟩ : ∃ cv : Int, cv = (c : Int) + 1 := ⟨_, rfl⟩
        obtain ⟨sv, hsv⟩ : ∃ sv : Int, sv = (c : Int) + 1 + 100 * ((0 : Nat) : Int) := ⟨_, rfl⟩
        obtain ⟨kc, hkc⟩ : ∃ kc : ByteArray, kc = S [UInt8.ofNat (97 + c)] := ⟨_, rfl⟩
        have s3 : wrap64 ((c : Int) + 1) = cv := by rw [hcv1]; exact w64 (by clear s1 s2; omega)
        have s4 : wrap64 (cv) = sv := by rw [hcv1, hsv]; exact w64 (by clear s1 s2 s3; omega)
        have s5 : wrap64 (b0 : Int) = (b0 : Int) := w64 (by clear s1 s2 s3 s4; omega)
        have s6 : wrap64 (100 : Int) = 100 := w64 ⟨by decide, by decide⟩
        have s7 : wrap64 (0 : Int) = 0 := w64 ⟨by decide, by decide⟩
        have HE := Aside0.mk (show (⟨kc, sv, false, ⟨#[]⟩⟩ : S39) = eK c 0 by rw [hkc, hsv]; rfl)
        have HD := Aside0.mk (H.out.below (below_drew1 (below_alloc (Below.refl _ wr) (.cells #[.int .u8 (b0 : Int)] 5))))
        have hcv := cK_conv (wr.alloc (.cells #[.int .u8 (b0 : Int)] 5)).drew wr.heap.size b0 c (blk_drew (blk_new wr _)) hlt hb0
        rw [← hkc] at hcv
        clear hb0 hcv1 hsv hkc
        go_upto_region 23 with (fail)
        refine start_ (n := 19) (S := fun w' => w'.cell? ⟨gr, 0, none⟩ = some v0) (ds := [18]) #[false, false, false, false, false, false, false, false, false, false, false, false, false, false, false, false, false, false, false] (by kernel_rfl) rfl rfl (hcr) (fun hHeld => ?_)
        refine pure_ (i := 0) (N := some 66) (v := ?_) (a' := ?_) #[true, false, false, false, false, false, false, false, false, false, false, false, false, false, false, false, false, false, false] rfl rfl (by kernel_rfl) (fun _ _ _ h => h) (Or.inl ⟨by rfl, ?_⟩) ?_ ?_
        rotate_left
        · intro w'
          go_simp
          with_reducible rfl
        rotate_left
        · simp only [Act.put, List.setIfInBounds_toArray, List.set_cons_zero, List.set_cons_succ, i64_w, i32_w]
          rfl
        refine pure_ (i := 1) (N := some 67) (v := ?_) (a' := ?_) #[true, true, false, false, false, false, false, false, false, false, false, false, false, false, false, false, false, false, false] rfl rfl (by kernel_rfl) (fun _ _ _ h => h) (Or.inl ⟨by rfl, ?_⟩) ?_ ?_
        rotate_left
        · intro w'
          go_simp
          with_reducible rfl
        rotate_left
        · simp only [Act.put, List.setIfInBounds_toArray, List.set_cons_zero, List.set_cons_succ, i64_w, i32_w]
          rfl
        refine pure_ (i := 2) (N := some 68) (v := ?_) (a' := ?_) #[true, true, true, false, false, false, false, false, false, false, false, false, false, false, false, false, false, false, false] rfl rfl (by kernel_rfl) (fun _ _ _ h => h) (Or.inl ⟨by rfl, ?_⟩) ?_ ?_
        rotate_left
        · intro w'
          go_simp
          with_reducible rfl
        rotate_left
        · simp only [Act.put, List.setIfInBounds_toArray, List.set_cons_zero, List.set_cons_succ, i64_w, i32_w]
          rfl
        refine pure_ (i := 4) (N := some 70) (v := ?_) (a' := ?_) #[true, true, true, false, true, false, false, false, false, false, false, false, false, false, false, false, false, false, false] rfl rfl (by kernel_rfl) (fun _ _ _ h => h) (Or.inl ⟨by rfl, ?_⟩) ?_ ?_
        rotate_left
        · intro w'
          go_simp
          with_reducible rfl
        rotate_left
        · simp only [Act.put, List.setIfInBounds_toArray, List.set_cons_zero, List.set_cons_succ, i64_w, i32_w]
          rfl
        refine pure_ (i := 5) (N := some 71) (v := ?_) (a' := ?_) #[true, true, true, false, true, true, false, false, false, false, false, false, false, false, false, false, false, false, false] rfl rfl (by kernel_rfl) (fun _ _ _ h => h) (Or.inl ⟨by rfl, ?_⟩) ?_ ?_
        rotate_left
        · intro w'
          go_simp
          with_reducible rfl
        rotate_left
        · simp only [Act.put, List.setIfInBounds_toArray, List.set_cons_zero, List.set_cons_succ, i64_w, i32_w]
          rfl
        refine pure_ (i := 6) (N := some 72) (v := ?_) (a' := ?_) #[true, true, true, false, true, true, true, false, false, false, false, false, false, false, false, false, false, false, false] rfl rfl (by kernel_rfl) (fun _ _ _ h => h) (Or.inl ⟨by rfl, ?_⟩) ?_ ?_
        rotate_left
        · intro w'
          go_simp
          with_reducible rfl
        rotate_left
        · simp only [Act.put, List.setIfInBounds_toArray, List.set_cons_zero, List.set_cons_succ, i64_w, i32_w]
          rfl
        refine pure_ (i := 9) (N := some 75) (v := ?_) (a' := ?_) #[true, true, true, false, true, true, true, false, false, true, false, false, false, false, false, false, false, false, false] rfl rfl (by kernel_rfl) (fun _ _ _ h => h) (Or.inl ⟨by rfl, ?_⟩) ?_ ?_
        rotate_left
        · intro w'
          go_simp
          with_reducible rfl
        rotate_left
        · simp only [Act.put, List.setIfInBounds_toArray, List.set_cons_zero, List.set_cons_succ, i64_w, i32_w]
          rfl
        refine pure_ (i := 10) (N := some 76) (v := ?_) (a' := ?_) #[true, true, true, false, true, true, true, false, false, true, true, false, false, false, false, false, false, false, false] rfl rfl (by kernel_rfl) (fun _ _ _ h => h) (Or.inl ⟨by rfl, ?_⟩) ?_ ?_
        rotate_left
        · intro w'
          go_simp
          with_reducible rfl
        rotate_left
        · simp only [Act.put, List.setIfInBounds_toArray, List.set_cons_zero, List.set_cons_succ, i64_w, i32_w]
          rfl
        refine pure_ (i := 11) (N := some 77) (v := ?_) (a' := ?_) #[true, true, true, false, true, true, true, false, false, true, true, true, false, false, false, false, false, false, false] rfl rfl (by kernel_rfl) (fun _ _ _ h => h) (Or.inl ⟨by rfl, ?_⟩) ?_ ?_
        rotate_left
        · intro w'
          go_simp
          with_reducible rfl
        rotate_left
        · simp only [Act.put, List.setIfInBounds_toArray, List.set_cons_zero, List.set_cons_succ, i64_w, i32_w]
          rfl
        refine pure_ (i := 12) (N := some 78) (v := ?_) (a' := ?_) #[true, true, true, false, true, true, true, false, false, true, true, true, true, false, false, false, false, false, false] rfl rfl (by kernel_rfl) (fun _ _ _ h => h) (Or.inl ⟨by rfl, ?_⟩) ?_ ?_
        rotate_left
        · intro w'
          go_simp
          with_reducible rfl
        rotate_left
        · simp only [Act.put, List.setIfInBounds_toArray, List.set_cons_zero, List.set_cons_succ, i64_w, i32_w]
          rfl
        refine pure_ (i := 13) (N := some 79) (v := ?_) (a' := ?_) #[true, true, true, false, true, true, true, false, false, true, true, true, true, true, false, false, false, false, false] rfl rfl (by kernel_rfl) (fun _ _ _ h => h) (Or.inl ⟨by rfl, ?_⟩) ?_ ?_
        rotate_left
        · intro w'
          go_simp
          with_reducible rfl
        rotate_left
        · simp only [Act.put, List.setIfInBounds_toArray, List.set_cons_zero, List.set_cons_succ, i64_w, i32_w]
          rfl
        refine take_ (i := 3) (N := some 69) (v := ?_) (a' := ?_) #[true, true, true, true, true, true, true, false, false, true, true, true, true, true, false, false, false, false, false] rfl rfl (by kernel_rfl) (fun _ _ _ h => h) (Or.inl ⟨by rfl, ?_⟩) hHeld ?_ ?_
        rotate_left
        · intro w' s0
          go_simp
          with_reducible rfl
        rotate_left
        · simp only [Act.put, List.setIfInBounds_toArray, List.set_cons_zero, List.set_cons_succ, i64_w, i32_w]
          rfl
        refine one_ (i := 7) (N := some 73) #[true, true, true, true, true, true, true, true, false, true, true, true, true, true, false, false, false, false, false] rfl rfl (by kernel_rfl) (by decide) (fun K hK => ?_)
        refine value_ (w1 := ?_) (v := ?_) (by rfl) rfl ?_ ?_
        rotate_left 2
        · go_simp
          constructor
          · rfl
          · rfl
        refine hK.out _ _ ((pw_cell_below (below_drew1 (below_alloc (Below.refl _ wr) (.cells #[.int .u8 (b0 : Int)] 5))) hcr)) (fun hHeld => ?_)
        clear hK K
        refine norm_ (a' := ?_) ?_ ?_
        rotate_left
        · show Act.put _ (some 73) _ = _
          simp only [Act.put, List.setIfInBounds_toArray, List.set_cons_zero, List.set_cons_succ, i64_w, i32_w]
          rfl
        refine one_ (i := 8) (N := some 74) #[true, true, true, true, true, true, true, true, true, true, true, true, true, true, false, false, false, false, false] rfl rfl (by kernel_rfl) (by decide) (fun K hK => ?_)
        refine value_ (w1 := ?_) (v := ?_) (by rfl) rfl ?_ ?_
        rotate_left 2
        · go_simp
          constructor
          · rfl
          · rfl
        refine hK.out _ _ ((pw_cell_below (below_drew1 (below_alloc (Below.refl _ wr) (.cells #[.int .u8 (b0 : Int)] 5))) hcr)) (fun hHeld => ?_)
        clear hK K
        refine norm_ (a' := ?_) ?_ ?_
        rotate_left
        · show Act.put _ (some 74) _ = _
          simp only [Act.put, List.setIfInBounds_toArray, List.set_cons_zero, List.set_cons_succ, i64_w, i32_w]
          rfl
        refine pure_ (i := 14) (N := some 80) (v := ?_) (a' := ?_) #[true, true, true, true, true, true, true, true, true, true, true, true, true, true, true, false, false, false, false] rfl rfl (by kernel_rfl) (fun _ _ _ h => h) (Or.inl ⟨by rfl, ?_⟩) ?_ ?_
        rotate_left
        · intro w'
          go_simp
          with_reducible rfl
        rotate_left
        · simp only [Act.put, List.setIfInBounds_toArray, List.set_cons_zero, List.set_cons_succ, i64_w, i32_w]
          rfl
        refine one_ (i := 15) (N := some 81) #[true, true, true, true, true, true, true, true, true, true, true, true, true, true, true, true, false, false, false] rfl rfl (by kernel_rfl) (by decide) (fun K hK => ?_)
        refine value_ (w1 := ?_) (v := ?_) (by rfl) rfl ?_ ?_
        rotate_left 2
        · go_simp
          constructor
          · rfl
          · rfl
        refine hK.out _ _ ((pw_cell_below (below_drew1 (below_alloc (below_alloc (Below.refl _ wr) (.cells #[.int .u8 (b0 : Int)] 5)) (.cells (List.toArray [.string (kc), .int .i64 (sv), .bool false, .string ⟨#[]⟩]) 39))) hcr)) (fun hHeld => ?_)
        clear hK K
        refine norm_ (a' := ?_) ?_ ?_
        rotate_left
        · show Act.put _ (some 81) _ = _
          simp only [Act.put, List.setIfInBounds_toArray, List.set_cons_zero, List.set_cons_succ, i64_w, i32_w]
          rfl
        refine one_ (i := 16) (N := some 82) #[true, true, true, true, true, true, true, true, true, true, true, true, true, true, true, true, true, false, false] rfl rfl (by kernel_rfl) (by decide) (fun K hK => ?_)
        refine Kd.R_append_step k39 (w0 := w) (W := (wr.alloc (.cells #[.int .u8 (b0 : Int)] 5)).drew) w.heap.size (by rfl) (.tmp 69) (.tmp 81) 23 39 (.agg #[(.string ⟨#[]⟩), (.int .i64 0), (.bool false), (.string ⟨#[]⟩)]) 48 rfl Try.underlying23 info39 rfl (by decide) (by omega) v0 (rowK u0 0 c) (⟨kc, sv, false, ⟨#[]⟩⟩ : S39) [.string (kc), .int .i64 (sv), .bool false, .string ⟨#[]⟩] (fun k => k ≠ gi ∧ k ≠ gr ∧ some k ≠ v1.ownBlock) (fun _ => False) rfl (by rw [size_1]; rfl) (k39_mkM _ _ _ _) (fun _ h => h.elim) HD.out.fresh0 HD.out.r0 HD.out.low HD.out.low.size (by have h1 := rowK_len u0 0 c; have h2 := hlt; clear s1 s2 s3 s4 s5 s6 s7; omega) ?_
        intro v7 w7 ho hb hg hat
        obtain ⟨A7, c7, rfl⟩ := Kd.R_slice ho
        have hbr := blk_grown HD.out.br hg (fun e => (HD.out.r0.1 gr e.symm).2.1 rfl)
        have hf7 : w7.frozen? ⟨gr, 0, none⟩ = false := blk_frozen hbr 0
        refine hK.out _ _ (((blk_cell hbr 0).trans rfl)) (fun hHeld => ?_)
        clear hK K
        refine norm_ (a' := ?_) ?_ ?_
        rotate_left
        · show Act.put _ (some 82) _ = _
          simp only [Act.put, List.setIfInBounds_toArray, List.set_cons_zero, List.set_cons_succ, i64_w, i32_w]
          rfl
        refine pure_ (i := 17) (N := some 83) (v := ?_) (a' := ?_) #[true, true, true, true, true, true, true, true, true, true, true, true, true, true, true, true, true, true, false] rfl rfl (by kernel_rfl) (fun _ _ _ h => h) (Or.inl ⟨by rfl, ?_⟩) ?_ ?_
        rotate_left
        · intro w'
          go_simp
          with_reducible rfl
        rotate_left
        · simp only [Act.put, List.setIfInBounds_toArray, List.set_cons_zero, List.set_cons_succ, i64_w, i32_w]
          rfl
        refine last_ (i := 18) (N := none) #[true, true, true, true, true, true, true, true, true, true, true, true, true, true, true, true, true, true, true] rfl rfl (by kernel_rfl) (by decide) (fun K hK => ?_)
        refine skip_ (w1 := ?_) (by rfl) rfl ?_ ?_
        rotate_left
        · go_simp
          rfl
        refine hK.out _ _ ?_
        clear hK K
        refine done_ (by kernel_rfl) ?_

        have hln : (rowK u0 0 c ++ [(⟨kc, sv, false, ⟨#[]⟩⟩ : S39)]).length = (rowK u0 0 c).length + 1 := by rw [List.length_append]; rfl
        rw [hln] at ho hat
        rw [HE.out, ← rowK_add hu] at ho
        have H2 := Aside0.mk (HD.out.app0 ho hb hg hat)
        have HN := Aside0.mk (show wrap64 ((((rowK u0 0 c).length + (rowK u1 1 c).length : Nat) : Int) + 1) = (((rowK u0 0 (c + 1)).length + (rowK u1 1 c).length : Nat) : Int) by
          have h1 := rowK_len u0 0 c
          have h2 := rowK_len u1 1 c
          clear s1 s2 s3 s4 s5 s6 s7
          rw [w64 (by omega), rowK_add hu, List.length_append]
          show _ = (((rowK u0 0 c).length + 1 + (rowK u1 1 c).length : Nat) : Int)
          omega)
        clear s1 s2 s3 s4 s5 s6 s7 hcv hln ho hat hb hg hcr hcl H HD HE hbr hf7
        go_wp2
        go_roundg 1
        case measure => omega
        case rel => exact ⟨c + 1, c, .slice A7 ((rowK u0 0 c).length + 1) c7, v1, .inr (.inl ⟨by first | rfl | simp, rfl, rfl, rfl⟩), by rw [← Int.natCast_add, HN.out], H2⟩
    · have hcl : wr.cell? ⟨gi, (26 + c), none⟩ = some (.bool (u1 c)) := (blk_cell H.out.bi _).trans ((inA_at _ _ (by omega)).trans (by rw [if_neg (by omega), Nat.add_sub_cancel_left]))
      have z1 : (c : Int) < 26 := by omega
      have z3 : 0 ≤ (c : Int) := by omega
      cases hu : u1 c with
      | false =>
        rw [hu] at hcl
        go_wp2
        go_roundg 0
        case measure => omega
        case rel => exact ⟨c + 1, c + 1, v0, v1, .inr (.inr ⟨by first | rfl | simp, rfl, rfl, rfl⟩), by rw [rowK_same hu], ⟨H.out.same1 hu⟩⟩
      | true =>
        rw [hu] at hcl
        obtain ⟨b0, hb0⟩ : ∃ b0 : Nat, b0 = 97 + c := ⟨_, rfl⟩
        have hcr : wr.cell? ⟨gr, 1, none⟩ = some v1 := (blk_cell H.out.br 1).trans rfl
        have s1 : wrap64 (97 + (c : Int)) = (b0 : Int) := by rw [w64 (by omega)]; omega
        have s2 : IntKind.u8.wrap (b0 : Int) = (b0 : Int) := u8w' (by clear s1; omega)
        obtain ⟨cv, hcv1⟩ : ∃ cv : Int, cv = (c : Int) + 1 := ⟨_, rfl⟩
        obtain ⟨sv, hsv⟩ : ∃ sv : Int, sv = (c : Int) + 1 + 100 * ((1 : Nat) : Int) := ⟨_, rfl⟩
        obtain ⟨kc, hkc⟩ : ∃ kc : ByteArray, kc = S [UInt8.ofNat (97 + c)] := ⟨_, rfl⟩
        have s3 : wrap64 ((c : Int) + 1) = cv := by rw [hcv1]; exact w64 (by clear s1 s2; omega)
        have s4 : wrap64 (cv + 100) = sv := by rw [hcv1, hsv]; exact w64 (by clear s1 s2 s3; omega)
        have s5 : wrap64 (b0 : Int) = (b0 : Int) := w64 (by clear s1 s2 s3 s4; omega)
        have s6 : wrap64 (100 : Int) = 100 := w64 ⟨by decide, by decide⟩
        have s7 : wrap64 (0 : Int) = 0 := w64 ⟨by decide, by decide⟩
        have HE := Aside0.mk (show (⟨kc, sv, false, ⟨#[]⟩⟩ : S39) = eK c 1 by rw [hkc, hsv]; rfl)
        have HD := Aside0.mk (H.out.below (below_drew1 (below_alloc (Below.refl _ wr) (.cells #[.int .u8 (b0 : Int)] 5))))
        have hcv := cK_conv (wr.alloc (.cells #[.int .u8 (b0 : Int)] 5)).drew wr.heap.size b0 c (blk_drew (blk_new wr _)) hlt hb0
        rw [← hkc] at hcv
        clear hb0 hcv1 hsv hkc
        go_upto_region 23 with (fail)
        refine start_ (n := 19) (S := fun w' => w'.cell? ⟨gr, 1, none⟩ = some v1) (ds := [18]) #[false, false, false, false, false, false, false, false, false, false, false, false, false, false, false, false, false, false, false] (by kernel_rfl) rfl rfl (hcr) (fun hHeld => ?_)
        refine pure_ (i := 0) (N := some 66) (v := ?_) (a' := ?_) #[true, false, false, false, false, false, false, false, false, false, false, false, false, false, false, false, false, false, false] rfl rfl (by kernel_rfl) (fun _ _ _ h => h) (Or.inl ⟨by rfl, ?_⟩) ?_ ?_
        rotate_left
        · intro w'
          go_simp
          with_reducible rfl
        rotate_left
        · simp only [Act.put, List.setIfInBounds_toArray, List.set_cons_zero, List.set_cons_succ, i64_w, i32_w]
          rfl
        refine pure_ (i := 1) (N := some 67) (v := ?_) (a' := ?_) #[true, true, false, false, false, false, false, false, false, false, false, false, false, false, false, false, false, false, false] rfl rfl (by kernel_rfl) (fun _ _ _ h => h) (Or.inl ⟨by rfl, ?_⟩) ?_ ?_
        rotate_left
        · intro w'
          go_simp
          with_reducible rfl
        rotate_left
        · simp only [Act.put, List.setIfInBounds_toArray, List.set_cons_zero, List.set_cons_succ, i64_w, i32_w]
          rfl
        refine pure_ (i := 2) (N := some 68) (v := ?_) (a' := ?_) #[true, true, true, false, false, false, false, false, false, false, false, false, false, false, false, false, false, false, false] rfl rfl (by kernel_rfl) (fun _ _ _ h => h) (Or.inl ⟨by rfl, ?_⟩) ?_ ?_
        rotate_left
        · intro w'
          go_simp
          with_reducible rfl
        rotate_left
        · simp only [Act.put, List.setIfInBounds_toArray, List.set_cons_zero, List.set_cons_succ, i64_w, i32_w]
          rfl
        refine pure_ (i := 4) (N := some 70) (v := ?_) (a' := ?_) #[true, true, true, false, true, false, false, false, false, false, false, false, false, false, false, false, false, false, false] rfl rfl (by kernel_rfl) (fun _ _ _ h => h) (Or.inl ⟨by rfl, ?_⟩) ?_ ?_
        rotate_left
        · intro w'
          go_simp
          with_reducible rfl
        rotate_left
        · simp only [Act.put, List.setIfInBounds_toArray, List.set_cons_zero, List.set_cons_succ, i64_w, i32_w]
          rfl
        refine pure_ (i := 5) (N := some 71) (v := ?_) (a' := ?_) #[true, true, true, false, true, true, false, false, false, false, false, false, false, false, false, false, false, false, false] rfl rfl (by kernel_rfl) (fun _ _ _ h => h) (Or.inl ⟨by rfl, ?_⟩) ?_ ?_
        rotate_left
        · intro w'
          go_simp
          with_reducible rfl
        rotate_left
        · simp only [Act.put, List.setIfInBounds_toArray, List.set_cons_zero, List.set_cons_succ, i64_w, i32_w]
          rfl
        refine pure_ (i := 6) (N := some 72) (v := ?_) (a' := ?_) #[true, true, true, false, true, true, true, false, false, false, false, false, false, false, false, false, false, false, false] rfl rfl (by kernel_rfl) (fun _ _ _ h => h) (Or.inl ⟨by rfl, ?_⟩) ?_ ?_
        rotate_left
        · intro w'
          go_simp
          with_reducible rfl
        rotate_left
        · simp only [Act.put, List.setIfInBounds_toArray, List.set_cons_zero, List.set_cons_succ, i64_w, i32_w]
          rfl
        refine pure_ (i := 9) (N := some 75) (v := ?_) (a' := ?_) #[true, true, true, false, true, true, true, false, false, true, false, false, false, false, false, false, false, false, false] rfl rfl (by kernel_rfl) (fun _ _ _ h => h) (Or.inl ⟨by rfl, ?_⟩) ?_ ?_
        rotate_left
        · intro w'
          go_simp
          with_reducible rfl
        rotate_left
        · simp only [Act.put, List.setIfInBounds_toArray, List.set_cons_zero, List.set_cons_succ, i64_w, i32_w]
          rfl
        refine pure_ (i := 10) (N := some 76) (v := ?_) (a' := ?_) #[true, true, true, false, true, true, true, false, false, true, true, false, false, false, false, false, false, false, false] rfl rfl (by kernel_rfl) (fun _ _ _ h => h) (Or.inl ⟨by rfl, ?_⟩) ?_ ?_
        rotate_left
        · intro w'
          go_simp
          with_reducible rfl
        rotate_left
        · simp only [Act.put, List.setIfInBounds_toArray, List.set_cons_zero, List.set_cons_succ, i64_w, i32_w]
          rfl
        refine pure_ (i := 11) (N := some 77) (v := ?_) (a' := ?_) #[true, true, true, false, true, true, true, false, false, true, true, true, false, false, false, false, false, false, false] rfl rfl (by kernel_rfl) (fun _ _ _ h => h) (Or.inl ⟨by rfl, ?_⟩) ?_ ?_
        rotate_left
        · intro w'
          go_simp
          with_reducible rfl
        rotate_left
        · simp only [Act.put, List.setIfInBounds_toArray, List.set_cons_zero, List.set_cons_succ, i64_w, i32_w]
          rfl
        refine pure_ (i := 12) (N := some 78) (v := ?_) (a' := ?_) #[true, true, true, false, true, true, true, false, false, true, true, true, true, false, false, false, false, false, false] rfl rfl (by kernel_rfl) (fun _ _ _ h => h) (Or.inl ⟨by rfl, ?_⟩) ?_ ?_
        rotate_left
        · intro w'
          go_simp
          with_reducible rfl
        rotate_left
        · simp only [Act.put, List.setIfInBounds_toArray, List.set_cons_zero, List.set_cons_succ, i64_w, i32_w]
          rfl
        refine pure_ (i := 13) (N := some 79) (v := ?_) (a' := ?_) #[true, true, true, false, true, true, true, false, false, true, true, true, true, true, false, false, false, false, false] rfl rfl (by kernel_rfl) (fun _ _ _ h => h) (Or.inl ⟨by rfl, ?_⟩) ?_ ?_
        rotate_left
        · intro w'
          go_simp
          with_reducible rfl
        rotate_left
        · simp only [Act.put, List.setIfInBounds_toArray, List.set_cons_zero, List.set_cons_succ, i64_w, i32_w]
          rfl
        refine take_ (i := 3) (N := some 69) (v := ?_) (a' := ?_) #[true, true, true, true, true, true, true, false, false, true, true, true, true, true, false, false, false, false, false] rfl rfl (by kernel_rfl) (fun _ _ _ h => h) (Or.inl ⟨by rfl, ?_⟩) hHeld ?_ ?_
        rotate_left
        · intro w' s0
          go_simp
          with_reducible rfl
        rotate_left
        · simp only [Act.put, List.setIfInBounds_toArray, List.set_cons_zero, List.set_cons_succ, i64_w, i32_w]
          rfl
        refine one_ (i := 7) (N := some 73) #[true, true, true, true, true, true, true, true, false, true, true, true, true, true, false, false, false, false, false] rfl rfl (by kernel_rfl) (by decide) (fun K hK => ?_)
        refine value_ (w1 := ?_) (v := ?_) (by rfl) rfl ?_ ?_
        rotate_left 2
        · go_simp
          constructor
          · rfl
          · rfl
        refine hK.out _ _ ((pw_cell_below (below_drew1 (below_alloc (Below.refl _ wr) (.cells #[.int .u8 (b0 : Int)] 5))) hcr)) (fun hHeld => ?_)
        clear hK K
        refine norm_ (a' := ?_) ?_ ?_
        rotate_left
        · show Act.put _ (some 73) _ = _
          simp only [Act.put, List.setIfInBounds_toArray, List.set_cons_zero, List.set_cons_succ, i64_w, i32_w]
          rfl
        refine one_ (i := 8) (N := some 74) #[true, true, true, true, true, true, true, true, true, true, true, true, true, true, false, false, false, false, false] rfl rfl (by kernel_rfl) (by decide) (fun K hK => ?_)
        refine value_ (w1 := ?_) (v := ?_) (by rfl) rfl ?_ ?_
        rotate_left 2
        · go_simp
          constructor
          · rfl
          · rfl
        refine hK.out _ _ ((pw_cell_below (below_drew1 (below_alloc (Below.refl _ wr) (.cells #[.int .u8 (b0 : Int)] 5))) hcr)) (fun hHeld => ?_)
        clear hK K
        refine norm_ (a' := ?_) ?_ ?_
        rotate_left
        · show Act.put _ (some 74) _ = _
          simp only [Act.put, List.setIfInBounds_toArray, List.set_cons_zero, List.set_cons_succ, i64_w, i32_w]
          rfl
        refine pure_ (i := 14) (N := some 80) (v := ?_) (a' := ?_) #[true, true, true, true, true, true, true, true, true, true, true, true, true, true, true, false, false, false, false] rfl rfl (by kernel_rfl) (fun _ _ _ h => h) (Or.inl ⟨by rfl, ?_⟩) ?_ ?_
        rotate_left
        · intro w'
          go_simp
          with_reducible rfl
        rotate_left
        · simp only [Act.put, List.setIfInBounds_toArray, List.set_cons_zero, List.set_cons_succ, i64_w, i32_w]
          rfl
        refine one_ (i := 15) (N := some 81) #[true, true, true, true, true, true, true, true, true, true, true, true, true, true, true, true, false, false, false] rfl rfl (by kernel_rfl) (by decide) (fun K hK => ?_)
        refine value_ (w1 := ?_) (v := ?_) (by rfl) rfl ?_ ?_
        rotate_left 2
        · go_simp
          constructor
          · rfl
          · rfl
        refine hK.out _ _ ((pw_cell_below (below_drew1 (below_alloc (below_alloc (Below.refl _ wr) (.cells #[.int .u8 (b0 : Int)] 5)) (.cells (List.toArray [.string (kc), .int .i64 (sv), .bool false, .string ⟨#[]⟩]) 39))) hcr)) (fun hHeld => ?_)
        clear hK K
        refine norm_ (a' := ?_) ?_ ?_
        rotate_left
        · show Act.put _ (some 81) _ = _
          simp only [Act.put, List.setIfInBounds_toArray, List.set_cons_zero, List.set_cons_succ, i64_w, i32_w]
          rfl
        refine one_ (i := 16) (N := some 82) #[true, true, true, true, true, true, true, true, true, true, true, true, true, true, true, true, true, false, false] rfl rfl (by kernel_rfl) (by decide) (fun K hK => ?_)
        refine Kd.R_append_step k39 (w0 := w) (W := (wr.alloc (.cells #[.int .u8 (b0 : Int)] 5)).drew) w.heap.size (by rfl) (.tmp 69) (.tmp 81) 23 39 (.agg #[(.string ⟨#[]⟩), (.int .i64 0), (.bool false), (.string ⟨#[]⟩)]) 48 rfl Try.underlying23 info39 rfl (by decide) (by omega) v1 (rowK u1 1 c) (⟨kc, sv, false, ⟨#[]⟩⟩ : S39) [.string (kc), .int .i64 (sv), .bool false, .string ⟨#[]⟩] (fun k => k ≠ gi ∧ k ≠ gr ∧ some k ≠ v0.ownBlock) (fun _ => False) rfl (by rw [size_1]; rfl) (k39_mkM _ _ _ _) (fun _ h => h.elim) HD.out.fresh1 HD.out.r1 HD.out.low HD.out.low.size (by have h1 := rowK_len u1 1 c; have h2 := hlt; clear s1 s2 s3 s4 s5 s6 s7; omega) ?_
        intro v7 w7 ho hb hg hat
        obtain ⟨A7, c7, rfl⟩ := Kd.R_slice ho
        have hbr := blk_grown HD.out.br hg (fun e => (HD.out.r1.1 gr e.symm).2.1 rfl)
        have hf7 : w7.frozen? ⟨gr, 1, none⟩ = false := blk_frozen hbr 1
        refine hK.out _ _ (((blk_cell hbr 1).trans rfl)) (fun hHeld => ?_)
        clear hK K
        refine norm_ (a' := ?_) ?_ ?_
        rotate_left
        · show Act.put _ (some 82) _ = _
          simp only [Act.put, List.setIfInBounds_toArray, List.set_cons_zero, List.set_cons_succ, i64_w, i32_w]
          rfl
        refine pure_ (i := 17) (N := some 83) (v := ?_) (a' := ?_) #[true, true, true, true, true, true, true, true, true, true, true, true, true, true, true, true, true, true, false] rfl rfl (by kernel_rfl) (fun _ _ _ h => h) (Or.inl ⟨by rfl, ?_⟩) ?_ ?_
        rotate_left
        · intro w'
          go_simp
          with_reducible rfl
        rotate_left
        · simp only [Act.put, List.setIfInBounds_toArray, List.set_cons_zero, List.set_cons_succ, i64_w, i32_w]
          rfl
        refine last_ (i := 18) (N := none) #[true, true, true, true, true, true, true, true, true, true, true, true, true, true, true, true, true, true, true] rfl rfl (by kernel_rfl) (by decide) (fun K hK => ?_)
        refine skip_ (w1 := ?_) (by rfl) rfl ?_ ?_
        rotate_left
        · go_simp
          rfl
        refine hK.out _ _ ?_
        clear hK K
        refine done_ (by kernel_rfl) ?_

        have hln : (rowK u1 1 c ++ [(⟨kc, sv, false, ⟨#[]⟩⟩ : S39)]).length = (rowK u1 1 c).length + 1 := by rw [List.length_append]; rfl
        rw [hln] at ho hat
        rw [HE.out, ← rowK_add hu] at ho
        have H2 := Aside0.mk (HD.out.app1 ho hb hg hat)
        have HN := Aside0.mk (show wrap64 ((((rowK u0 0 (c + 1)).length + (rowK u1 1 c).length : Nat) : Int) + 1) = (((rowK u0 0 (c + 1)).length + (rowK u1 1 (c + 1)).length : Nat) : Int) by
          have h1 := rowK_len u0 0 (c + 1)
          have h2 := rowK_len u1 1 c
          clear s1 s2 s3 s4 s5 s6 s7
          rw [w64 (by omega), rowK_add hu, List.length_append]
          show _ = (((rowK u0 0 (c + 1)).length + ((rowK u1 1 c).length + 1) : Nat) : Int)
          omega)
        clear s1 s2 s3 s4 s5 s6 s7 hcv hln ho hat hb hg hcr hcl H HD HE hbr hf7
        go_wp2
        go_roundg 0
        case measure => omega
        case rel => exact ⟨c + 1, c + 1, v0, .slice A7 ((rowK u1 1 c).length + 1) c7, .inr (.inr ⟨by first | rfl | simp, rfl, rfl, rfl⟩), by rw [← Int.natCast_add, HN.out], H2⟩
    · have hA : wr.cell? ⟨gi, c, none⟩ = some (.bool (u0 c)) := (blk_cell H.out.bi _).trans ((inA_at _ _ (by omega)).trans (by rw [if_pos hlt]))
      have hB : wr.cell? ⟨gi, 26 + c, none⟩ = some (.bool (u1 c)) := (blk_cell H.out.bi _).trans ((inA_at _ _ (by omega)).trans (by rw [if_neg (by omega), Nat.add_sub_cancel_left]))
      have z1 : (c : Int) < 26 := by omega
      have z3 : 0 ≤ (c : Int) := by omega
      have a2 : wrap64 seq = seq := w64 (by have := HSq.out; omega)
      cases h0 : u0 c with
      | false =>
        rw [h0] at hA
        cases h1 : u1 c with
        | false =>
          rw [h1] at hB
          have HS := Aside0.mk (show sT u0 u1 seq 0 (c + 1) = sT u0 u1 seq 0 c by rw [sT_snoc, Nat.zero_add, show inS u0 u1 seq c = false by unfold inS; simp only [h0, h1, Bool.false_and, Bool.or_false]; first | done | rfl]; first | done | rfl)
          go_wp2
          clear a2 hA hB
          go_roundg k1
          case measure => have := HQ.out; omega
          case rel => exact ⟨c + 1, v0, v1, by first | (simp; done) | (simp; unfold wrap64; omega), rfl, by first | rw [HS.out] | (rw [HS.out]; rfl), ⟨by have := HQ.out; omega⟩, H⟩
        | true =>
          rw [h1] at hB
          by_cases q1 : (c : Int) + 101 ≤ seq
          · have d1 := decide_eq_true q1
            have HS := Aside0.mk (show sT u0 u1 seq 0 (c + 1) = sT u0 u1 seq 0 c + 1 by rw [sT_snoc, Nat.zero_add, show inS u0 u1 seq c = true by unfold inS; simp only [h0, h1, d1]; first | done | rfl]; first | done | rfl)
            have HW := Aside0.mk (show wrap64 (((sT u0 u1 seq 0 c : Nat) : Int) + 1) = ((sT u0 u1 seq 0 (c + 1) : Nat) : Int) by rw [HS.out, w64 (by have := sT_le u0 u1 seq c 0; clear a2; omega)]; clear a2; omega)
            go_wp2
            clear a2 hA hB
            go_roundg k1
            case measure => have := HQ.out; omega
            case rel => exact ⟨c + 1, v0, v1, by first | (simp; done) | (simp; unfold wrap64; omega), rfl, by first | rw [HW.out] | (rw [HS.out]; rfl), ⟨by have := HQ.out; omega⟩, H⟩
          have d1 := decide_eq_false q1
          have HS := Aside0.mk (show sT u0 u1 seq 0 (c + 1) = sT u0 u1 seq 0 c by rw [sT_snoc, Nat.zero_add, show inS u0 u1 seq c = false by unfold inS; simp only [h0, h1, d1]; first | done | rfl]; first | done | rfl)
          go_wp2
          clear a2 hA hB
          go_roundg k1
          case measure => have := HQ.out; omega
          case rel => exact ⟨c + 1, v0, v1, by first | (simp; done) | (simp; unfold wrap64; omega), rfl, by first | rw [HS.out] | (rw [HS.out]; rfl), ⟨by have := HQ.out; omega⟩, H⟩
      | true =>
        rw [h0] at hA
        by_cases q0 : (c : Int) + 1 ≤ seq
        · have d0 := decide_eq_true q0
          have HS := Aside0.mk (show sT u0 u1 seq 0 (c + 1) = sT u0 u1 seq 0 c + 1 by rw [sT_snoc, Nat.zero_add, show inS u0 u1 seq c = true by unfold inS; simp only [h0, d0]; first | done | rfl]; first | done | rfl)
          have HW := Aside0.mk (show wrap64 (((sT u0 u1 seq 0 c : Nat) : Int) + 1) = ((sT u0 u1 seq 0 (c + 1) : Nat) : Int) by rw [HS.out, w64 (by have := sT_le u0 u1 seq c 0; clear a2; omega)]; clear a2; omega)
          go_wp2
          clear a2 hA hB
          go_roundg k1
          case measure => have := HQ.out; omega
          case rel => exact ⟨c + 1, v0, v1, by first | (simp; done) | (simp; unfold wrap64; omega), rfl, by first | rw [HW.out] | (rw [HS.out]; rfl), ⟨by have := HQ.out; omega⟩, H⟩
        have d0 := decide_eq_false q0
        cases h1 : u1 c with
        | false =>
          rw [h1] at hB
          have HS := Aside0.mk (show sT u0 u1 seq 0 (c + 1) = sT u0 u1 seq 0 c by rw [sT_snoc, Nat.zero_add, show inS u0 u1 seq c = false by unfold inS; simp only [h0, d0, h1, Bool.false_and, Bool.or_false]; first | done | rfl]; first | done | rfl)
          go_wp2
          clear a2 hA hB
          go_roundg k1
          case measure => have := HQ.out; omega
          case rel => exact ⟨c + 1, v0, v1, by first | (simp; done) | (simp; unfold wrap64; omega), rfl, by first | rw [HS.out] | (rw [HS.out]; rfl), ⟨by have := HQ.out; omega⟩, H⟩
        | true =>
          rw [h1] at hB
          by_cases q1 : (c : Int) + 101 ≤ seq
          · have d1 := decide_eq_true q1
            have HS := Aside0.mk (show sT u0 u1 seq 0 (c + 1) = sT u0 u1 seq 0 c + 1 by rw [sT_snoc, Nat.zero_add, show inS u0 u1 seq c = true by unfold inS; simp only [h0, d0, h1, d1]; first | done | rfl]; first | done | rfl)
            have HW := Aside0.mk (show wrap64 (((sT u0 u1 seq 0 c : Nat) : Int) + 1) = ((sT u0 u1 seq 0 (c + 1) : Nat) : Int) by rw [HS.out, w64 (by have := sT_le u0 u1 seq c 0; clear a2; omega)]; clear a2; omega)
            go_wp2
            clear a2 hA hB
            go_roundg k1
            case measure => have := HQ.out; omega
            case rel => exact ⟨c + 1, v0, v1, by first | (simp; done) | (simp; unfold wrap64; omega), rfl, by first | rw [HW.out] | (rw [HS.out]; rfl), ⟨by have := HQ.out; omega⟩, H⟩
          have d1 := decide_eq_false q1
          have HS := Aside0.mk (show sT u0 u1 seq 0 (c + 1) = sT u0 u1 seq 0 c by rw [sT_snoc, Nat.zero_add, show inS u0 u1 seq c = false by unfold inS; simp only [h0, d0, h1, d1]; first | done | rfl]; first | done | rfl)
          go_wp2
          clear a2 hA hB
          go_roundg k1
          case measure => have := HQ.out; omega
          case rel => exact ⟨c + 1, v0, v1, by first | (simp; done) | (simp; unfold wrap64; omega), rfl, by first | rw [HS.out] | (rw [HS.out]; rfl), ⟨by have := HQ.out; omega⟩, H⟩
  have hd0 : decide (c < 26) = false := decide_eq_false hlt
  have hd1 : decide ((c : Int) < 26) = false := decide_eq_false (by omega)
  have hc26 : c = 26 := by have := HQ.out; omega
  rw [hc26] at H ⊢
  obtain ⟨R0, hR0⟩ : ∃ R0, R0 = rowK u0 0 26 := ⟨_, rfl⟩
  obtain ⟨R1, hR1⟩ : ∃ R1, R1 = rowK u1 1 26 := ⟨_, rfl⟩
  obtain ⟨M, hM⟩ : ∃ M, M = mT u0 u1 0 26 := ⟨_, rfl⟩
  obtain ⟨n, hn⟩ : ∃ n, n = R0.length + R1.length := ⟨_, rfl⟩
  obtain ⟨sn, hsn⟩ : ∃ sn, sn = sT u0 u1 seq 0 26 := ⟨_, rfl⟩
  have l0 := rowK_len u0 0 26
  have l1 := rowK_len u1 1 26
  have hMn : M.length = n := by rw [hM, mT_len, hn, hR0, hR1]
  have hMs : sortedB M = true := by rw [hM]; exact pw_sorted (mT_pw u0 u1 26 0 (by omega))
  obtain ⟨K1, hK1⟩ := rows_ev [R0, R1] (by simp) (fun r hr => by
    rcases List.mem_cons.1 hr with e | hr
    · rw [e, hR0]; omega
    · rw [List.mem_singleton.1 hr, hR1]; omega) (by simp [hR0, hR1]; omega)
  obtain ⟨K2, hK2⟩ := visible_ev M seq (by rw [hMn, hn, hR0, hR1]; omega)
  have HK1 := Aside0.mk (show merge_Rows.f K1 [R0, R1] = some (M, 0) by
    have h := hK1 K1 (Nat.le_refl _)
    rw [show ([R0, R1].all sortedB) = true by simp [hR0, hR1, rowK_sorted], if_pos rfl, hR0, hR1, merge_keys, ← hM] at h
    rw [hR0, hR1]; exact h)
  have HK2 := Aside0.mk (show merge_Visible.f K2 M seq = some (visL none M seq) by
    have h := hK2 K2 (Nat.le_refl _)
    unfold visS at h
    rw [hMs, if_pos rfl] at h
    exact h)
  have HMn := Aside0.mk hMn
  have HVs := Aside0.mk (show (visL none M seq).length = sn by rw [hM, hsn]; exact vis_keys u0 u1 seq 26 0 (by omega))
  obtain ⟨Aa, ca, ea, hca, _⟩ := Kd.R_reads H.out.r0
  obtain ⟨Ab, cb, eb, hcb, _⟩ := Kd.R_reads H.out.r1
  subst ea eb
  rw [← hR0, ← hR1] at H ⊢
  rw [← hR0] at hca
  rw [← hR1] at hcb
  rw [← hn, ← hsn]
  have hrA : wr.cell? ⟨gr, 0, none⟩ = some (.slice Aa R0.length ca) := by rw [hR0]; exact (blk_cell H.out.br 0).trans (by rw [hR0]; rfl)
  have hrB : wr.cell? ⟨gr, 1, none⟩ = some (.slice Ab R1.length cb) := by rw [hR1]; exact (blk_cell H.out.br 1).trans (by rw [hR1]; rfl)
  have HRa := Aside0.mk (show Kd.R k39 39 wr w.heap.size (fun k => k ≠ gi ∧ k ≠ gr ∧ some k ≠ (Value.slice Ab R1.length cb).ownBlock) (.slice Aa R0.length ca) R0 by have h := H.out.r0; rw [← hR0] at h; exact h)
  have HRb := Aside0.mk (show Kd.R k39 39 wr w.heap.size (fun k => k ≠ gi ∧ k ≠ gr ∧ some k ≠ (Value.slice Aa R0.length ca).ownBlock) (.slice Ab R1.length cb) R1 by have h := H.out.r1; rw [← hR1] at h; exact h)
  have HLow := Aside0.mk H.out.low
  have a2 : wrap64 seq = seq := w64 (by have := HSq.out; clear hK1 hK2; omega)
  clear hK1 hK2 hMs hMn hn hsn hM hR0 hR1 l0 l1 hca hcb HQ H
  go_wp2_with (first
    | ((with_reducible refine gate_dst (N := 117) rfl ?_); go_loud (refine lit_GL _ ?hg (N := 117) ?hd (xs := ([R0, R1] : List (List S39))) (inner := [.slice Aa R0.length ca, .slice Ab R1.length cb]) (ok := fun _ => True) ?hr ?hp trivial (Below.refl _ _) (Nat.le_refl _) (by simp) ?_; (case hd => rfl); (case hg => rfl); (case hr => first | (go_simp; done) | (go_simp; rfl)); (case hp => exact (Reps.one (kGL_of HRa.out) (Reps.one (kGL_of HRb.out) (Reps.none _ _)))); intro vL wL hoL hb hg_ hnew_; obtain ⟨Ao, co, eo⟩ := Kd.S_slice hoL; subst eo; have HO := Aside0.mk hoL; have HG := Aside0.mk hb; have n0_ := Aside0.mk (below_step HLow.out hb); clear HLow hoL hb hg_ hnew_; have HLow := n0_; clear n0_))
    | (go_at_call 11; go_loud (with_reducible refine (KRows K1 Ao co R0 R1 M n _ (kGL_C (Kd.S_reads' HO.out).2.2 HG.out) (Kd.S_reads' HO.out).2.1 HK1.out HMn.out).mono ?_; rintro e w20 ⟨A9, c9, rfl, hC, hcc, hb⟩; have HM9 := Aside0.mk hC; have HC9 := Aside0.mk hcc; have n0_ := Aside0.mk (below_step HLow.out hb); clear HLow HO HG hC hcc hb; have HLow := n0_; clear n0_))
    | (go_at_call 14; go_loud (with_reducible refine (KVis K2 A9 c9 M (visL none M seq) seq n sn _ HM9.out HC9.out HK2.out HMn.out HVs.out).mono ?_; rintro e w21 ⟨A10, c10, rfl, hb⟩; have n0_ := Aside0.mk (below_step HLow.out hb); clear HLow hb; have HLow := n0_; clear n0_)))
  go_ret
  exact ⟨rfl, HLow.out⟩
end Go.Proofs.Ytjcpdbekdimceaa.Q
