import Derived.Test.YtmbedgopceigaaaQStr
import Derived.Test.YtmbedgopceigaaaWWords
namespace Go.Proofs.YtmbedgopceigaaaW.PrintMore
open Go.RowKit Go.Proofs.YtmbedgopceigaaaW.PrintWords Go.Proofs.YtmbedgopceigaaaW.PrintLast
/-! Short words for the printed walks: what a walk's steps ahead of a call leave of a world -/
/-- W is w, some orders drawn, some blocks made. -/
class Gr (w W : World) : Prop where
  out : Below w.heap.size w W
instance gr_refl (w : World) : Gr w w := ⟨Below.refl _ _⟩
instance gr_alloc (w W : World) (o : Obj) [h : Gr w W] : Gr w (W.alloc o) := ⟨below_alloc h.out o⟩
instance gr_drewN (w W : World) (n : Nat) [h : Gr w W] : Gr w (W.drewN n) := ⟨pw_below_drewN h.out n⟩
instance gr_drew (w W : World) [h : Gr w W] : Gr w W.drew := ⟨below_drew1 h.out⟩
theorem gr_below {w wc W : World} [h : Gr wc W] (HB : Below w.heap.size w wc) : Below w.heap.size w W := below_step HB h.out
theorem bs_ {w wc W w' : World} [h : Gr wc W] (HB : Aside0 (Below w.heap.size w wc)) (hb : Below W.heap.size W w') : Aside0 (Below w.heap.size w w') := ⟨below_step (gr_below HB.out) hb⟩
theorem gz_ {w wc W : World} {g : Nat} [h : Gr wc W] (HB : Aside0 (Below w.heap.size w wc)) (hg : g = W.heap.size) : Aside0 (w.heap.size ≤ g) := ⟨hg ▸ below_size (gr_below HB.out)⟩
theorem bb_ {w W w' : World} {g : Nat} {o : Obj} [h : Gr w W] (B : Aside0 (w.heap[g]? = some o)) (hb : Below W.heap.size W w') : Aside0 (w'.heap[g]? = some o) := ⟨blk_below (blk_below B.out h.out) hb⟩
theorem gn_ {w W : World} {g g' : Nat} {o : Obj} [h : Gr w W] (B : Aside0 (w.heap[g]? = some o)) (hg : g' = W.heap.size) : Aside0 (g ≠ g') := ⟨hg ▸ Nat.ne_of_lt (blk_lt (blk_below B.out h.out))⟩
theorem rb_ {α : Type} {d : Kd α} {e : Nat} {w W w' : World} {base : Nat} {ok : Nat → Prop} {v : Value} {xs : List α} [h : Gr w W] (H : Aside0 (d.R e w base ok v xs)) (hb : Below W.heap.size W w') : Aside0 (d.R e w' base ok v xs) := ⟨Kd.R_below (Kd.R_below H.out h.out) hb⟩
/-- .. and cells of the blocks of L set. -/
class Mb (g : Nat) (L : List Nat) : Prop where
  out : g ∈ L
instance mb_head (g : Nat) (L : List Nat) : Mb g (g :: L) := ⟨List.mem_cons_self⟩
instance mb_tail (g h : Nat) (L : List Nat) [m : Mb g L] : Mb g (h :: L) := ⟨List.mem_cons_of_mem _ m.out⟩
class GrL (L : List Nat) (w W : World) : Prop where
  out : ∀ w0 : World, (∀ g, g ∈ L → w0.heap.size ≤ g) → Below w0.heap.size w0 w → Below w0.heap.size w0 W
instance grl_refl (L : List Nat) (w : World) : GrL L w w := ⟨fun _ _ h => h⟩
instance grl_alloc (L : List Nat) (w W : World) (o : Obj) [h : GrL L w W] : GrL L w (W.alloc o) := ⟨fun w0 a b => below_alloc (h.out w0 a b) o⟩
instance grl_drewN (L : List Nat) (w W : World) (n : Nat) [h : GrL L w W] : GrL L w (W.drewN n) := ⟨fun w0 a b => pw_below_drewN (h.out w0 a b) n⟩
instance grl_drew (L : List Nat) (w W : World) [h : GrL L w W] : GrL L w W.drew := ⟨fun w0 a b => below_drew1 (h.out w0 a b)⟩
instance grl_set (L : List Nat) (w W : World) (g j : Nat) (v : Value) [h : GrL L w W] [m : Mb g L] : GrL L w (W.setCell ⟨g, j, none⟩ v) := ⟨fun w0 a b => below_set (h.out w0 a b) (a g m.out)⟩
def AllGe (w : World) : List Nat → Prop
  | [] => True
  | g :: L => Aside0 (w.heap.size ≤ g) ∧ AllGe w L
theorem AllGe.all {w : World} : ∀ {L : List Nat}, AllGe w L → ∀ g, g ∈ L → w.heap.size ≤ g
  | [], _, _, h => by cases h
  | _ :: _, h, g, hg => by
    rcases List.mem_cons.1 hg with rfl | hg
    · exact h.1.out
    · exact AllGe.all h.2 g hg
theorem bl_ (L : List Nat) {w wc W w' : World} [h : GrL L wc W] (HB : Aside0 (Below w.heap.size w wc)) (hL : AllGe w L) (hb : Below W.heap.size W w') : Aside0 (Below w.heap.size w w') := ⟨below_step (h.out w hL.all HB.out) hb⟩
theorem gl_ (L : List Nat) {w wc W : World} {g : Nat} [h : GrL L wc W] (HB : Aside0 (Below w.heap.size w wc)) (hL : AllGe w L) (hg : g = W.heap.size) : Aside0 (w.heap.size ≤ g) := ⟨hg ▸ below_size (h.out w hL.all HB.out)⟩
section
variable {w : World} {g : Nat} {v0 v1 v2 v3 v4 v5 v6 v7 : Value} {vs : List Value} {t : TypeId}
theorem bc0 (B : Aside0 (w.heap[g]? = some (.cells (List.toArray (v0 :: vs)) t (0, 0)))) : w.cell? ⟨g, 0, none⟩ = some v0 := (blk_cell B.out 0).trans rfl
theorem bc1 (B : Aside0 (w.heap[g]? = some (.cells (List.toArray (v0 :: v1 :: vs)) t (0, 0)))) : w.cell? ⟨g, 1, none⟩ = some v1 := (blk_cell B.out 1).trans rfl
theorem bc2 (B : Aside0 (w.heap[g]? = some (.cells (List.toArray (v0 :: v1 :: v2 :: vs)) t (0, 0)))) : w.cell? ⟨g, 2, none⟩ = some v2 := (blk_cell B.out 2).trans rfl
theorem bc3 (B : Aside0 (w.heap[g]? = some (.cells (List.toArray (v0 :: v1 :: v2 :: v3 :: vs)) t (0, 0)))) : w.cell? ⟨g, 3, none⟩ = some v3 := (blk_cell B.out 3).trans rfl
theorem bc4 (B : Aside0 (w.heap[g]? = some (.cells (List.toArray (v0 :: v1 :: v2 :: v3 :: v4 :: vs)) t (0, 0)))) : w.cell? ⟨g, 4, none⟩ = some v4 := (blk_cell B.out 4).trans rfl
theorem bc5 (B : Aside0 (w.heap[g]? = some (.cells (List.toArray (v0 :: v1 :: v2 :: v3 :: v4 :: v5 :: vs)) t (0, 0)))) : w.cell? ⟨g, 5, none⟩ = some v5 := (blk_cell B.out 5).trans rfl
theorem bc6 (B : Aside0 (w.heap[g]? = some (.cells (List.toArray (v0 :: v1 :: v2 :: v3 :: v4 :: v5 :: v6 :: vs)) t (0, 0)))) : w.cell? ⟨g, 6, none⟩ = some v6 := (blk_cell B.out 6).trans rfl
theorem bc7 (B : Aside0 (w.heap[g]? = some (.cells (List.toArray (v0 :: v1 :: v2 :: v3 :: v4 :: v5 :: v6 :: v7 :: vs)) t (0, 0)))) : w.cell? ⟨g, 7, none⟩ = some v7 := (blk_cell B.out 7).trans rfl
end
theorem lists_ : (∀ {α : Type} (l : List α) (i : Nat) (a : α), l.toArray.setIfInBounds i a = (l.set i a).toArray) ∧ (∀ {α : Type} (a b : α) (as_ : List α), (a :: as_).set 0 b = b :: as_) ∧ (∀ {α : Type} (a b : α) (as_ : List α) (i : Nat), (a :: as_).set (i + 1) b = a :: as_.set i b) :=
  ⟨fun _ _ _ => by simp, fun _ _ _ => rfl, fun _ _ _ _ => rfl⟩
theorem gb_ {w W : World} {g : Nat} {o : Obj} [h : Gr w W] (B : Aside0 (w.heap[g]? = some o)) : W.heap[g]? = some o := blk_below B.out h.out
theorem bf_ {w : World} {g : Nat} {t : TypeId} {cs : Array Value} (B : Aside0 (w.heap[g]? = some (.cells cs t (0, 0)))) (i : Nat) : w.frozen? ⟨g, i, none⟩ = false := blk_frozen B.out i
theorem hc_ {w W : World} {a : Addr} {v : Value} (HB : Aside0 (Below w.heap.size w W)) (h : w.cell? a = some v) : W.cell? a = some v := (HB.out.cell (World.block_lt_of_cell? w _ h)).trans h
theorem cb_ {α : Type} {d : Kd α} {w wc W : World} {A : Option Addr} {n : Nat} {xs : List α} [h : Gr wc W] (HR : Aside0 (d.C w A n xs)) (HB : Aside0 (Below w.heap.size w wc)) : d.C W A n xs := Kd.C_below HR.out (gr_below HB.out)
theorem gw_ {w wc W : World} [h : Gr wc W] (HB : Aside0 (Below w.heap.size w wc)) : Below w.heap.size w W := gr_below HB.out
theorem gwl_ (L : List Nat) {w wc W : World} [h : GrL L wc W] (HB : Aside0 (Below w.heap.size w wc)) (hL : AllGe w L) : Below w.heap.size w W := h.out w hL.all HB.out
/-- pure_ out of the table. -/
theorem pu_ {P : Program} {md : Region.Mode} {ops : Array Oper} {Q : Exit → Act → World → Prop} {S : World → Prop} {ds : List Nat} (i : Nat) (N : Option Tmp) {oi : Oper} {fuel : Nat} {l : Array Bool} {a : Act} {w : World} (l' : Array Bool) {T : Bool × List (List Nat × List Nat)} (hT : Aside0 (rtab md ops = T)) (v : Value)
    (hi : ops[i]? = some oi) (hN : oi.dst = N) (hc : anyT T l.toList l'.toList i = true) (hQ : ∀ (c : List PanicEntry) (a : Act) (w : World), Q (Exit.panic c) (a.put oi.dst v) w → Q (Exit.panic c) a w) (hy : Yields P ops oi v a) (a' : Act) (ha : a.put N v = a') (h : wpAnyLast P md ops Q S ds fuel l' a' w) :
    wpAnyLast P md ops Q S ds (fuel + 1) l a w := pure_ l' hi hN (any_of hT.out hc) hQ hy ha h
theorem maps_ : (∀ {α β : Type} (f : α → β) (l : List α), l.toArray.map f = (l.map f).toArray) ∧ (∀ {α β : Type} (f : α → β) (a : α) (l : List α), (a :: l).map f = f a :: l.map f) ∧ (∀ {α β : Type} (f : α → β), ([] : List α).map f = []) :=
  ⟨fun _ _ => by simp, fun _ _ _ => rfl, fun _ => rfl⟩
end Go.Proofs.YtmbedgopceigaaaW.PrintMore
