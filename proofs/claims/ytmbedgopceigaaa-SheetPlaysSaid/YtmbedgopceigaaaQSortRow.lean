import Derived.Shelf.SlSortCmp.NoneTotal
import Derived.Test.YtmbedgopceigaaaWWords
namespace Go.Proofs.Ytmbedgopceigaaa.P
end Go.Proofs.Ytmbedgopceigaaa.P
namespace Go.Proofs.Ytmbedgopceigaaa.Q
end Go.Proofs.Ytmbedgopceigaaa.Q
namespace Go.Proofs.Ytmbedgopceigaaa.Q
open Go.RowKit Go.Proofs.Ytmbedgopceigaaa.P Go.Proofs.YtmbedgopceigaaaW.PrintWords Go.Proofs.YtmbedgopceigaaaW.PrintLast Go.Proofs.YtmbedgopceigaaaW.PrintMore
set_option linter.unusedVariables false
set_option linter.unusedSimpArgs false
open Go.Shelf Go.Sort Go.Lib Go.Proofs

/-! A row of the call's own, of structs of single cells, sorted by slices.SortFunc -/
theorem flat_list {α : Type} [Inhabited α] (enc : α → List Value) (sz : Nat) (hk : ∀ x, (enc x).length = sz) (xs : List α) (j : Nat) (x : α) (hx : xs[j]? = some x) :
    ((flatK enc sz xs.toArray).toList.drop (j * sz)).take sz = enc x := by
  have hj : j < xs.length := (List.getElem?_eq_some_iff.1 hx).1
  have hm : j * sz + sz ≤ xs.length * sz := by
    have := Nat.mul_le_mul_right sz (show j + 1 ≤ xs.length from hj)
    rwa [Nat.add_mul, Nat.one_mul] at this
  apply List.ext_getElem?
  intro i
  rw [List.getElem?_take]
  by_cases hi : i < sz
  · rw [if_pos hi, List.getElem?_drop]
    have hlt : j * sz + i < (flatK enc sz xs.toArray).size := by rw [size_flatK]; simp; omega
    have h1 := get_flatK enc sz xs.toArray (j * sz + i) (by simp; omega)
    have e1 : (j * sz + i) / sz = j := (blk_iff sz j _ (by omega)).1 ⟨by omega, by omega⟩
    have e2 : (j * sz + i) % sz = i := by rw [Nat.mod_eq_sub_div_mul, e1]; omega
    rw [e1, e2] at h1
    rw [Array.getElem?_toList, Array.getElem?_eq_getElem hlt]
    rw [getElem!_pos (flatK enc sz xs.toArray) (j * sz + i) hlt] at h1
    rw [h1]
    have h2 : xs.toArray[j]! = x := by
      rw [getElem!_pos xs.toArray j (by simpa using hj)]
      rw [List.getElem?_eq_getElem hj] at hx
      simpa using hx
    rw [h2, getElem!_pos (enc x) i (by rw [hk]; exact hi), List.getElem?_eq_getElem (by rw [hk]; exact hi)]
  · rw [if_neg hi, List.getElem?_eq_none (by rw [hk]; omega)]
theorem put_take (F : Array Value) (cur : Array Value) (h : F.size ≤ cur.size) : (putCells id 0 F cur).toList.take F.size = F.toList := by
  apply List.ext_getElem?
  intro i
  rw [List.getElem?_take]
  by_cases hi : i < F.size
  · rw [if_pos hi, Array.getElem?_toList, Array.getElem?_toList]
    unfold putCells
    rw [Array.getElem?_mapIdx, Array.getElem?_eq_getElem (show i < cur.size by omega), Option.map_some, if_pos ⟨by omega, by omega⟩, Array.getElem?_eq_getElem hi]
    rw [Nat.sub_zero, getElem!_pos F i hi]
    rfl
  · rw [if_neg hi, Array.getElem?_toList, Array.getElem?_eq_none (by omega)]
theorem put_size (F : Array Value) (cur : Array Value) : (putCells id 0 F cur).size = cur.size := by simp [putCells]
theorem sort_row {P : Program} {ρ : Ren} {α : Type} [Inhabited α] (L : SlLaysF0.n6 P ρ) (d : Kd α) (enc : α → List Value) (hM : ∀ w base ok x cs, d.M w base ok x cs ↔ cs = enc x)
    (hk : ∀ x, (enc x).length = d.sz) (h1 : ∀ x, ∀ v ∈ enc x, v.oneCell' = true) (aE : ∀ w, (isAgg (ρ.t 24)).run P w = .ok true w) (zE : ∀ w, (Go.sizeOf (ρ.t 24)).run P w = .ok d.sz w)
    (cf : α → α → Int) (hO : SWO (ltOf cf)) (g : Nat) (cb : Array Value) (eg : ∀ args w, (callFunc g args).run P w = .ok (.enter g args) w)
    (hcmp : ∀ (W : World) (x y : α), Calls P g (#[.agg (enc x).toArray, .agg (enc y).toArray] ++ cb) W fun e w' => e = .returned (.int .i64 (cf x y)) ∧ ∃ q os', w' = Go.Sort.grow (W.drewN q) os')
    {e base : Nat} {ok : Nat → Prop} {v : Value} {xs : List α} {W : World} (HO : d.R e W base ok v xs) (hn : xs.length < 4611686018427387904) :
    Calls P (ρ.f 6) #[v, .func (.func g) #[] cb] W fun e_ w' => e_ = .returned (.tuple #[]) ∧ ∃ ys : List α, ys.Perm xs ∧ ys.Pairwise (fun a b => ltOf cf b a = false) ∧ d.R e w' base ok v ys ∧ W.grownBy w' v.ownBlock := by
  obtain ⟨h0, inner, ho, hr⟩ := HO
  rcases ho.2 with ⟨rfl, hn0⟩ | ⟨g0, cap, cur, rfl, hg, hh, hnc, hcap, hcs, htk⟩
  · have hx : xs = [] := List.eq_nil_of_length_eq_zero hn0
    subst hx
    refine (AnyF.slices_SortFunc_none L none 0 _ W).mono ?_
    rintro e_ w' ⟨rfl, rfl⟩
    exact ⟨rfl, [], List.Perm.refl _, List.Pairwise.nil, ⟨h0, inner, ho, hr⟩, ⟨rfl, rfl, rfl, Nat.le_refl _, fun _ _ _ => rfl⟩⟩
  · have hlt : g0 < W.heap.size := (Array.getElem?_eq_some_iff.1 hh).1
    have hflat : inner = (flatK enc d.sz xs.toArray).toList := by
      apply List.ext_getElem?
      intro i
      by_cases hi : i < xs.length * d.sz
      · have s0 : 0 < d.sz := by rcases Nat.eq_zero_or_pos d.sz with h | h; · rw [h] at hi; omega
                                 · exact h
        have hj : i / d.sz < xs.length := (Nat.div_lt_iff_lt_mul s0).2 hi
        have a1 := hr.2 (i / d.sz) _ (List.getElem?_eq_getElem hj)
        rw [hM] at a1
        have a2 := flat_list enc d.sz hk xs (i / d.sz) _ (List.getElem?_eq_getElem hj)
        have a3 := congrArg (fun l : List Value => l[i % d.sz]?) (a1.trans a2.symm)
        have hmod : i % d.sz < d.sz := Nat.mod_lt _ s0
        have hdm : i / d.sz * d.sz + i % d.sz = i := by rw [Nat.mul_comm]; exact Nat.div_add_mod i d.sz
        simp only [List.getElem?_take, if_pos hmod, List.getElem?_drop, hdm] at a3
        exact a3
      · rw [List.getElem?_eq_none (by rw [ho.1]; omega), List.getElem?_eq_none (by rw [Array.length_toList, size_flatK]; simp; omega)]
    have hsz : (flatK enc d.sz xs.toArray).size = xs.length * d.sz := by rw [size_flatK]; simp
    have hcz : xs.length * d.sz ≤ cur.size := by rw [hcs]; exact Nat.mul_le_mul_right _ hnc
    have hH : HoldsK enc d.sz W g0 0 xs.toArray := by
      intro j hj
      rw [hsz] at hj
      refine ⟨?_, blk_frozen hh _⟩
      rw [Nat.zero_add, cell_of_row W g0 j cur e (0, 0) hh]
      have b1 : inner[j]? = cur[j]? := by rw [← htk, List.getElem?_take, if_pos hj, Array.getElem?_toList]
      rw [← b1, hflat, Array.getElem?_toList, Array.getElem?_eq_getElem (by rw [hsz]; exact hj), getElem!_pos (flatK enc d.sz xs.toArray) j (by rw [hsz]; exact hj)]
      rfl
    have hcon := AnyQ.slices_SortFunc L d.sz aE zE enc hk h1 cf hO g cb g0 0 cap xs.toArray W eg (fun m os dk _ x y => hcmp _ x y) hH hlt (by simpa using hn)
    rw [show xs.toArray.size = xs.length by simp] at hcon
    refine hcon.mono ?_
    rintro e_ w' ⟨rfl, dk, m, os, hp, hs, rfl⟩
    obtain ⟨p1, _, p3⟩ := hp
    have p1' : dk.size = xs.length := by simpa using p1
    have e1 : dk.extract 0 xs.length = dk := by rw [← p1']; exact Array.extract_size
    have e2 : xs.toArray.extract 0 xs.length = xs.toArray := by
      have : xs.toArray.size = xs.length := by simp
      rw [← this]; exact Array.extract_size
    rw [e1, e2] at p3
    have hsz2 : (flatK enc d.sz dk).size = xs.length * d.sz := by rw [size_flatK, p1']
    have hl1 : dk.toList.length = xs.length := by rw [Array.length_toList]; exact p1'
    have hl2 : (flatK enc d.sz dk).toList.length = xs.length * d.sz := by rw [Array.length_toList]; exact hsz2
    have hb : (sortWorldK enc d.sz W g0 0 m dk os).heap[g0]? = some (.cells (putCells id 0 (flatK enc d.sz dk) cur) e (0, 0)) := by
      unfold sortWorldK putRowK putRow mapBlock Go.Sort.grow
      show (W.heap.modify g0 _ ++ os)[g0]? = _
      rw [Array.getElem?_append, if_pos (by simpa using hlt), Array.getElem?_modify, if_pos rfl, hh]
      rfl
    refine ⟨rfl, dk.toList, by simpa using p3, ?_, ⟨h0, (flatK enc d.sz dk).toList, ⟨by rw [hl2, hl1], .inr ⟨g0, cap, _, by rw [hl1], hg, hb, by rw [hl1]; exact hnc, hcap, by rw [put_size]; exact hcs, ?_⟩⟩, ?_⟩, ⟨rfl, rfl, rfl, ?_, ?_⟩⟩
    · rw [List.pairwise_iff_getElem]
      intro i j hi hj hij
      have hi' : i < dk.size := by simpa using hi
      have hj' : j < dk.size := by simpa using hj
      have := hs i j (Nat.zero_le _) hij (by omega)
      rw [getElem!_pos dk j hj', getElem!_pos dk i hi'] at this
      simpa using this
    · have := put_take (flatK enc d.sz dk) cur (by rw [hsz2]; exact hcz)
      rw [hsz2] at this
      rw [hl1]
      exact this
    · refine ⟨by rw [hl2, hl1], fun j p hj => ?_⟩
      rw [hM]
      have := flat_list enc d.sz hk dk.toList j p hj
      simpa using this
    · unfold sortWorldK putRowK putRow mapBlock Go.Sort.grow
      show W.heap.size ≤ (W.heap.modify g0 _ ++ os).size
      simp
    · intro k hk2 hne
      unfold sortWorldK putRowK putRow mapBlock Go.Sort.grow
      show (W.heap.modify g0 _ ++ os)[k]? = _
      rw [Array.getElem?_append, if_pos (by simpa using hk2), Array.getElem?_modify, if_neg (fun h => hne (by simp [Value.ownBlock, h]))]
end Go.Proofs.Ytmbedgopceigaaa.Q
