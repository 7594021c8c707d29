/- Proved: the law EntryTells is true of every two entries, every row, key, number, bytes, write. -/
import Derived.Test.YtggmgenofmfdpaaQKnown6
import Derived.Test.YtggmgenofmfdpaaPx27
namespace Go.Proofs.Ytggmgenofmfdpaa.P
end Go.Proofs.Ytggmgenofmfdpaa.P
namespace Go.Proofs.Ytggmgenofmfdpaa.Q
end Go.Proofs.Ytggmgenofmfdpaa.Q
namespace Go.Proofs.Ytggmgenofmfdpaa.Pure
open Go.RowKit Go.Proofs.Ytggmgenofmfdpaa.P Go.Proofs.YtggmgenofmfdpaaW.PrintWords Go.Proofs.YtggmgenofmfdpaaW.PrintLast Go.Proofs.YtggmgenofmfdpaaW.PrintMore Go.Proofs.Ytggmgenofmfdpaa.Q
set_option linter.unusedVariables false
set_option linter.unusedSimpArgs false
theorem eq_parts (x : ByteArray × Int × Bool × ByteArray) : (x.1.toList == x.1.toList && (x.2.1 == x.2.1 && (x.2.2.1 == x.2.2.1 && (x.2.2.2.toList == x.2.2.2.toList)))) = true := by simp
theorem tells_main (a b : S23) (l : List S23) (key : ByteArray) (seq : Int) (s : List UInt8) (wk : ByteArray) (wd : Bool) (wv : ByteArray) (hl : l.length ≤ 60) (hs : s.length ≤ 200) :
    Ev (fun k => ravelinlaw6_EntryTells.j0 k l key seq (S s) false a.f0 a.f1 a.f2 a.f3 b.f0 b.f1 b.f2 b.f3 wk wd wv) true := by
  refine Ev.step (fun k => ravelinlaw6_EntryTells.j0.eq_2 ..) (evF (by simp) ?_)
  refine evBind (read_ev s (by omega)) (evBind (rread_ev s (by omega)) (evBind (newest_ev l (by omega) key seq) (evBind (rnewest_ev l (by omega) key seq) ?_)))
  refine evConst (is_ev _ _ _ _) (evConst (ris_ev _ _ _ _) (evT (by simp) (evBind (less_ev _ _ _ _ _ _ _ _) (evConst (rless_ev _ _ _ _ _ _ _ _) (evT (by simp) ?_)))))
  have e1 : a.f0 = S a.f0.data.toList := (S_of _).symm
  have e3 : a.f3 = S a.f3.data.toList := (S_of _).symm
  rw [e1, e3]
  refine evBind (bytes_ev6 _ _ _ _) (evBind (rbytes_ev6 _ _ _ _) (evT rfl ?_))
  refine evBind (sorted_ev l (by omega)) (evBind (rsorted_ev l (by omega)) (evT (by simp) ?_))
  refine evT (by simp) (evT rfl (evT rfl (evT (by simp) (evT (by simp) (evConst (isWrite_ev _ _ _) (evConst (risWrite_ev _ _ _) (evEq (evSome _) ?_)))))))
  simp
theorem EntryTells : ravelinlaw6_EntryTells.Pure := by
  intro a0 a1 a2 a3 b0 b1 b2 b3 l key seq s wk wd wv _ _ _ _ _ _ hl _ hkey _ hs _ _
  obtain ⟨s, rfl⟩ : ∃ l, s = S l := ⟨_, (S_of _).symm⟩
  rw [S_size] at hs
  refine Ev.rounds (Ev.congr (fun k => ravelinlaw6_EntryTells.f.eq_1 ..) (evBind known6 (evT rfl ?_)))
  have yes : Ev (fun k => ravelinlaw6_EntryTells.j0 k l key seq (S s) true a0 a1 a2 a3 b0 b1 b2 b3 wk wd wv) true := Ev.step (fun k => ravelinlaw6_EntryTells.j0.eq_2 ..) (evT rfl (evSome _))
  refine evBind (few_ev l hl) ?_
  by_cases h1 : fewB l = true
  · refine evT h1 (evBind (few_ev _ (by simp)) ?_)
    by_cases h2 : fewB [(⟨a0, a1, a2, a3⟩ : S23), ⟨b0, b1, b2, b3⟩] = true
    · refine evT h2 ?_
      by_cases h3 : (key.size : Int) > 20
      · exact evT h3 yes
      refine evF h3 ?_
      rw [S_size]
      by_cases h4 : (s.length : Int) > 200
      · exact evT h4 yes
      refine evF h4 ?_
      by_cases h5 : (wk.size : Int) > 20
      · exact evT h5 yes
      refine evF h5 ?_
      by_cases h6 : (wv.size : Int) > 40
      · rw [decide_eq_true h6]; exact yes
      rw [decide_eq_false h6]
      exact tells_main ⟨a0, a1, a2, a3⟩ ⟨b0, b1, b2, b3⟩ l key seq s wk wd wv (few_len h1) (by omega)
    · exact evF h2 yes
  · exact evF h1 yes
end Go.Proofs.Ytggmgenofmfdpaa.Pure
