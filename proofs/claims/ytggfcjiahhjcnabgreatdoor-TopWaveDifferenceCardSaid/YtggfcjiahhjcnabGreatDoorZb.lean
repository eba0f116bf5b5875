/- Parts of the proof, joined. -/
import Derived.Test.YtggfcjiahhjcnabGreatDoorZa
import Derived.Test.YtggfcjiahhjcnabGreatDoorVa
import Derived.Test.YtggfcjiahhjcnabGreatDoorFe
import Derived.Test.YtggfcjiahhjcnabGreatDoorVb
namespace Go.Proofs.Tryz
open Go.Fw Go.IntWalk Go.Plain
set_option maxRecDepth 100000
set_option maxHeartbeats 8000000
end Go.Proofs.Tryz

namespace Go.Proofs.Tryz
open Go.Fw Go.IntWalk Go.Plain
set_option maxRecDepth 100000
set_option maxHeartbeats 8000000
theorem formatRecord_sat (st : Int) (l : List Int) (hl : l.length ≤ 70) (h1 : inJ st) (h2 : ∀ n ∈ l, inJ n) : Sat cx.P cx.gl 15 [Rc st l] (.one (SS (fmtRec st l))) := by
  have c0 := itoa_sat st h1
  have hf := fmtRec_join st l
  have hj := fmtRec_len h1 h2
  rw [hf] at hj ⊢
  rw [List.map_cons] at hj ⊢
  generalize Lib.itoa st = p at *
  refine Sat_of_awp (fn := f15) cx_ok (by kernel_rfl) (by kernel_rfl) rfl (by kernel_rfl) (Nat.le_of_ble_eq_true rfl) ?_
  repeat ((first | refine oP rfl ?_ | refine rP rfl (fun _ z => z) ?_ | (refine kO 3 rfl ?_; refine rLdb rfl rfl rfl rfl rfl rfl rfl ?_) | (refine kO 7 rfl ?_; refine rG (fun _ z => ⟨_, c0, z⟩) ?_) | (refine kO 6 rfl ?_; refine rLen rfl rfl rfl rfl rfl rfl ?_) | refine oN ?_ | refine aS ?_ | refine aR ?_ | refine aB ?_ | refine aL ?_); (try conv => whnf))
  refine loop_ind (ι := Nat) (fun i => i ≤ l.length) (fun i => l.length - i) (fun i => ⟨[(3, pO 1), (11, vL l), (12, vI l.length), (13, vI i)], [(1, some (.row true 1 (.view (strs (p :: (l.take i).map Lib.itoa)))))], 2⟩) 0 (canon_auto (by kernel_rfl)) (Nat.zero_le _) ?_
  intro i hi
  by_cases hlt : i < l.length
  · have hn := getD_in h2 hlt
    have c1 := itoa_sat _ hn
    have e := words_snoc hlt
    have hpl : (p :: (l.take i).map Lib.itoa).length ≤ 72 := by simp; omega
    have hpn := strs_len (p :: (l.take i).map Lib.itoa)
    have e' : p :: (l.take (i + 1)).map Lib.itoa = (p :: (l.take i).map Lib.itoa) ++ [Lib.itoa (l.getD i 0)] := by rw [e]; rfl
    generalize p :: (l.take i).map Lib.itoa = r at *
    have e2 := strs_snoc r (Lib.itoa (l.getD i 0))
    have u := strs_uni r (Lib.itoa (l.getD i 0))
    generalize Lib.itoa (l.getD i 0) = y at *
    repeat ((first | refine oP rfl ?_ | refine rP rfl (fun _ z => z) ?_ | (refine kO 1 rfl ?_; first | refine rAdd rfl rfl rfl (by omega) ?_ | refine rG (fun _ z => z) ?_) | (refine kO 3 rfl ?_; refine rLdr rfl rfl rfl rfl rfl ?_) | (refine kO 5 rfl ?_; refine rIdN rfl rfl rfl rfl rfl rfl rfl (by omega) ?_) | (refine kO 7 rfl ?_; refine rG (fun _ z => ⟨_, c1, z⟩) ?_) | refine oN ?_ | refine aS ?_ | refine aR ?_ | refine aK ?_ | refine aB ?_ | refine aC rfl ?_ | refine bPt (by omega) ?_ | refine rG (fun _ z => ⟨(by (exact uvS rfl)), (by (exact lvS (by omega))), z⟩) ?_); (try conv => whnf))
    exact ⟨i + 1, hlt, by omega, canon_auto (by rw [e', e2]; kernel_rfl)⟩
  · obtain rfl : i = l.length := by omega
    rw [List.take_length]
    have hrl : (p :: l.map Lib.itoa).length ≤ 71 := by simp; omega
    generalize p :: l.map Lib.itoa = r at *
    have c1 := join_sat r 32 (by omega) (by omega)
    generalize Lib.join r [32] = y at *
    repeat ((first | refine oP rfl ?_ | refine rP rfl (fun _ z => z) ?_ | (refine kO 1 rfl ?_; refine rG (fun _ z => z) ?_) | (refine kO 7 rfl ?_; refine rG (fun _ z => ⟨_, c1, z⟩) ?_) | refine oN ?_ | refine aS ?_ | refine aR ?_ | refine aX ?_ | refine aT ?_ | refine aC rfl ?_ | refine bPf (by omega) ?_); (try conv => whnf))
    (rfl)
theorem formatFr_sat (a b : Int) (h1 : inJ a) (h2 : inJ b) : Sat cx.P cx.gl 59 [F2 a b] (.one (SS (frS a b))) := by
  have c1 := itoa_sat a h1
  have c2 := itoa_sat b h2
  have l1 := itoa_len h1
  have l2 := itoa_len h2
  unfold frS
  generalize Lib.itoa a = x at *
  generalize Lib.itoa b = y at *
  refine Sat_of_awp (fn := f59) cx_ok (by kernel_rfl) (by kernel_rfl) rfl (by kernel_rfl) (Nat.le_of_ble_eq_true rfl) ?_
  repeat ((first | refine oP rfl ?_ | refine rP rfl (fun _ z => z) ?_ | (refine kO 1 rfl ?_; refine rSCat rfl rfl rfl (by (simp; omega)) ?_) | (refine kO 3 rfl ?_; refine rLdb rfl rfl rfl rfl rfl rfl rfl ?_) | (refine kO 7 rfl ?_; first | refine rG (fun _ z => ⟨_, c1, z⟩) ?_ | refine rG (fun _ z => ⟨_, c2, z⟩) ?_) | refine oN ?_ | refine aS ?_ | refine aR ?_ | refine aT ?_ | refine dI (by kernel_rfl) ?_); (try conv => whnf))
  (done)
theorem frS_len {a b : Int} (h1 : inJ a) (h2 : inJ b) : (frS a b).length ≤ 41 := by
  have := itoa_len h1
  have := itoa_len h2
  unfold frS
  simp only [List.length_append, List.length_cons, List.length_nil]; omega
theorem formatSp_sat (q : Sp) (h : inQ q) : Sat cx.P cx.gl 34 [(true, sp q)] (.one (SS (spS q))) := by
  obtain ⟨h1, h2, h3, h4⟩ := h
  have c1 := formatFr_sat _ _ h1 h2
  have c2 := formatFr_sat _ _ h3 h4
  have l1 := frS_len h1 h2
  have l2 := frS_len h3 h4
  unfold spS
  generalize frS q.1 q.2.1 = x at *
  generalize frS q.2.2.1 q.2.2.2 = y at *
  refine Sat_of_awp (fn := f34) cx_ok (by kernel_rfl) (by kernel_rfl) rfl (by kernel_rfl) (Nat.le_of_ble_eq_true rfl) ?_
  repeat ((first | refine oP rfl ?_ | refine rP rfl (fun _ z => z) ?_ | (refine kO 1 rfl ?_; refine rSCat rfl rfl rfl (by (simp; omega)) ?_) | (refine kO 3 rfl ?_; refine rG (fun _ z => z) ?_) | (refine kO 7 rfl ?_; first | refine rG (fun _ z => ⟨_, c1, z⟩) ?_ | refine rG (fun _ z => ⟨_, c2, z⟩) ?_) | refine oN ?_ | refine aS ?_ | refine aR ?_ | refine aT ?_ | refine dI (by kernel_rfl) ?_); (try conv => whnf))
  (done)
end Go.Proofs.Tryz

namespace Go.Proofs.Tryz
open Go.Fw Go.IntWalk Go.Plain
set_option maxRecDepth 100000
set_option maxHeartbeats 8000000
theorem spS_snoc {l : List Sp} {i : Nat} (h : i < l.length) : (l.take (i + 1)).map spS = (l.take i).map spS ++ [spS (l.getD i (0, 0, 0, 0))] := by
  rw [takeD_snoc h (0, 0, 0, 0)]; simp
theorem formatRules_sat (e : Int) (q : Sp) (ch : List Sp) (hl : ch.length ≤ 6) (h1 : inJ e) (h2 : inQ q) (h3 : ∀ s ∈ ch, inQ s) : Sat cx.P cx.gl 13 [Ru e q ch] (.one (SS (fmtRul e q ch))) := by
  have c0 := itoa_sat e h1
  have c1 := formatSp_sat q h2
  have hj := fmtRul_len h1 h2 h3
  have hf := fmtRul_join e q ch
  have hlen : (ch.map sp).length = ch.length := List.length_map ..
  rw [hf] at hj ⊢
  rw [List.map_cons] at hj ⊢
  generalize Lib.itoa e = p at *
  generalize spS q = p' at *
  refine Sat_of_awp (fn := f13) cx_ok (by kernel_rfl) (by kernel_rfl) rfl (by kernel_rfl) (Nat.le_of_ble_eq_true rfl) ?_
  repeat ((first | refine oP rfl ?_ | refine rConv rfl rfl rfl rfl rfl rfl (cvI (by omega)) ?_ | refine rConv rfl rfl rfl rfl rfl rfl (cv8 (by omega)) ?_ | refine rP rfl (fun _ z => z) ?_ | (refine kO 1 rfl ?_; first | refine rSCat rfl rfl rfl (by first | omega | (simp; omega) | (simp only [List.length_append, List.length_cons, List.length_nil]; omega) | decide) ?_ | refine rSEq rfl rfl rfl ?_ | refine rSNe rfl rfl rfl ?_ | refine rSub8 rfl rfl rfl (by omega) ?_ | refine rAdd rfl rfl rfl (by omega) ?_ | refine rSub rfl rfl rfl (by omega) ?_ | refine rMul rfl rfl rfl (by omega) ?_ | refine rQuo rfl rfl rfl (by omega) ?_ | refine rRem rfl rfl rfl (by omega) ?_ | refine rQuo' rfl rfl rfl (by omega) ?_ | refine rRem' rfl rfl rfl (by omega) ?_ | refine rG (fun _ z => z) ?_) | (refine kO 2 rfl ?_; first | refine rNeg rfl rfl (by omega) ?_ | refine rG (fun _ z => z) ?_) | (refine kO 3 rfl ?_; first | refine rLdr rfl rfl rfl rfl rfl ?_ | refine rLdb rfl rfl rfl rfl rfl rfl rfl ?_ | refine rLdi rfl rfl rfl rfl rfl rfl (by first | omega | decide | exact Nat.le_of_ble_eq_true rfl | (dsimp only [SC.len]; omega) | (simp; done) | (simp; omega) | omega) ?_ | refine rG (fun _ z => z) ?_ | refine rG (fun _ z => ⟨_, rfl, z⟩) ?_) | (refine kO 4 rfl ?_; first | refine rSti rfl rfl rfl rfl rfl rfl (by first | omega | decide | exact Nat.le_of_ble_eq_true rfl | (dsimp only [SC.len]; omega) | (simp; done) | (simp; omega) | omega) ?_ | refine rG (fun _ z => z) ?_) | (refine kO 5 rfl ?_; first | refine rIdN rfl rfl rfl rfl rfl rfl rfl (by first | omega | decide | exact Nat.le_of_ble_eq_true rfl | (dsimp only [SC.len]; omega) | (simp; done) | (simp; omega) | omega) ?_ | refine rIdx rfl rfl rfl rfl rfl rfl rfl (by first | omega | decide | exact Nat.le_of_ble_eq_true rfl | (dsimp only [SC.len]; omega) | (simp; done) | (simp; omega) | omega) ?_ | refine rIdoN rfl rfl rfl rfl rfl rfl rfl rfl (by first | omega | decide | exact Nat.le_of_ble_eq_true rfl | (dsimp only [SC.len]; omega) | (simp; done) | (simp; omega) | omega) ?_ | refine rIdo rfl rfl rfl rfl rfl rfl rfl rfl (by first | omega | decide | exact Nat.le_of_ble_eq_true rfl | (dsimp only [SC.len]; omega) | (simp; done) | (simp; omega) | omega) ?_ | refine rIdvN rfl rfl rfl rfl rfl rfl (by first | assumption | rfl) rfl ?_) | (refine kO 7 rfl ?_; first | refine rG (fun _ z => ⟨_, c0, z⟩) ?_ | refine rG (fun _ z => ⟨_, c1, z⟩) ?_) | (refine kO 6 rfl ?_; first | refine rSLen rfl rfl rfl rfl rfl rfl ?_ | refine rLen rfl rfl rfl rfl rfl rfl ?_ | refine rLenv rfl rfl rfl rfl rfl rfl ?_ | refine rLeno rfl rfl rfl rfl rfl rfl rfl ?_ | refine rLenov rfl rfl rfl rfl rfl rfl rfl ?_ | refine rG (fun _ z => z) ?_) | (refine kO 8 rfl ?_; first | refine rSIdx rfl rfl rfl rfl rfl (by first | omega | (simp; omega) | (simp only [List.length_append, List.length_cons, List.length_nil]; omega) | decide) ?_ | refine rSSlB rfl rfl rfl rfl rfl rfl (by first | omega | (simp; omega) | (simp only [List.length_append, List.length_cons, List.length_nil]; omega) | decide) ?_ | refine rSSlL rfl rfl rfl rfl rfl (by first | omega | (simp; omega) | (simp only [List.length_append, List.length_cons, List.length_nil]; omega) | decide) ?_ | refine rSSlH rfl rfl rfl rfl rfl (by first | omega | (simp; omega) | (simp only [List.length_append, List.length_cons, List.length_nil]; omega) | decide) ?_ | refine rSlH rfl rfl rfl rfl rfl rfl rfl (by omega) ?_ | refine rSlL rfl rfl rfl rfl rfl rfl rfl (by omega) ?_ | refine rG (fun _ z => z) ?_) | refine oN ?_ | refine aS ?_ | refine aR ?_ | refine aK ?_ | refine aX ?_ | refine aB ?_ | refine aT ?_ | refine aC rfl ?_ | refine bT ?_ | refine bF ?_ | refine bPt (by omega) ?_ | refine bPf (by omega) ?_ | refine aL ?_ | refine aE ?_ | refine oY rfl rfl rfl ?_ | refine oZ rfl rfl rfl ?_ | refine oO rfl rfl rfl ?_ | refine oIt rfl rfl rfl (by omega) ?_ | refine oIf rfl rfl rfl (by omega) ?_ | refine oUt rfl rfl rfl (by omega) ?_ | refine oUf rfl rfl rfl (by omega) ?_ | refine dI (by kernel_rfl) ?_ | refine rG (fun _ z => ⟨(by (first | omega | decide | rfl | exact lnS (by omega) | exact lnN (by decide) | exact lnN (by omega) | exact lnC (by omega) | exact lvS (by omega) | exact lvN (by decide) | exact lvC (by omega) | exact uvS rfl | exact uvN rfl | ((try unfold SC.len); (try unfold SC.uni); (try unfold LIM); (try simp); (try omega); done) | omega)), z⟩) ?_ | refine rG (fun _ z => ⟨(by (first | omega | decide | rfl | exact lnS (by omega) | exact lnN (by decide) | exact lnN (by omega) | exact lnC (by omega) | exact lvS (by omega) | exact lvN (by decide) | exact lvC (by omega) | exact uvS rfl | exact uvN rfl | ((try unfold SC.len); (try unfold SC.uni); (try unfold LIM); (try simp); (try omega); done) | omega)), (by (first | omega | decide | rfl | exact lnS (by omega) | exact lnN (by decide) | exact lnN (by omega) | exact lnC (by omega) | exact lvS (by omega) | exact lvN (by decide) | exact lvC (by omega) | exact uvS rfl | exact uvN rfl | ((try unfold SC.len); (try unfold SC.uni); (try unfold LIM); (try simp); (try omega); done) | omega)), z⟩) ?_); (try conv => whnf))
  refine loop_ind (ι := Nat) (fun i => i ≤ ch.length) (fun i => ch.length - i) (fun i => ⟨[(3, pO 1), (14, some (.val (false, [.st (.view (ch.map sp))]))), (15, vI ch.length), (16, vI i)], [(1, some (.row true 1 (.view (strs (p :: p' :: (ch.take i).map spS)))))], 2⟩) 0 (canon_auto (by rw [← hlen]; kernel_rfl)) (Nat.zero_le _) ?_
  intro i hi
  by_cases hlt : i < ch.length
  · have hn := h3 _ (sp_mem hlt)
    have c1 := formatSp_sat _ hn
    have hget := sp_get hlt
    have e := spS_snoc hlt
    have hpl : (p :: p' :: (ch.take i).map spS).length ≤ 9 := by simp; omega
    have hpn := strs_len (p :: p' :: (ch.take i).map spS)
    have e' : p :: p' :: (ch.take (i + 1)).map spS = (p :: p' :: (ch.take i).map spS) ++ [spS (ch.getD i (0, 0, 0, 0))] := by rw [e]; rfl
    generalize p :: p' :: (ch.take i).map spS = r at *
    generalize hs : ch.getD i (0, 0, 0, 0) = s at *
    have e2 := strs_snoc r (spS s)
    have u := strs_uni r (spS s)
    generalize spS s = y at *
    repeat ((first | refine oP rfl ?_ | refine rConv rfl rfl rfl rfl rfl rfl (cvI (by omega)) ?_ | refine rConv rfl rfl rfl rfl rfl rfl (cv8 (by omega)) ?_ | refine rP rfl (fun _ z => z) ?_ | (refine kO 1 rfl ?_; first | refine rSCat rfl rfl rfl (by first | omega | (simp; omega) | (simp only [List.length_append, List.length_cons, List.length_nil]; omega) | decide) ?_ | refine rSEq rfl rfl rfl ?_ | refine rSNe rfl rfl rfl ?_ | refine rSub8 rfl rfl rfl (by omega) ?_ | refine rAdd rfl rfl rfl (by omega) ?_ | refine rSub rfl rfl rfl (by omega) ?_ | refine rMul rfl rfl rfl (by omega) ?_ | refine rQuo rfl rfl rfl (by omega) ?_ | refine rRem rfl rfl rfl (by omega) ?_ | refine rQuo' rfl rfl rfl (by omega) ?_ | refine rRem' rfl rfl rfl (by omega) ?_ | refine rG (fun _ z => z) ?_) | (refine kO 2 rfl ?_; first | refine rNeg rfl rfl (by omega) ?_ | refine rG (fun _ z => z) ?_) | (refine kO 3 rfl ?_; first | refine rLdr rfl rfl rfl rfl rfl ?_ | refine rLdb rfl rfl rfl rfl rfl rfl rfl ?_ | refine rLdi rfl rfl rfl rfl rfl rfl (by first | omega | decide | exact Nat.le_of_ble_eq_true rfl | (dsimp only [SC.len]; omega) | (simp; done) | (simp; omega) | omega) ?_ | refine rG (fun _ z => z) ?_ | refine rG (fun _ z => ⟨_, rfl, z⟩) ?_) | (refine kO 4 rfl ?_; first | refine rSti rfl rfl rfl rfl rfl rfl (by first | omega | decide | exact Nat.le_of_ble_eq_true rfl | (dsimp only [SC.len]; omega) | (simp; done) | (simp; omega) | omega) ?_ | refine rG (fun _ z => z) ?_) | (refine kO 5 rfl ?_; first | refine rIdN rfl rfl rfl rfl rfl rfl rfl (by first | omega | decide | exact Nat.le_of_ble_eq_true rfl | (dsimp only [SC.len]; omega) | (simp; done) | (simp; omega) | omega) ?_ | refine rIdx rfl rfl rfl rfl rfl rfl rfl (by first | omega | decide | exact Nat.le_of_ble_eq_true rfl | (dsimp only [SC.len]; omega) | (simp; done) | (simp; omega) | omega) ?_ | refine rIdoN rfl rfl rfl rfl rfl rfl rfl rfl (by first | omega | decide | exact Nat.le_of_ble_eq_true rfl | (dsimp only [SC.len]; omega) | (simp; done) | (simp; omega) | omega) ?_ | refine rIdo rfl rfl rfl rfl rfl rfl rfl rfl (by first | omega | decide | exact Nat.le_of_ble_eq_true rfl | (dsimp only [SC.len]; omega) | (simp; done) | (simp; omega) | omega) ?_ | refine rIdvN rfl rfl rfl rfl rfl rfl (by first | assumption | rfl) rfl ?_) | (refine kO 7 rfl ?_; first | refine rG (fun _ z => ⟨_, c1, z⟩) ?_) | (refine kO 6 rfl ?_; first | refine rSLen rfl rfl rfl rfl rfl rfl ?_ | refine rLen rfl rfl rfl rfl rfl rfl ?_ | refine rLenv rfl rfl rfl rfl rfl rfl ?_ | refine rLeno rfl rfl rfl rfl rfl rfl rfl ?_ | refine rLenov rfl rfl rfl rfl rfl rfl rfl ?_ | refine rG (fun _ z => z) ?_) | (refine kO 8 rfl ?_; first | refine rSIdx rfl rfl rfl rfl rfl (by first | omega | (simp; omega) | (simp only [List.length_append, List.length_cons, List.length_nil]; omega) | decide) ?_ | refine rSSlB rfl rfl rfl rfl rfl rfl (by first | omega | (simp; omega) | (simp only [List.length_append, List.length_cons, List.length_nil]; omega) | decide) ?_ | refine rSSlL rfl rfl rfl rfl rfl (by first | omega | (simp; omega) | (simp only [List.length_append, List.length_cons, List.length_nil]; omega) | decide) ?_ | refine rSSlH rfl rfl rfl rfl rfl (by first | omega | (simp; omega) | (simp only [List.length_append, List.length_cons, List.length_nil]; omega) | decide) ?_ | refine rSlH rfl rfl rfl rfl rfl rfl rfl (by omega) ?_ | refine rSlL rfl rfl rfl rfl rfl rfl rfl (by omega) ?_ | refine rG (fun _ z => z) ?_) | refine oN ?_ | refine aS ?_ | refine aR ?_ | refine aK ?_ | refine aX ?_ | refine aB ?_ | refine aT ?_ | refine aC rfl ?_ | refine bT ?_ | refine bF ?_ | refine bPt (by omega) ?_ | refine bPf (by omega) ?_ | refine aL ?_ | refine aE ?_ | refine oY rfl rfl rfl ?_ | refine oZ rfl rfl rfl ?_ | refine oO rfl rfl rfl ?_ | refine oIt rfl rfl rfl (by omega) ?_ | refine oIf rfl rfl rfl (by omega) ?_ | refine oUt rfl rfl rfl (by omega) ?_ | refine oUf rfl rfl rfl (by omega) ?_ | refine dI (by kernel_rfl) ?_ | refine rG (fun _ z => ⟨(by (first | omega | decide | rfl | exact lnS (by omega) | exact lnN (by decide) | exact lnN (by omega) | exact lnC (by omega) | exact lvS (by omega) | exact lvN (by decide) | exact lvC (by omega) | exact uvS rfl | exact uvN rfl | ((try unfold SC.len); (try unfold SC.uni); (try unfold LIM); (try simp); (try omega); done) | omega)), z⟩) ?_ | refine rG (fun _ z => ⟨(by (first | omega | decide | rfl | exact lnS (by omega) | exact lnN (by decide) | exact lnN (by omega) | exact lnC (by omega) | exact lvS (by omega) | exact lvN (by decide) | exact lvC (by omega) | exact uvS rfl | exact uvN rfl | ((try unfold SC.len); (try unfold SC.uni); (try unfold LIM); (try simp); (try omega); done) | omega)), (by (first | omega | decide | rfl | exact lnS (by omega) | exact lnN (by decide) | exact lnN (by omega) | exact lnC (by omega) | exact lvS (by omega) | exact lvN (by decide) | exact lvC (by omega) | exact uvS rfl | exact uvN rfl | ((try unfold SC.len); (try unfold SC.uni); (try unfold LIM); (try simp); (try omega); done) | omega)), z⟩) ?_); (try conv => whnf))
    exact ⟨i + 1, hlt, by omega, canon_auto (by rw [e', e2]; kernel_rfl)⟩
  · obtain rfl : i = ch.length := by omega
    rw [List.take_length]
    have hrl : (p :: p' :: ch.map spS).length ≤ 9 := by simp; omega
    generalize p :: p' :: ch.map spS = r at *
    have c1 := join_sat r 59 (by omega) (by omega)
    generalize Lib.join r [59] = y at *
    repeat ((first | refine oP rfl ?_ | refine rConv rfl rfl rfl rfl rfl rfl (cvI (by omega)) ?_ | refine rConv rfl rfl rfl rfl rfl rfl (cv8 (by omega)) ?_ | refine rP rfl (fun _ z => z) ?_ | (refine kO 1 rfl ?_; first | refine rSCat rfl rfl rfl (by first | omega | (simp; omega) | (simp only [List.length_append, List.length_cons, List.length_nil]; omega) | decide) ?_ | refine rSEq rfl rfl rfl ?_ | refine rSNe rfl rfl rfl ?_ | refine rSub8 rfl rfl rfl (by omega) ?_ | refine rAdd rfl rfl rfl (by omega) ?_ | refine rSub rfl rfl rfl (by omega) ?_ | refine rMul rfl rfl rfl (by omega) ?_ | refine rQuo rfl rfl rfl (by omega) ?_ | refine rRem rfl rfl rfl (by omega) ?_ | refine rQuo' rfl rfl rfl (by omega) ?_ | refine rRem' rfl rfl rfl (by omega) ?_ | refine rG (fun _ z => z) ?_) | (refine kO 2 rfl ?_; first | refine rNeg rfl rfl (by omega) ?_ | refine rG (fun _ z => z) ?_) | (refine kO 3 rfl ?_; first | refine rLdr rfl rfl rfl rfl rfl ?_ | refine rLdb rfl rfl rfl rfl rfl rfl rfl ?_ | refine rLdi rfl rfl rfl rfl rfl rfl (by first | omega | decide | exact Nat.le_of_ble_eq_true rfl | (dsimp only [SC.len]; omega) | (simp; done) | (simp; omega) | omega) ?_ | refine rG (fun _ z => z) ?_ | refine rG (fun _ z => ⟨_, rfl, z⟩) ?_) | (refine kO 4 rfl ?_; first | refine rSti rfl rfl rfl rfl rfl rfl (by first | omega | decide | exact Nat.le_of_ble_eq_true rfl | (dsimp only [SC.len]; omega) | (simp; done) | (simp; omega) | omega) ?_ | refine rG (fun _ z => z) ?_) | (refine kO 5 rfl ?_; first | refine rIdN rfl rfl rfl rfl rfl rfl rfl (by first | omega | decide | exact Nat.le_of_ble_eq_true rfl | (dsimp only [SC.len]; omega) | (simp; done) | (simp; omega) | omega) ?_ | refine rIdx rfl rfl rfl rfl rfl rfl rfl (by first | omega | decide | exact Nat.le_of_ble_eq_true rfl | (dsimp only [SC.len]; omega) | (simp; done) | (simp; omega) | omega) ?_ | refine rIdoN rfl rfl rfl rfl rfl rfl rfl rfl (by first | omega | decide | exact Nat.le_of_ble_eq_true rfl | (dsimp only [SC.len]; omega) | (simp; done) | (simp; omega) | omega) ?_ | refine rIdo rfl rfl rfl rfl rfl rfl rfl rfl (by first | omega | decide | exact Nat.le_of_ble_eq_true rfl | (dsimp only [SC.len]; omega) | (simp; done) | (simp; omega) | omega) ?_ | refine rIdvN rfl rfl rfl rfl rfl rfl (by first | assumption | rfl) rfl ?_) | (refine kO 7 rfl ?_; first | refine rG (fun _ z => ⟨_, c1, z⟩) ?_) | (refine kO 6 rfl ?_; first | refine rSLen rfl rfl rfl rfl rfl rfl ?_ | refine rLen rfl rfl rfl rfl rfl rfl ?_ | refine rLenv rfl rfl rfl rfl rfl rfl ?_ | refine rLeno rfl rfl rfl rfl rfl rfl rfl ?_ | refine rLenov rfl rfl rfl rfl rfl rfl rfl ?_ | refine rG (fun _ z => z) ?_) | (refine kO 8 rfl ?_; first | refine rSIdx rfl rfl rfl rfl rfl (by first | omega | (simp; omega) | (simp only [List.length_append, List.length_cons, List.length_nil]; omega) | decide) ?_ | refine rSSlB rfl rfl rfl rfl rfl rfl (by first | omega | (simp; omega) | (simp only [List.length_append, List.length_cons, List.length_nil]; omega) | decide) ?_ | refine rSSlL rfl rfl rfl rfl rfl (by first | omega | (simp; omega) | (simp only [List.length_append, List.length_cons, List.length_nil]; omega) | decide) ?_ | refine rSSlH rfl rfl rfl rfl rfl (by first | omega | (simp; omega) | (simp only [List.length_append, List.length_cons, List.length_nil]; omega) | decide) ?_ | refine rSlH rfl rfl rfl rfl rfl rfl rfl (by omega) ?_ | refine rSlL rfl rfl rfl rfl rfl rfl rfl (by omega) ?_ | refine rG (fun _ z => z) ?_) | refine oN ?_ | refine aS ?_ | refine aR ?_ | refine aK ?_ | refine aX ?_ | refine aB ?_ | refine aT ?_ | refine aC rfl ?_ | refine bT ?_ | refine bF ?_ | refine bPt (by omega) ?_ | refine bPf (by omega) ?_ | refine aL ?_ | refine aE ?_ | refine oY rfl rfl rfl ?_ | refine oZ rfl rfl rfl ?_ | refine oO rfl rfl rfl ?_ | refine oIt rfl rfl rfl (by omega) ?_ | refine oIf rfl rfl rfl (by omega) ?_ | refine oUt rfl rfl rfl (by omega) ?_ | refine oUf rfl rfl rfl (by omega) ?_ | refine dI (by kernel_rfl) ?_ | refine rG (fun _ z => ⟨(by (first | omega | decide | rfl | exact lnS (by omega) | exact lnN (by decide) | exact lnN (by omega) | exact lnC (by omega) | exact lvS (by omega) | exact lvN (by decide) | exact lvC (by omega) | exact uvS rfl | exact uvN rfl | ((try unfold SC.len); (try unfold SC.uni); (try unfold LIM); (try simp); (try omega); done) | omega)), z⟩) ?_ | refine rG (fun _ z => ⟨(by (first | omega | decide | rfl | exact lnS (by omega) | exact lnN (by decide) | exact lnN (by omega) | exact lnC (by omega) | exact lvS (by omega) | exact lvN (by decide) | exact lvC (by omega) | exact uvS rfl | exact uvN rfl | ((try unfold SC.len); (try unfold SC.uni); (try unfold LIM); (try simp); (try omega); done) | omega)), (by (first | omega | decide | rfl | exact lnS (by omega) | exact lnN (by decide) | exact lnN (by omega) | exact lnC (by omega) | exact lvS (by omega) | exact lvN (by decide) | exact lvC (by omega) | exact uvS rfl | exact uvN rfl | ((try unfold SC.len); (try unfold SC.uni); (try unfold LIM); (try simp); (try omega); done) | omega)), z⟩) ?_); (try conv => whnf))
    (first | done | rfl)
end Go.Proofs.Tryz

namespace Go.Proofs.Tryz
open Go.Fw Go.IntWalk Go.Plain
set_option maxRecDepth 100000
set_option maxHeartbeats 8000000
/-- What a record's string is: a record, or an error. -/
def endRec (o : Option (Int × List Int)) : (Int × List Int) × Int := match o with
  | some (st, l) => if recErr st l = 0 then ((st, l), 0) else ((0, []), recErr st l)
  | none => ((0, []), 7)
abbrev PR (r : (Int × List Int) × Int) : List SV := [Rc r.1.1 r.1.2, I r.2]
theorem strs_at {l : List (List UInt8)} {i : Nat} (h : i < l.length) : (strs l)[i]? = some [.lit (.string (B (l.getD i [])))] := by
  simp [List.getD_eq_getElem?_getD, h]
theorem wParseRecord_sat (s : List UInt8) (hl : s.length ≤ 10000) : Sat cx.P cx.gl 14 [SS s] (.tup (PR (endRec (recPre (spl 32 s))))) := by
  obtain ⟨h1, h2⟩ := cutS_spl s 32
  obtain ⟨h3, h4⟩ := spl_len 32 s
  have c1 := split_sat s 32 (by omega) h2
  rw [h1, show (32 : UInt8).toNat = 32 from rfl] at c1
  generalize spl 32 s = ws at *
  have hn := strs_len ws
  refine Sat_of_awp (fn := f14) cx_ok (by kernel_rfl) (by kernel_rfl) rfl (by kernel_rfl) (Nat.le_of_ble_eq_true rfl) ?_
  repeat ((first | refine oP rfl ?_ | refine rP rfl (fun _ z => z) ?_ | (refine kO 1 rfl ?_; refine rG (fun _ z => z) ?_) | (refine kO 7 rfl ?_; refine rG (fun _ z => ⟨_, c1, z⟩) ?_) | (refine kO 6 rfl ?_; first | refine rSLen rfl rfl rfl rfl rfl rfl ?_ | refine rLenov rfl rfl rfl rfl rfl rfl rfl ?_) | refine oN ?_ | refine aS ?_ | refine aR ?_ | refine aK ?_ | refine aB ?_ | refine aC rfl ?_ | refine bPf (by omega) ?_ | refine aL ?_); (try conv => whnf))
  refine loop_ind (ι := Nat × Int × List Int) (fun p => (p.1 ≤ ws.length ∧ p.2.2.length ≤ p.1) ∧ recPre (ws.take p.1) = some p.2) (fun p => ws.length - p.1)
    (fun p => ⟨[(2, pP 0), (4, pP 1), (15, pO 2), (16, vI ws.length), (17, vI p.1)], [(0, some (.box 31 [.st (J 0), .nil])), (1, some (.box 31 [.st (J p.2.1), .own 3])), (2, some (.row false 1 (.view (strs ws)))), (3, some (.row true 1 (.ints p.2.2)))], 4⟩)
    (0, 0, []) (by
      refine Sub.trans (freeze_sub 7 rfl) ?_
      refine Sub.trans (nilb_sub 5 1 1 (.ints []) (T := 31) (cs := [.st (J 0), .nil]) (by decide) rfl rfl rfl rfl) ?_
      exact canon_auto (by rw [← hn]; kernel_rfl)) ⟨⟨Nat.zero_le _, Nat.le_refl _⟩, rfl⟩ ?_
  rintro ⟨i, st, l⟩ ⟨⟨hi, ha⟩, hg⟩
  dsimp only at hi ha hg ⊢
  by_cases hlt : i < ws.length
  · have he := strs_at hlt
    have hwl : (ws.getD i []).length ≤ 10000 := by
      have := h4 (ws.getD i []) (by rw [show ws.getD i [] = ws[i] by simp [List.getD_eq_getElem?_getD, hlt]]; exact List.getElem_mem hlt)
      omega
    have hbad := recPre_bad hlt
    by_cases h0 : i = 0
    · have hb : decide ((i : Int) > 0) = false := decide_eq_false (by omega)
      have hz := fun n => recPre_zero (ws := ws) (by omega) (n := n)
      rw [if_pos h0] at hbad
      rw [← h0] at hz
      have hl0 : l = [] := List.eq_nil_of_length_eq_zero (by omega)
      subst hl0
      generalize ws.getD i [] = w at *
      cases hd : wN false 7 w with
      | some n =>
        have c := wNumber_ok (d := 7) (by decide) (by omega) hd
        rw [← hb] at c
        have hz := hz n hd
        repeat' ((first | refine oP rfl ?_ | refine rP rfl (fun _ z => z) ?_ | (refine kO 1 rfl ?_; first | refine rAdd rfl rfl rfl (by omega) ?_ | refine rG (fun _ z => z) ?_) | (refine kO 2 rfl ?_; refine rG (fun _ z => z) ?_) | (refine kO 3 rfl ?_; refine rLdv rfl rfl rfl rfl rfl rfl (by assumption) ?_) | (refine kO 4 rfl ?_; refine rG (fun _ z => z) ?_) | (refine kO 5 rfl ?_; refine rIdoN rfl rfl rfl rfl rfl rfl rfl rfl (by (dsimp only [SC.len]; omega)) ?_) | (refine kO 7 rfl ?_; refine rG (fun _ z => ⟨_, c, z⟩) ?_) | refine oN ?_ | refine aS ?_ | refine aR ?_ | refine aK ?_ | refine aX ?_ | refine aB ?_ | refine aC rfl ?_ | refine bF ?_ | refine bPt (by omega) ?_) <;> (try conv => whnf))
        all_goals first | (exfalso; omega) | (exact absurd rfl h) | (exact ⟨(i + 1, n, []), ⟨⟨hlt, by simp⟩, by rw [h0]; exact hz⟩, by dsimp only; omega, canon_auto (by kernel_rfl)⟩)
      | none =>
        rw [hbad hd]
        obtain ⟨v, c⟩ := wNumber_no (d := 7) (by omega) hd
        rw [← hb] at c
        repeat' ((first | refine oP rfl ?_ | refine rP rfl (fun _ z => z) ?_ | (refine kO 1 rfl ?_; refine rG (fun _ z => z) ?_) | (refine kO 2 rfl ?_; refine rG (fun _ z => z) ?_) | (refine kO 3 rfl ?_; refine rLdv rfl rfl rfl rfl rfl rfl (by assumption) ?_) | (refine kO 4 rfl ?_; refine rG (fun _ z => z) ?_) | (refine kO 5 rfl ?_; refine rIdoN rfl rfl rfl rfl rfl rfl rfl rfl (by (dsimp only [SC.len]; omega)) ?_) | (refine kO 7 rfl ?_; refine rG (fun _ z => ⟨_, c, z⟩) ?_) | refine oN ?_ | refine aS ?_ | refine aR ?_ | refine aK ?_ | refine aB ?_ | refine aT ?_ | refine aC rfl ?_ | refine bPt (by omega) ?_) <;> (try conv => whnf))
        all_goals (exact rfl)
    · have hb : decide ((i : Int) > 0) = true := decide_eq_true (by omega)
      have hz := fun n => recPre_snoc (by omega) hlt hg (n := n)
      rw [if_neg h0, ← wN_true] at hbad
      rw [← wN_true] at hz
      generalize ws.getD i [] = w at *
      cases hd : wN true 7 w with
      | some n =>
        have c := wNumber_ok (d := 7) (by decide) (by omega) hd
        rw [← hb] at c
        have hz := hz n hd
        have hap : (l ++ [n]).length = l.length + 1 := by simp
        repeat' ((first | refine oP rfl ?_ | refine rP rfl (fun _ z => z) ?_ | (refine kO 1 rfl ?_; first | refine rAdd rfl rfl rfl (by omega) ?_ | refine rG (fun _ z => z) ?_) | (refine kO 2 rfl ?_; refine rG (fun _ z => z) ?_) | (refine kO 3 rfl ?_; first | refine rLdv rfl rfl rfl rfl rfl rfl (by assumption) ?_ | refine rLdb rfl rfl rfl rfl rfl rfl rfl ?_) | (refine kO 4 rfl ?_; refine rG (fun _ z => z) ?_) | (refine kO 5 rfl ?_; refine rIdoN rfl rfl rfl rfl rfl rfl rfl rfl (by (dsimp only [SC.len]; omega)) ?_) | (refine kO 7 rfl ?_; refine rG (fun _ z => ⟨_, c, z⟩) ?_) | refine oN ?_ | refine aS ?_ | refine aR ?_ | refine aK ?_ | refine aB ?_ | refine aC rfl ?_ | refine bPt (by omega) ?_ | refine bPf (by omega) ?_ | refine rG (fun _ z => ⟨(by (rfl)), (by (exact lnS (by omega))), z⟩) ?_) <;> (try conv => whnf))
        all_goals first | (exfalso; omega) | (exact absurd rfl h) | (exact ⟨(i + 1, st, l ++ [n]), ⟨⟨hlt, by dsimp only; omega⟩, hz⟩, by dsimp only; omega, canon_auto (by kernel_rfl)⟩)
      | none =>
        rw [hbad hd]
        obtain ⟨v, c⟩ := wNumber_no (d := 7) (by omega) hd
        rw [← hb] at c
        repeat' ((first | refine oP rfl ?_ | refine rP rfl (fun _ z => z) ?_ | (refine kO 1 rfl ?_; refine rG (fun _ z => z) ?_) | (refine kO 2 rfl ?_; refine rG (fun _ z => z) ?_) | (refine kO 3 rfl ?_; refine rLdv rfl rfl rfl rfl rfl rfl (by assumption) ?_) | (refine kO 4 rfl ?_; refine rG (fun _ z => z) ?_) | (refine kO 5 rfl ?_; refine rIdoN rfl rfl rfl rfl rfl rfl rfl rfl (by (dsimp only [SC.len]; omega)) ?_) | (refine kO 7 rfl ?_; refine rG (fun _ z => ⟨_, c, z⟩) ?_) | refine oN ?_ | refine aS ?_ | refine aR ?_ | refine aK ?_ | refine aB ?_ | refine aT ?_ | refine aC rfl ?_ | refine bT ?_ | refine bPt (by omega) ?_) <;> (try conv => whnf))
        all_goals (exact rfl)
  · obtain rfl : i = ws.length := by omega
    rw [List.take_length] at hg
    rw [hg]
    have c3 := checkRecord_sat st l (by unfold maxLen; omega)
    have e : endRec (some (st, l)) = if recErr st l = 0 then ((st, l), 0) else ((0, []), recErr st l) := rfl
    rw [e]
    generalize recErr st l = x at *
    by_cases hx : x = 0
    · rw [if_pos hx]
      repeat' ((first | refine oP rfl ?_ | refine rP rfl (fun _ z => z) ?_ | (refine kO 1 rfl ?_; refine rG (fun _ z => z) ?_) | (refine kO 3 rfl ?_; refine rG (fun _ z => z) ?_) | (refine kO 4 rfl ?_; refine rG (fun _ z => z) ?_) | (refine kO 7 rfl ?_; refine rG (fun _ z => ⟨_, c3, z⟩) ?_) | refine oN ?_ | refine aS ?_ | refine aR ?_ | refine aK ?_ | refine aX ?_ | refine aT ?_ | refine aC rfl ?_ | refine bPf (by omega) ?_) <;> (try conv => whnf))
      all_goals (exact rfl)
    · rw [if_neg hx]
      repeat' ((first | refine oP rfl ?_ | refine rP rfl (fun _ z => z) ?_ | (refine kO 1 rfl ?_; refine rG (fun _ z => z) ?_) | (refine kO 3 rfl ?_; refine rG (fun _ z => z) ?_) | (refine kO 4 rfl ?_; refine rG (fun _ z => z) ?_) | (refine kO 7 rfl ?_; refine rG (fun _ z => ⟨_, c3, z⟩) ?_) | refine oN ?_ | refine aS ?_ | refine aR ?_ | refine aX ?_ | refine aT ?_ | refine aC rfl ?_ | refine bPt (by omega) ?_ | refine bPf (by omega) ?_) <;> (try conv => whnf))
      all_goals (exact rfl)
end Go.Proofs.Tryz

namespace Go.Proofs.Tryz
open Go.Fw Go.IntWalk Go.Plain
set_option maxRecDepth 100000
set_option maxHeartbeats 8000000
end Go.Proofs.Tryz

namespace Go.Proofs.Tryz
open Go.Fw Go.IntWalk Go.Plain
set_option maxRecDepth 100000
set_option maxHeartbeats 8000000
/-- What a string of rules is: rules, or an error. -/
def endRul (o : Option (Int × SpT × List SpT)) : (Int × SpT × List SpT) × Int := match o with
  | some (e, q, ch) => if rulesErr e q ch = 0 then ((e, q, ch), 0) else ((0, (0, 0, 0, 0), []), rulesErr e q ch)
  | none => ((0, (0, 0, 0, 0), []), 7)
abbrev PQ (r : (Int × SpT × List SpT) × Int) : List SV := [Ru r.1.1 r.1.2.1 r.1.2.2, I r.2]
abbrev z4 : SpT := (0, 0, 0, 0)
theorem sp_uni (l : List Sp) (x : Sp) : (SC.view (l.map sp ++ [sp x])).uni 4 := by
  intro e he
  rcases List.mem_append.1 he with he | he
  · obtain ⟨w, _, rfl⟩ := List.mem_map.1 he
    rfl
  · rw [List.mem_singleton] at he; subst he; rfl
theorem wParseRules_sat (s : List UInt8) (hl : s.length ≤ 10000) : Sat cx.P cx.gl 12 [SS s] (.tup (PQ (endRul (rulPre (spl 59 s))))) := by
  obtain ⟨h1, h2⟩ := cutS_spl s 59
  obtain ⟨h3, h4⟩ := spl_len 59 s
  have h5 := spl_ne 59 s
  have c1 := split_sat s 59 (by omega) h2
  rw [h1, show (59 : UInt8).toNat = 59 from rfl] at c1
  generalize spl 59 s = ws at *
  have hn := strs_len ws
  have h6 : 0 < ws.length := List.length_pos_iff.2 h5
  have he0 := strs_at h6
  have hw0 : (ws.getD 0 []).length ≤ 10000 := by
    have := h4 (ws.getD 0 []) (by rw [show ws.getD 0 [] = ws[0] by simp [List.getD_eq_getElem?_getD, h6]]; exact List.getElem_mem h6)
    omega
  cases hd : wN false 4 (ws.getD 0 []) with
  | none =>
    obtain ⟨v, c0⟩ := wNumber_no (d := 4) (by omega) hd
    rw [rulPre_no hd]
    generalize ws.getD 0 [] = w at *
    refine Sat_of_awp (fn := f12) cx_ok (by kernel_rfl) (by kernel_rfl) rfl (by kernel_rfl) (Nat.le_of_ble_eq_true rfl) ?_
    refine aS ?_; (refine aR ?_; conv => whnf); repeat ((first | refine oP rfl ?_ | refine rP rfl (fun _ z => z) ?_ | refine oN ?_); (try conv => whnf))
    refine aS ?_
    refine aS ?_; (refine aR ?_; conv => whnf); repeat ((first | refine oP rfl ?_ | refine rP rfl (fun _ z => z) ?_ | (refine kO 1 rfl ?_; refine rG (fun _ z => z) ?_) | (refine kO 6 rfl ?_; refine rSLen rfl rfl rfl rfl rfl rfl ?_) | refine oN ?_); (try conv => whnf))
    repeat ((first | refine aK ?_ | refine aC rfl ?_ | refine bPf (by omega) ?_); (try conv => whnf))
    refine awp_seqw ?_; (refine aR ?_; conv => whnf); repeat ((first | refine oP rfl ?_ | refine rP rfl (fun _ z => z) ?_ | (refine kO 7 rfl ?_; refine rG (fun _ z => ⟨_, c1, z⟩) ?_) | refine oN ?_); (try conv => whnf))
    refine ⟨_, freeze_sub 6 rfl, ?_⟩
    repeat' ((first | refine oP rfl ?_ | refine rP rfl (fun _ z => z) ?_ | (refine kO 2 rfl ?_; refine rG (fun _ z => z) ?_) | (refine kO 3 rfl ?_; refine rLdv rfl rfl rfl rfl rfl rfl (by assumption) ?_) | (refine kO 4 rfl ?_; refine rG (fun _ z => z) ?_) | (refine kO 5 rfl ?_; refine rIdoN rfl rfl rfl rfl rfl rfl rfl rfl (by (dsimp only [SC.len]; omega)) ?_) | (refine kO 7 rfl ?_; refine rG (fun _ z => ⟨_, c0, z⟩) ?_) | refine oN ?_ | refine aS ?_ | refine aR ?_ | refine aT ?_ | refine aC rfl ?_ | refine bT ?_ | refine oZ rfl rfl rfl ?_) <;> (try conv => whnf))
    all_goals first | (exact rfl) | (exfalso; omega)
  | some n =>
    have c0 := wNumber_ok (d := 4) (by decide) (by omega) hd
    have hsm := fun q ch => rulPre_some (q := q) (ch := ch) hd
    generalize ws.getD 0 [] = w at *
    by_cases h7 : ws.length < 2
    · have e : allO spN (ws.drop 1) = some [] := by rw [List.drop_of_length_le (by omega)]; rfl
      rw [rulPre_nil e]
      refine Sat_of_awp (fn := f12) cx_ok (by kernel_rfl) (by kernel_rfl) rfl (by kernel_rfl) (Nat.le_of_ble_eq_true rfl) ?_
      refine aS ?_; (refine aR ?_; conv => whnf); repeat ((first | refine oP rfl ?_ | refine rP rfl (fun _ z => z) ?_ | refine oN ?_); (try conv => whnf))
      refine aS ?_
      refine aS ?_; (refine aR ?_; conv => whnf); repeat ((first | refine oP rfl ?_ | refine rP rfl (fun _ z => z) ?_ | (refine kO 1 rfl ?_; refine rG (fun _ z => z) ?_) | (refine kO 6 rfl ?_; refine rSLen rfl rfl rfl rfl rfl rfl ?_) | refine oN ?_); (try conv => whnf))
      repeat ((first | refine aK ?_ | refine aC rfl ?_ | refine bPf (by omega) ?_); (try conv => whnf))
      refine awp_seqw ?_; (refine aR ?_; conv => whnf); repeat ((first | refine oP rfl ?_ | refine rP rfl (fun _ z => z) ?_ | (refine kO 7 rfl ?_; refine rG (fun _ z => ⟨_, c1, z⟩) ?_) | refine oN ?_); (try conv => whnf))
      refine ⟨_, freeze_sub 6 rfl, ?_⟩
      repeat' ((first | refine oP rfl ?_ | refine rP rfl (fun _ z => z) ?_ | (refine kO 1 rfl ?_; refine rG (fun _ z => z) ?_) | (refine kO 2 rfl ?_; refine rG (fun _ z => z) ?_) | (refine kO 3 rfl ?_; refine rLdv rfl rfl rfl rfl rfl rfl (by assumption) ?_) | (refine kO 4 rfl ?_; refine rG (fun _ z => z) ?_) | (refine kO 5 rfl ?_; refine rIdoN rfl rfl rfl rfl rfl rfl rfl rfl (by (dsimp only [SC.len]; omega)) ?_) | (refine kO 7 rfl ?_; refine rG (fun _ z => ⟨_, c0, z⟩) ?_) | (refine kO 6 rfl ?_; refine rLenov rfl rfl rfl rfl rfl rfl rfl ?_) | refine oN ?_ | refine aS ?_ | refine aR ?_ | refine aT ?_ | refine aC rfl ?_ | refine bPt (by omega) ?_ | refine oY rfl rfl rfl ?_) <;> (try conv => whnf))
      all_goals (exact rfl)
    · have hps : (strs ws).drop 1 = strs (ws.drop 1) := by simp
      have hpn : ws.length - 1 = (ws.drop 1).length := by simp
      have hpl : (strs (ws.drop 1)).length = (ws.drop 1).length := strs_len _
      have hbd := rulPre_bad (ws := ws)
      have hwl : ∀ w ∈ ws.drop 1, w.length ≤ 10000 := fun w hw => by have := h4 w (List.mem_of_mem_drop hw); omega
      generalize hpd : ws.drop 1 = ps at *
      refine Sat_of_awp (fn := f12) cx_ok (by kernel_rfl) (by kernel_rfl) rfl (by kernel_rfl) (Nat.le_of_ble_eq_true rfl) ?_
      refine aS ?_; (refine aR ?_; conv => whnf); repeat ((first | refine oP rfl ?_ | refine rP rfl (fun _ z => z) ?_ | refine oN ?_); (try conv => whnf))
      refine aS ?_
      refine aS ?_; (refine aR ?_; conv => whnf); repeat ((first | refine oP rfl ?_ | refine rP rfl (fun _ z => z) ?_ | (refine kO 1 rfl ?_; refine rG (fun _ z => z) ?_) | (refine kO 6 rfl ?_; refine rSLen rfl rfl rfl rfl rfl rfl ?_) | refine oN ?_); (try conv => whnf))
      repeat ((first | refine aK ?_ | refine aC rfl ?_ | refine bPf (by omega) ?_); (try conv => whnf))
      refine awp_seqw ?_; (refine aR ?_; conv => whnf); repeat ((first | refine oP rfl ?_ | refine rP rfl (fun _ z => z) ?_ | (refine kO 7 rfl ?_; refine rG (fun _ z => ⟨_, c1, z⟩) ?_) | refine oN ?_); (try conv => whnf))
      refine ⟨_, freeze_sub 6 rfl, ?_⟩
      repeat ((first | refine oP rfl ?_ | refine rP rfl (fun _ z => z) ?_ | (refine kO 1 rfl ?_; refine rG (fun _ z => z) ?_) | (refine kO 2 rfl ?_; refine rG (fun _ z => z) ?_) | (refine kO 3 rfl ?_; refine rLdv rfl rfl rfl rfl rfl rfl (by assumption) ?_) | (refine kO 4 rfl ?_; refine rG (fun _ z => z) ?_) | (refine kO 5 rfl ?_; refine rIdoN rfl rfl rfl rfl rfl rfl rfl rfl (by (dsimp only [SC.len]; omega)) ?_) | (refine kO 7 rfl ?_; refine rG (fun _ z => ⟨_, c0, z⟩) ?_) | (refine kO 6 rfl ?_; first | refine rLenv rfl rfl rfl rfl rfl rfl ?_ | refine rLenov rfl rfl rfl rfl rfl rfl rfl ?_) | (refine kO 8 rfl ?_; refine rVOlL rfl rfl rfl rfl rfl rfl rfl rfl (by omega) ?_) | refine oN ?_ | refine aS ?_ | refine aR ?_ | refine aK ?_ | refine aB ?_ | refine aC rfl ?_ | refine bPf (by omega) ?_ | refine aL ?_ | refine oY rfl rfl rfl ?_); (try conv => whnf))
      refine loop_ind (ι := Nat × List Sp) (fun p => (p.1 ≤ ps.length ∧ p.2.length = p.1) ∧ allO spN (ps.take p.1) = some p.2) (fun p => ps.length - p.1)
        (fun p => ⟨[(2, pP 0), (7, pP 1), (37, some (.val (false, [.st (.view (strs ps))]))), (38, vI ps.length), (39, vI p.1)], [(0, some (.box 28 [.st (J 0), .st (J 0), .st (J 0), .st (J 0), .st (J 0), .nil])), (1, some (.box 28 [.st (J n), .st (J (p.2.getD 0 z4).1), .st (J (p.2.getD 0 z4).2.1), .st (J (p.2.getD 0 z4).2.2.1), .st (J (p.2.getD 0 z4).2.2.2), .own 2])), (2, some (.row true 4 (.view ((p.2.drop 1).map sp))))], 3⟩)
        (0, []) (by
          refine Sub.trans (nilb_sub 26 5 4 (.view []) (T := 28) (cs := [.st (J n), .st (J 0), .st (J 0), .st (J 0), .st (J 0), .nil]) (by decide) rfl rfl rfl rfl) ?_
          exact canon_auto (by rw [← hpl]; kernel_rfl)) ⟨⟨Nat.zero_le _, rfl⟩, rfl⟩ ?_
      rintro ⟨i, qs⟩ ⟨⟨hi, ha⟩, hg⟩
      dsimp only at hi ha hg ⊢
      by_cases hlt : i < ps.length
      · have he := strs_at hlt
        have hwl : (ps.getD i []).length ≤ 10000 := hwl _ (by rw [show ps.getD i [] = ps[i] by simp [List.getD_eq_getElem?_getD, hlt]]; exact List.getElem_mem hlt)
        have hz := fun n => allO_snoc hlt hg (n := n)
        have hbad := allO_bad (f := spN) hlt
        generalize ps.getD i [] = x at *
        obtain ⟨q, c, k⟩ := wParseSp_any x (by omega)
        cases hx : spN x with
        | some p =>
          have hpq := k p hx
          subst hpq
          have hz := hz _ hx
          rw [hx, Option.isSome_some] at c
          by_cases h0 : i = 0
          · have hl0 : qs = [] := List.eq_nil_of_length_eq_zero (by omega)
            subst hl0
            repeat' ((first | refine oP rfl ?_ | refine rP rfl (fun _ z => z) ?_ | (refine kO 1 rfl ?_; first | refine rAdd rfl rfl rfl (by omega) ?_ | refine rG (fun _ z => z) ?_) | (refine kO 2 rfl ?_; refine rG (fun _ z => z) ?_) | (refine kO 3 rfl ?_; first | refine rLdr rfl rfl rfl rfl rfl ?_ | refine rG (fun _ z => z) ?_) | (refine kO 4 rfl ?_; refine rG (fun _ z => z) ?_) | (refine kO 5 rfl ?_; refine rIdvN rfl rfl rfl rfl rfl rfl (by assumption) rfl ?_) | (refine kO 7 rfl ?_; refine rG (fun _ z => ⟨_, c, z⟩) ?_) | refine oN ?_ | refine aS ?_ | refine aR ?_ | refine aK ?_ | refine aX ?_ | refine aB ?_ | refine aC rfl ?_ | refine bF ?_ | refine bPt (by omega) ?_) <;> (try conv => whnf))
            all_goals (exact ⟨(i + 1, [p]), ⟨⟨hlt, by dsimp only [List.length_cons, List.length_nil]; omega⟩, hz⟩, by dsimp only; omega, canon_auto (by kernel_rfl)⟩)
          · have e1 : (qs ++ [p]).getD 0 z4 = qs.getD 0 z4 := by
              cases qs with
              | nil => simp at ha; omega
              | cons a b => rfl
            have e2 : ((qs ++ [p]).drop 1).map sp = (qs.drop 1).map sp ++ [sp p] := by
              cases qs with
              | nil => simp at ha; omega
              | cons a b => simp
            have hap : (qs ++ [p]).length = qs.length + 1 := by simp
            have hcl : ((qs.drop 1).map sp).length = qs.length - 1 := by simp
            have u := sp_uni (qs.drop 1) p
            generalize hC : (qs.drop 1).map sp = C at *
            generalize hQ : qs.getD 0 z4 = Q at *
            have hcl2 : (C ++ [sp p]).length = C.length + 1 := by simp
            repeat' ((first | refine oP rfl ?_ | refine rP rfl (fun _ z => z) ?_ | (refine kO 1 rfl ?_; first | refine rAdd rfl rfl rfl (by omega) ?_ | refine rG (fun _ z => z) ?_) | (refine kO 2 rfl ?_; refine rG (fun _ z => z) ?_) | (refine kO 3 rfl ?_; first | refine rLdr rfl rfl rfl rfl rfl ?_ | refine rLdb rfl rfl rfl rfl rfl rfl rfl ?_ | refine rG (fun _ z => z) ?_) | (refine kO 4 rfl ?_; refine rG (fun _ z => z) ?_) | (refine kO 5 rfl ?_; refine rIdvN rfl rfl rfl rfl rfl rfl (by assumption) rfl ?_) | (refine kO 7 rfl ?_; refine rG (fun _ z => ⟨_, c, z⟩) ?_) | refine oN ?_ | refine aS ?_ | refine aR ?_ | refine aK ?_ | refine aB ?_ | refine aC rfl ?_ | refine bF ?_ | refine bPt (by omega) ?_ | refine bPf (by omega) ?_ | refine rG (fun _ z => ⟨(by (exact uvS rfl)), (by (exact lvS (by omega))), z⟩) ?_) <;> (try conv => whnf))
            all_goals first | (exfalso; omega) | (exact absurd rfl h) | (exact ⟨(i + 1, qs ++ [p]), ⟨⟨hlt, by dsimp only; omega⟩, hz⟩, by dsimp only; omega, canon_auto (by dsimp only; rw [e1, e2]; kernel_rfl)⟩)
        | none =>
          rw [hbd (hbad hx)]
          rw [hx, Option.isSome_none] at c
          repeat' ((first | refine oP rfl ?_ | refine rP rfl (fun _ z => z) ?_ | (refine kO 1 rfl ?_; refine rG (fun _ z => z) ?_) | (refine kO 2 rfl ?_; refine rG (fun _ z => z) ?_) | (refine kO 3 rfl ?_; refine rLdr rfl rfl rfl rfl rfl ?_) | (refine kO 4 rfl ?_; refine rG (fun _ z => z) ?_) | (refine kO 5 rfl ?_; refine rIdvN rfl rfl rfl rfl rfl rfl (by assumption) rfl ?_) | (refine kO 7 rfl ?_; refine rG (fun _ z => ⟨_, c, z⟩) ?_) | refine oN ?_ | refine aS ?_ | refine aR ?_ | refine aK ?_ | refine aB ?_ | refine aT ?_ | refine aC rfl ?_ | refine bT ?_ | refine bPt (by omega) ?_) <;> (try conv => whnf))
          all_goals (exact rfl)
      · obtain rfl : i = ps.length := by omega
        rw [List.take_length] at hg
        match qs, ha, hg with
        | [], ha, hg => exfalso; simp at ha; omega
        | q :: ch, ha, hg =>
          rw [hsm q ch hg]
          have hin := allO_all (P := SpI) (fun s x => spN_in) hg
          have c3 := checkRules_sat n q ch (hin q (by simp)) (fun s hs => hin s (by simp [hs])) (by simp at ha; omega)
          have e : endRul (some (n, q, ch)) = if rulesErr n q ch = 0 then ((n, q, ch), 0) else ((0, (0, 0, 0, 0), []), rulesErr n q ch) := rfl
          rw [e]
          generalize rulesErr n q ch = x at *
          by_cases hx : x = 0
          · rw [if_pos hx]
            repeat' ((first | refine oP rfl ?_ | refine rP rfl (fun _ z => z) ?_ | (refine kO 1 rfl ?_; refine rG (fun _ z => z) ?_) | (refine kO 3 rfl ?_; refine rG (fun _ z => z) ?_) | (refine kO 4 rfl ?_; refine rG (fun _ z => z) ?_) | (refine kO 7 rfl ?_; refine rG (fun _ z => ⟨_, c3, z⟩) ?_) | refine oN ?_ | refine aS ?_ | refine aR ?_ | refine aK ?_ | refine aX ?_ | refine aT ?_ | refine aC rfl ?_ | refine bPf (by omega) ?_) <;> (try conv => whnf))
            all_goals (exact rfl)
          · rw [if_neg hx]
            repeat' ((first | refine oP rfl ?_ | refine rP rfl (fun _ z => z) ?_ | (refine kO 1 rfl ?_; refine rG (fun _ z => z) ?_) | (refine kO 3 rfl ?_; refine rG (fun _ z => z) ?_) | (refine kO 4 rfl ?_; refine rG (fun _ z => z) ?_) | (refine kO 7 rfl ?_; refine rG (fun _ z => ⟨_, c3, z⟩) ?_) | refine oN ?_ | refine aS ?_ | refine aR ?_ | refine aX ?_ | refine aT ?_ | refine aC rfl ?_ | refine bPt (by omega) ?_ | refine bPf (by omega) ?_) <;> (try conv => whnf))
            all_goals (exact rfl)
end Go.Proofs.Tryz

namespace Go.Proofs.Tryz
open Go.Fw Go.IntWalk Go.Plain
set_option maxRecDepth 100000
set_option maxHeartbeats 8000000
theorem drop1_getD {ws : List (List UInt8)} {i : Nat} (h : 1 ≤ i) : (ws.drop 1).getD (i - 1) [] = ws.getD i [] := by
  simp only [List.getD_eq_getElem?_getD, List.getElem?_drop]
  rw [show 1 + (i - 1) = i by omega]
end Go.Proofs.Tryz

namespace Go.Proofs.Tryz
open Go.Fw Go.IntWalk Go.Plain
set_option maxRecDepth 100000
set_option maxHeartbeats 8000000
theorem sameRecord_sat (st : Int) (l : List Int) (hl : l.length ≤ maxLen) : Sat cx.P cx.gl 17 [Rc st l, Rc st l] (.one (Bo true)) := by
  have c := ints_sat l l hl
  rw [decide_eq_true rfl] at c
  refine Sat_of_awp (fn := f17) cx_ok (by kernel_rfl) (by kernel_rfl) rfl (by kernel_rfl) (Nat.le_of_ble_eq_true rfl) ?_
  repeat' ((first | refine oP rfl ?_ | refine rP rfl (fun _ z => z) ?_ | (refine kO 1 rfl ?_; first | refine rAdd rfl rfl rfl (by omega) ?_ | refine rSub rfl rfl rfl (by omega) ?_ | refine rMul rfl rfl rfl (by omega) ?_ | refine rQuo rfl rfl rfl (by omega) ?_ | refine rRem rfl rfl rfl (by omega) ?_ | refine rQuo' rfl rfl rfl (by omega) ?_ | refine rRem' rfl rfl rfl (by omega) ?_ | refine rG (fun _ z => z) ?_) | (refine kO 2 rfl ?_; first | refine rNeg rfl rfl (by omega) ?_ | refine rG (fun _ z => z) ?_) | (refine kO 3 rfl ?_; first | refine rLdr rfl rfl rfl rfl rfl ?_ | refine rLdb rfl rfl rfl rfl rfl rfl rfl ?_ | refine rLdi rfl rfl rfl rfl rfl rfl (by first | omega | decide | exact Nat.le_of_ble_eq_true rfl | (dsimp only [SC.len]; omega) | (simp; done) | (simp; omega) | omega) ?_ | refine rG (fun _ z => z) ?_ | refine rG (fun _ z => ⟨_, rfl, z⟩) ?_) | (refine kO 4 rfl ?_; first | refine rSti rfl rfl rfl rfl rfl rfl (by first | omega | decide | exact Nat.le_of_ble_eq_true rfl | (dsimp only [SC.len]; omega) | (simp; done) | (simp; omega) | omega) ?_ | refine rG (fun _ z => z) ?_) | (refine kO 5 rfl ?_; first | refine rIdN rfl rfl rfl rfl rfl rfl rfl (by first | omega | decide | exact Nat.le_of_ble_eq_true rfl | (dsimp only [SC.len]; omega) | (simp; done) | (simp; omega) | omega) ?_ | refine rIdx rfl rfl rfl rfl rfl rfl rfl (by first | omega | decide | exact Nat.le_of_ble_eq_true rfl | (dsimp only [SC.len]; omega) | (simp; done) | (simp; omega) | omega) ?_ | refine rIdoN rfl rfl rfl rfl rfl rfl rfl rfl (by first | omega | decide | exact Nat.le_of_ble_eq_true rfl | (dsimp only [SC.len]; omega) | (simp; done) | (simp; omega) | omega) ?_ | refine rIdo rfl rfl rfl rfl rfl rfl rfl rfl (by first | omega | decide | exact Nat.le_of_ble_eq_true rfl | (dsimp only [SC.len]; omega) | (simp; done) | (simp; omega) | omega) ?_ | refine rIdvN rfl rfl rfl rfl rfl rfl (by first | assumption | rfl) rfl ?_) | (refine kO 7 rfl ?_; first | refine rG (fun _ z => ⟨_, c, z⟩) ?_) | (refine kO 6 rfl ?_; first | refine rLen rfl rfl rfl rfl rfl rfl ?_ | refine rLenv rfl rfl rfl rfl rfl rfl ?_ | refine rLeno rfl rfl rfl rfl rfl rfl rfl ?_ | refine rLenov rfl rfl rfl rfl rfl rfl rfl ?_ | refine rG (fun _ z => z) ?_) | (refine kO 8 rfl ?_; first | refine rSlH rfl rfl rfl rfl rfl rfl rfl (by omega) ?_ | refine rSlL rfl rfl rfl rfl rfl rfl rfl (by omega) ?_ | refine rG (fun _ z => z) ?_) | refine oN ?_ | refine aS ?_ | refine aR ?_ | refine aK ?_ | refine aX ?_ | refine aB ?_ | refine aT ?_ | refine aC rfl ?_ | refine bT ?_ | refine bF ?_ | refine bPt (by omega) ?_ | refine bPf (by omega) ?_ | refine aL ?_ | refine aE ?_ | refine oY rfl rfl rfl ?_ | refine oZ rfl rfl rfl ?_ | refine oO rfl rfl rfl ?_ | refine oIt rfl rfl rfl (by omega) ?_ | refine oIf rfl rfl rfl (by omega) ?_ | refine oUt rfl rfl rfl (by omega) ?_ | refine oUf rfl rfl rfl (by omega) ?_ | refine dI (by kernel_rfl) ?_ | refine rG (fun _ z => ⟨(by (first | omega | decide | rfl | exact lnS (by omega) | exact lnN (by decide) | exact lnN (by omega) | exact lnC (by omega) | exact lvS (by omega) | exact lvN (by decide) | exact lvC (by omega) | exact uvS rfl | exact uvN rfl | ((try unfold SC.len); (try unfold SC.uni); (try unfold LIM); (try simp); (try omega); done) | omega)), z⟩) ?_ | refine rG (fun _ z => ⟨(by (first | omega | decide | rfl | exact lnS (by omega) | exact lnN (by decide) | exact lnN (by omega) | exact lnC (by omega) | exact lvS (by omega) | exact lvN (by decide) | exact lvC (by omega) | exact uvS rfl | exact uvN rfl | ((try unfold SC.len); (try unfold SC.uni); (try unfold LIM); (try simp); (try omega); done) | omega)), (by (first | omega | decide | rfl | exact lnS (by omega) | exact lnN (by decide) | exact lnN (by omega) | exact lnC (by omega) | exact lvS (by omega) | exact lvN (by decide) | exact lvC (by omega) | exact uvS rfl | exact uvN rfl | ((try unfold SC.len); (try unfold SC.uni); (try unfold LIM); (try simp); (try omega); done) | omega)), z⟩) ?_ | refine brp (fun h => ?_) (fun h => ?_) | refine opsA_ifp rfl rfl rfl (fun h => ?_) (fun h => ?_) | refine opsA_unlessp rfl rfl rfl (fun h => ?_) (fun h => ?_)) <;> (try conv => whnf))
  all_goals first | (exact rfl) | (exact absurd rfl (by assumption)) | trace_state
theorem sameRules_sat (e : Int) (q : Sp) (ch : List Sp) (hl : ch.length ≤ maxLen) : Sat cx.P cx.gl 16 [Ru e q ch, Ru e q ch] (.one (Bo true)) := by
  unfold maxLen at hl
  have hlen : (ch.map sp).length = ch.length := List.length_map ..
  obtain ⟨q1, q2, q3, q4⟩ := q
  refine Sat_of_awp (fn := f16) cx_ok (by kernel_rfl) (by kernel_rfl) rfl (by kernel_rfl) (Nat.le_of_ble_eq_true rfl) ?_
  repeat ((first | refine oP rfl ?_ | refine rP rfl (fun _ z => z) ?_ | (refine kO 1 rfl ?_; first | refine rAdd rfl rfl rfl (by omega) ?_ | refine rSub rfl rfl rfl (by omega) ?_ | refine rMul rfl rfl rfl (by omega) ?_ | refine rQuo rfl rfl rfl (by omega) ?_ | refine rRem rfl rfl rfl (by omega) ?_ | refine rQuo' rfl rfl rfl (by omega) ?_ | refine rRem' rfl rfl rfl (by omega) ?_ | refine rG (fun _ z => z) ?_) | (refine kO 2 rfl ?_; first | refine rNeg rfl rfl (by omega) ?_ | refine rG (fun _ z => z) ?_) | (refine kO 3 rfl ?_; first | refine rLdr rfl rfl rfl rfl rfl ?_ | refine rLdb rfl rfl rfl rfl rfl rfl rfl ?_ | refine rLdi rfl rfl rfl rfl rfl rfl (by first | omega | decide | exact Nat.le_of_ble_eq_true rfl | (dsimp only [SC.len]; omega) | (simp; done) | (simp; omega) | omega) ?_ | refine rG (fun _ z => z) ?_ | refine rG (fun _ z => ⟨_, rfl, z⟩) ?_) | (refine kO 4 rfl ?_; first | refine rSti rfl rfl rfl rfl rfl rfl (by first | omega | decide | exact Nat.le_of_ble_eq_true rfl | (dsimp only [SC.len]; omega) | (simp; done) | (simp; omega) | omega) ?_ | refine rG (fun _ z => z) ?_) | (refine kO 5 rfl ?_; first | refine rIdN rfl rfl rfl rfl rfl rfl rfl (by first | omega | decide | exact Nat.le_of_ble_eq_true rfl | (dsimp only [SC.len]; omega) | (simp; done) | (simp; omega) | omega) ?_ | refine rIdx rfl rfl rfl rfl rfl rfl rfl (by first | omega | decide | exact Nat.le_of_ble_eq_true rfl | (dsimp only [SC.len]; omega) | (simp; done) | (simp; omega) | omega) ?_ | refine rIdoN rfl rfl rfl rfl rfl rfl rfl rfl (by first | omega | decide | exact Nat.le_of_ble_eq_true rfl | (dsimp only [SC.len]; omega) | (simp; done) | (simp; omega) | omega) ?_ | refine rIdo rfl rfl rfl rfl rfl rfl rfl rfl (by first | omega | decide | exact Nat.le_of_ble_eq_true rfl | (dsimp only [SC.len]; omega) | (simp; done) | (simp; omega) | omega) ?_ | refine rIdvN rfl rfl rfl rfl rfl rfl (by first | assumption | rfl) rfl ?_) | (refine kO 6 rfl ?_; first | refine rLen rfl rfl rfl rfl rfl rfl ?_ | refine rLenv rfl rfl rfl rfl rfl rfl ?_ | refine rLeno rfl rfl rfl rfl rfl rfl rfl ?_ | refine rLenov rfl rfl rfl rfl rfl rfl rfl ?_ | refine rG (fun _ z => z) ?_) | (refine kO 8 rfl ?_; first | refine rSlH rfl rfl rfl rfl rfl rfl rfl (by omega) ?_ | refine rSlL rfl rfl rfl rfl rfl rfl rfl (by omega) ?_ | refine rG (fun _ z => z) ?_) | refine oN ?_ | refine aS ?_ | refine aR ?_ | refine aK ?_ | refine aX ?_ | refine aB ?_ | refine aT ?_ | refine aC rfl ?_ | refine bT ?_ | refine bF ?_ | refine bPt (by omega) ?_ | refine bPf (by omega) ?_ | refine aL ?_ | refine aE ?_ | refine oY rfl rfl rfl ?_ | refine oZ rfl rfl rfl ?_ | refine oO rfl rfl rfl ?_ | refine oIt rfl rfl rfl (by omega) ?_ | refine oIf rfl rfl rfl (by omega) ?_ | refine oUt rfl rfl rfl (by omega) ?_ | refine oUf rfl rfl rfl (by omega) ?_ | refine dI (by kernel_rfl) ?_ | refine rG (fun _ z => ⟨(by (first | omega | decide | rfl | exact lnS (by omega) | exact lnN (by decide) | exact lnN (by omega) | exact lnC (by omega) | exact lvS (by omega) | exact lvN (by decide) | exact lvC (by omega) | exact uvS rfl | exact uvN rfl | ((try unfold SC.len); (try unfold SC.uni); (try unfold LIM); (try simp); (try omega); done) | omega)), z⟩) ?_ | refine rG (fun _ z => ⟨(by (first | omega | decide | rfl | exact lnS (by omega) | exact lnN (by decide) | exact lnN (by omega) | exact lnC (by omega) | exact lvS (by omega) | exact lvN (by decide) | exact lvC (by omega) | exact uvS rfl | exact uvN rfl | ((try unfold SC.len); (try unfold SC.uni); (try unfold LIM); (try simp); (try omega); done) | omega)), (by (first | omega | decide | rfl | exact lnS (by omega) | exact lnN (by decide) | exact lnN (by omega) | exact lnC (by omega) | exact lvS (by omega) | exact lvN (by decide) | exact lvC (by omega) | exact uvS rfl | exact uvN rfl | ((try unfold SC.len); (try unfold SC.uni); (try unfold LIM); (try simp); (try omega); done) | omega)), z⟩) ?_); (try conv => whnf))
  refine loop_ind (ι := Nat) (fun i => i ≤ ch.length) (fun i => ch.length - i) (fun i => ⟨[(2, pP 0), (3, pP 1), (5, vI i)], [(0, some (.box 28 [.st (J e), .st (J q1), .st (J q2), .st (J q3), .st (J q4), .st (.view (ch.map sp))])), (1, some (.box 28 [.st (J e), .st (J q1), .st (J q2), .st (J q3), .st (J q4), .st (.view (ch.map sp))]))], 2⟩) 0 (canon_auto (by kernel_rfl)) (Nat.zero_le _) ?_
  intro i hi
  by_cases hlt : i < ch.length
  · have hget := sp_get hlt
    generalize ch.getD i (0, 0, 0, 0) = s at *
    obtain ⟨s1, s2, s3, s4⟩ := s
    repeat' ((first | refine oP rfl ?_ | refine rP rfl (fun _ z => z) ?_ | (refine kO 1 rfl ?_; first | refine rAdd rfl rfl rfl (by omega) ?_ | refine rSub rfl rfl rfl (by omega) ?_ | refine rMul rfl rfl rfl (by omega) ?_ | refine rQuo rfl rfl rfl (by omega) ?_ | refine rRem rfl rfl rfl (by omega) ?_ | refine rQuo' rfl rfl rfl (by omega) ?_ | refine rRem' rfl rfl rfl (by omega) ?_ | refine rG (fun _ z => z) ?_) | (refine kO 2 rfl ?_; first | refine rNeg rfl rfl (by omega) ?_ | refine rG (fun _ z => z) ?_) | (refine kO 3 rfl ?_; first | refine rLdr rfl rfl rfl rfl rfl ?_ | refine rLdb rfl rfl rfl rfl rfl rfl rfl ?_ | refine rLdi rfl rfl rfl rfl rfl rfl (by first | omega | decide | exact Nat.le_of_ble_eq_true rfl | (dsimp only [SC.len]; omega) | (simp; done) | (simp; omega) | omega) ?_ | refine rG (fun _ z => z) ?_ | refine rG (fun _ z => ⟨_, rfl, z⟩) ?_) | (refine kO 4 rfl ?_; first | refine rSti rfl rfl rfl rfl rfl rfl (by first | omega | decide | exact Nat.le_of_ble_eq_true rfl | (dsimp only [SC.len]; omega) | (simp; done) | (simp; omega) | omega) ?_ | refine rG (fun _ z => z) ?_) | (refine kO 5 rfl ?_; first | refine rIdN rfl rfl rfl rfl rfl rfl rfl (by first | omega | decide | exact Nat.le_of_ble_eq_true rfl | (dsimp only [SC.len]; omega) | (simp; done) | (simp; omega) | omega) ?_ | refine rIdx rfl rfl rfl rfl rfl rfl rfl (by first | omega | decide | exact Nat.le_of_ble_eq_true rfl | (dsimp only [SC.len]; omega) | (simp; done) | (simp; omega) | omega) ?_ | refine rIdoN rfl rfl rfl rfl rfl rfl rfl rfl (by first | omega | decide | exact Nat.le_of_ble_eq_true rfl | (dsimp only [SC.len]; omega) | (simp; done) | (simp; omega) | omega) ?_ | refine rIdo rfl rfl rfl rfl rfl rfl rfl rfl (by first | omega | decide | exact Nat.le_of_ble_eq_true rfl | (dsimp only [SC.len]; omega) | (simp; done) | (simp; omega) | omega) ?_ | refine rIdvN rfl rfl rfl rfl rfl rfl (by first | assumption | rfl) rfl ?_) | (refine kO 6 rfl ?_; first | refine rLen rfl rfl rfl rfl rfl rfl ?_ | refine rLenv rfl rfl rfl rfl rfl rfl ?_ | refine rLeno rfl rfl rfl rfl rfl rfl rfl ?_ | refine rLenov rfl rfl rfl rfl rfl rfl rfl ?_ | refine rG (fun _ z => z) ?_) | (refine kO 8 rfl ?_; first | refine rSlH rfl rfl rfl rfl rfl rfl rfl (by omega) ?_ | refine rSlL rfl rfl rfl rfl rfl rfl rfl (by omega) ?_ | refine rG (fun _ z => z) ?_) | refine oN ?_ | refine aS ?_ | refine aR ?_ | refine aK ?_ | refine aX ?_ | refine aB ?_ | refine aT ?_ | refine aC rfl ?_ | refine bT ?_ | refine bF ?_ | refine bPt (by omega) ?_ | refine bPf (by omega) ?_ | refine aL ?_ | refine aE ?_ | refine oY rfl rfl rfl ?_ | refine oZ rfl rfl rfl ?_ | refine oO rfl rfl rfl ?_ | refine oIt rfl rfl rfl (by omega) ?_ | refine oIf rfl rfl rfl (by omega) ?_ | refine oUt rfl rfl rfl (by omega) ?_ | refine oUf rfl rfl rfl (by omega) ?_ | refine dI (by kernel_rfl) ?_ | refine rG (fun _ z => ⟨(by (first | omega | decide | rfl | exact lnS (by omega) | exact lnN (by decide) | exact lnN (by omega) | exact lnC (by omega) | exact lvS (by omega) | exact lvN (by decide) | exact lvC (by omega) | exact uvS rfl | exact uvN rfl | ((try unfold SC.len); (try unfold SC.uni); (try unfold LIM); (try simp); (try omega); done) | omega)), z⟩) ?_ | refine rG (fun _ z => ⟨(by (first | omega | decide | rfl | exact lnS (by omega) | exact lnN (by decide) | exact lnN (by omega) | exact lnC (by omega) | exact lvS (by omega) | exact lvN (by decide) | exact lvC (by omega) | exact uvS rfl | exact uvN rfl | ((try unfold SC.len); (try unfold SC.uni); (try unfold LIM); (try simp); (try omega); done) | omega)), (by (first | omega | decide | rfl | exact lnS (by omega) | exact lnN (by decide) | exact lnN (by omega) | exact lnC (by omega) | exact lvS (by omega) | exact lvN (by decide) | exact lvC (by omega) | exact uvS rfl | exact uvN rfl | ((try unfold SC.len); (try unfold SC.uni); (try unfold LIM); (try simp); (try omega); done) | omega)), z⟩) ?_ | refine brp (fun h => ?_) (fun h => ?_) | refine opsA_ifp rfl rfl rfl (fun h => ?_) (fun h => ?_) | refine opsA_unlessp rfl rfl rfl (fun h => ?_) (fun h => ?_)) <;> (try conv => whnf))
    all_goals first | (exact ⟨i + 1, hlt, by omega, canon_auto (by kernel_rfl)⟩) | (exact absurd rfl (by assumption)) | (exfalso; omega) | trace_state
  · obtain rfl : i = ch.length := by omega
    repeat ((first | refine oP rfl ?_ | refine rP rfl (fun _ z => z) ?_ | (refine kO 1 rfl ?_; first | refine rAdd rfl rfl rfl (by omega) ?_ | refine rSub rfl rfl rfl (by omega) ?_ | refine rMul rfl rfl rfl (by omega) ?_ | refine rQuo rfl rfl rfl (by omega) ?_ | refine rRem rfl rfl rfl (by omega) ?_ | refine rQuo' rfl rfl rfl (by omega) ?_ | refine rRem' rfl rfl rfl (by omega) ?_ | refine rG (fun _ z => z) ?_) | (refine kO 2 rfl ?_; first | refine rNeg rfl rfl (by omega) ?_ | refine rG (fun _ z => z) ?_) | (refine kO 3 rfl ?_; first | refine rLdr rfl rfl rfl rfl rfl ?_ | refine rLdb rfl rfl rfl rfl rfl rfl rfl ?_ | refine rLdi rfl rfl rfl rfl rfl rfl (by first | omega | decide | exact Nat.le_of_ble_eq_true rfl | (dsimp only [SC.len]; omega) | (simp; done) | (simp; omega) | omega) ?_ | refine rG (fun _ z => z) ?_ | refine rG (fun _ z => ⟨_, rfl, z⟩) ?_) | (refine kO 4 rfl ?_; first | refine rSti rfl rfl rfl rfl rfl rfl (by first | omega | decide | exact Nat.le_of_ble_eq_true rfl | (dsimp only [SC.len]; omega) | (simp; done) | (simp; omega) | omega) ?_ | refine rG (fun _ z => z) ?_) | (refine kO 5 rfl ?_; first | refine rIdN rfl rfl rfl rfl rfl rfl rfl (by first | omega | decide | exact Nat.le_of_ble_eq_true rfl | (dsimp only [SC.len]; omega) | (simp; done) | (simp; omega) | omega) ?_ | refine rIdx rfl rfl rfl rfl rfl rfl rfl (by first | omega | decide | exact Nat.le_of_ble_eq_true rfl | (dsimp only [SC.len]; omega) | (simp; done) | (simp; omega) | omega) ?_ | refine rIdoN rfl rfl rfl rfl rfl rfl rfl rfl (by first | omega | decide | exact Nat.le_of_ble_eq_true rfl | (dsimp only [SC.len]; omega) | (simp; done) | (simp; omega) | omega) ?_ | refine rIdo rfl rfl rfl rfl rfl rfl rfl rfl (by first | omega | decide | exact Nat.le_of_ble_eq_true rfl | (dsimp only [SC.len]; omega) | (simp; done) | (simp; omega) | omega) ?_ | refine rIdvN rfl rfl rfl rfl rfl rfl (by first | assumption | rfl) rfl ?_) | (refine kO 6 rfl ?_; first | refine rLen rfl rfl rfl rfl rfl rfl ?_ | refine rLenv rfl rfl rfl rfl rfl rfl ?_ | refine rLeno rfl rfl rfl rfl rfl rfl rfl ?_ | refine rLenov rfl rfl rfl rfl rfl rfl rfl ?_ | refine rG (fun _ z => z) ?_) | (refine kO 8 rfl ?_; first | refine rSlH rfl rfl rfl rfl rfl rfl rfl (by omega) ?_ | refine rSlL rfl rfl rfl rfl rfl rfl rfl (by omega) ?_ | refine rG (fun _ z => z) ?_) | refine oN ?_ | refine aS ?_ | refine aR ?_ | refine aK ?_ | refine aX ?_ | refine aB ?_ | refine aT ?_ | refine aC rfl ?_ | refine bT ?_ | refine bF ?_ | refine bPt (by omega) ?_ | refine bPf (by omega) ?_ | refine aL ?_ | refine aE ?_ | refine oY rfl rfl rfl ?_ | refine oZ rfl rfl rfl ?_ | refine oO rfl rfl rfl ?_ | refine oIt rfl rfl rfl (by omega) ?_ | refine oIf rfl rfl rfl (by omega) ?_ | refine oUt rfl rfl rfl (by omega) ?_ | refine oUf rfl rfl rfl (by omega) ?_ | refine dI (by kernel_rfl) ?_ | refine rG (fun _ z => ⟨(by (first | omega | decide | rfl | exact lnS (by omega) | exact lnN (by decide) | exact lnN (by omega) | exact lnC (by omega) | exact lvS (by omega) | exact lvN (by decide) | exact lvC (by omega) | exact uvS rfl | exact uvN rfl | ((try unfold SC.len); (try unfold SC.uni); (try unfold LIM); (try simp); (try omega); done) | omega)), z⟩) ?_ | refine rG (fun _ z => ⟨(by (first | omega | decide | rfl | exact lnS (by omega) | exact lnN (by decide) | exact lnN (by omega) | exact lnC (by omega) | exact lvS (by omega) | exact lvN (by decide) | exact lvC (by omega) | exact uvS rfl | exact uvN rfl | ((try unfold SC.len); (try unfold SC.uni); (try unfold LIM); (try simp); (try omega); done) | omega)), (by (first | omega | decide | rfl | exact lnS (by omega) | exact lnN (by decide) | exact lnN (by omega) | exact lnC (by omega) | exact lvS (by omega) | exact lvN (by decide) | exact lvC (by omega) | exact uvS rfl | exact uvN rfl | ((try unfold SC.len); (try unfold SC.uni); (try unfold LIM); (try simp); (try omega); done) | omega)), z⟩) ?_); (try conv => whnf))
    (first | done | rfl)
end Go.Proofs.Tryz

namespace Go.Proofs.Tryz
open Go.Fw Go.IntWalk Go.Plain
set_option maxRecDepth 100000
set_option maxHeartbeats 8000000
theorem facErr_q4 {q : Sp} (h : facErr q = 0) : q4 q := by
  unfold facErr at h
  unfold q4
  split at h
  · rename_i h1
    split at h
    · rename_i h2
      omega
    · omega
  · omega
theorem recErr_back {st : Int} {l : List Int} (h : recErr st l = 0) : recPre (spl 32 (fmtRec st l)) = some (st, l) := by
  unfold recErr at h
  split at h
  · rename_i h1
    split at h
    · split at h
      · split at h
        · rename_i h4
          exact rec_back (by omega) fun n hn => by have := h4 n hn; omega
        · omega
      · omega
    · omega
  · omega
theorem rulesErr_back {e : Int} {q : Sp} {ch : List Sp} (h : rulesErr e q ch = 0) : rulPre (spl 59 (fmtRul e q ch)) = some (e, q, ch) := by
  obtain ⟨h1, h2, h3, h4⟩ := rulesErr_zero h
  refine rul_back (by omega) fun s hs => ?_
  rcases List.mem_cons.1 hs with rfl | hs
  · exact facErr_q4 h2
  · exact facErr_q4 (h4 s hs)
end Go.Proofs.Tryz
