/- The plain law of InternSame: what the printed functions answer is true. -/
import Derived.Test.YtbhfenpccccloaaPC02
import Derived.Test.YtbhfenpccccloaaF10
namespace Go.Proofs.Ytbhfenpccccloaa.Pure
open Go.RowKit Go.Proofs.Ytbhfenpccccloaa.M Go.Proofs.Ytbhfenpccccloaa.Hand Go.Proofs.YtbhfenpccccloaaW.PrintWords Go.Proofs.YtbhfenpccccloaaW.PrintLast Go.Proofs.YtbhfenpccccloaaW.PrintMore
set_option linter.unusedVariables false
set_option linter.unusedSimpArgs false
theorem numLs_acc : ∀ (l xs : List ByteArray) (ids : List Int), (numL xs l ids).1 = (numL xs l []).1 ∧ (numL xs l ids).2 = ids ++ (numL xs l []).2 := by
  intro l
  induction l with
  | nil => intro xs ids; simp [numL]
  | cons s t ih =>
    intro xs ids
    simp only [numL]
    obtain ⟨a1, a2⟩ := ih (addG xs s) (ids ++ [(ixG xs s : Int)])
    obtain ⟨b1, b2⟩ := ih (addG xs s) ([] ++ [(ixG xs s : Int)])
    refine ⟨by rw [a1, b1], by rw [a2, b2]; simp⟩
theorem numAs_acc : ∀ (fs : List (List ByteArray)) (xs : List ByteArray) (out : List (List Int)), (numA xs fs out).1 = (numA xs fs []).1 ∧ (numA xs fs out).2 = out ++ (numA xs fs []).2 := by
  intro fs
  induction fs with
  | nil => intro xs out; simp [numA]
  | cons s t ih =>
    intro xs out
    simp only [numA]
    obtain ⟨a1, a2⟩ := ih (numL xs s []).1 (out ++ [(numL xs s []).2])
    obtain ⟨b1, b2⟩ := ih (numL xs s []).1 ([] ++ [(numL xs s []).2])
    refine ⟨by rw [a1, b1], by rw [a2, b2]; simp⟩
theorem addG_pre (xs : List ByteArray) (s : ByteArray) : (∃ zs, addG xs s = xs ++ zs) ∧ s ∈ addG xs s ∧ ixG (addG xs s) s = ixG xs s := by
  unfold addG
  by_cases h : s ∈ xs
  · rw [if_pos h]; exact ⟨⟨[], by simp⟩, h, rfl⟩
  · rw [if_neg h]; exact ⟨⟨[s], rfl⟩, by simp, by rw [ixG_not xs [s] s h, ixG_len xs s h]; simp [ixG]⟩
/-- The numbers of a list's texts are their places in the table that is left. -/
theorem numL_map : ∀ (l xs : List ByteArray), ∃ ys, (numL xs l []).1 = xs ++ ys ∧ (∀ s ∈ l, s ∈ xs ++ ys) ∧ (numL xs l []).2 = l.map (fun s => (ixG (xs ++ ys) s : Int)) := by
  intro l
  induction l with
  | nil => intro xs; exact ⟨[], by simp [numL], (fun s h => by cases h), rfl⟩
  | cons s t ih =>
    intro xs
    obtain ⟨⟨zs, hz⟩, hm, hi⟩ := addG_pre xs s
    obtain ⟨ys, h1, h2, h3⟩ := ih (addG xs s)
    have e1 := (numLs_acc t (addG xs s) [(ixG xs s : Int)]).1
    have e2 := (numLs_acc t (addG xs s) [(ixG xs s : Int)]).2
    refine ⟨zs ++ ys, ?_, ?_, ?_⟩
    · show (numL (addG xs s) t [(ixG xs s : Int)]).1 = _
      rw [e1, h1, hz, List.append_assoc]
    · rw [← List.append_assoc, ← hz]
      intro u hu
      rcases List.mem_cons.1 hu with hu | hu
      · rw [hu]; exact List.mem_append_left _ hm
      · exact h2 u hu
    · show (numL (addG xs s) t [(ixG xs s : Int)]).2 = _
      rw [e2, h3, ← List.append_assoc, ← hz, List.map_cons, ixG_mem _ _ _ hm, hi]
      rfl
theorem numA_map : ∀ (fs : List (List ByteArray)) (xs : List ByteArray), ∃ ys, (numA xs fs []).1 = xs ++ ys ∧ (∀ s ∈ fs.flatten, s ∈ xs ++ ys) ∧ (numA xs fs []).2 = fs.map (fun l => l.map (fun s => (ixG (xs ++ ys) s : Int))) := by
  intro fs
  induction fs with
  | nil => intro xs; exact ⟨[], by simp [numA], (fun s h => by simp at h), rfl⟩
  | cons l t ih =>
    intro xs
    obtain ⟨zs, g1, g2, g3⟩ := numL_map l xs
    obtain ⟨ys, h1, h2, h3⟩ := ih (numL xs l []).1
    have e1 := (numAs_acc t (numL xs l []).1 [(numL xs l []).2]).1
    have e2 := (numAs_acc t (numL xs l []).1 [(numL xs l []).2]).2
    refine ⟨zs ++ ys, ?_, ?_, ?_⟩
    · show (numA (numL xs l []).1 t [(numL xs l []).2]).1 = _
      rw [e1, h1, g1, List.append_assoc]
    · rw [← List.append_assoc]
      intro u hu
      rw [List.flatten_cons] at hu
      rcases List.mem_append.1 hu with hu | hu
      · exact List.mem_append_left _ (g2 u hu)
      · rw [← g1]; exact h2 u hu
    · show (numA (numL xs l []).1 t [(numL xs l []).2]).2 = _
      rw [e2, h3, g1, g3, ← List.append_assoc, List.map_cons, List.singleton_append]
      congr 1
      exact List.map_congr_left (fun s hs => by rw [ixG_mem _ ys _ (g2 s hs)])
theorem ixG_get (xs : List ByteArray) (s : ByteArray) (h : s ∈ xs) : xs[ixG xs s]? = some s := by
  induction xs with
  | nil => cases h
  | cons x t ih =>
    by_cases e : x = s
    · simp [ixG, e]
    · rw [ixG, if_neg e, List.getElem?_cons_succ]
      exact ih (by rcases List.mem_cons.1 h with h | h; exact absurd h.symm e; exact h)
theorem rdS_get (xs : List ByteArray) (i : Nat) (h : i < xs.length) : rdOf ByteArray.empty xs (i : Int) = xs[i] := by
  simp [rdOf, List.getD_eq_getElem?_getD, h]
theorem same_j1 (xs : List ByteArray) (x7 : List ByteArray) (hm : ∀ s ∈ x7, s ∈ xs) (hl : x7.length ≤ 120) (a b : Int) (ha : 0 ≤ a ∧ a ≤ 255) (hb : 0 ≤ b ∧ b ≤ 255) (k : Nat) (hk : 1 ≤ k) :
    sennitlaw02_InternSame.j1 k true x7 (x7.map (fun s => (ixG xs s : Int))) a b = some true := by
  obtain ⟨k, rfl⟩ : ∃ q, k = q + 1 := ⟨k - 1, by omega⟩
  rw [sennitlaw02_InternSame.j1, if_pos (by simp)]
  by_cases h0 : x7.length = 0
  · rw [if_pos (by omega)]
  · have wa : wrap64 a = a := by unfold wrap64; omega
    have wb : wrap64 b = b := by unfold wrap64; omega
    obtain ⟨p, hp, hpl⟩ : ∃ p : Nat, Int.tmod a (x7.length : Int) = (p : Int) ∧ p < x7.length := by
      rw [Int.tmod_eq_emod_of_nonneg ha.1]
      have h1 := Int.emod_nonneg a (b := (x7.length : Int)) (by omega)
      have h2 := Int.emod_lt_of_pos a (b := (x7.length : Int)) (by omega)
      exact ⟨(a % (x7.length : Int)).toNat, by omega, by omega⟩
    obtain ⟨q, hq, hql⟩ : ∃ q : Nat, Int.tmod b (x7.length : Int) = (q : Int) ∧ q < x7.length := by
      rw [Int.tmod_eq_emod_of_nonneg hb.1]
      have h1 := Int.emod_nonneg b (b := (x7.length : Int)) (by omega)
      have h2 := Int.emod_lt_of_pos b (b := (x7.length : Int)) (by omega)
      exact ⟨(b % (x7.length : Int)).toNat, by omega, by omega⟩
    have hml : (x7.map (fun s => (ixG xs s : Int))).length = x7.length := by simp
    rw [if_neg (by omega), if_pos rfl, wa, wb, hp, hq, if_pos (by omega), if_pos (by omega), if_pos (by omega), if_pos (by omega), if_pos (by omega), if_pos (by omega), rdS_get _ _ hpl, rdS_get _ _ hql, rd_get _ _ (by omega), rd_get _ _ (by omega)]
    congr 1
    rw [List.getElem_map, List.getElem_map, beq_iff_eq, Bool.eq_iff_iff, beq_iff_eq, beq_iff_eq]
    constructor
    · intro h
      rw [bytes_ext _ _ h]
    · intro h
      have h' : ixG xs x7[p] = ixG xs x7[q] := by omega
      have e1 := ixG_get xs _ (hm _ (List.getElem_mem hpl))
      have e2 := ixG_get xs _ (hm _ (List.getElem_mem hql))
      rw [h', e2] at e1
      rw [Option.some.inj e1]
theorem sameN_l0 (l0 : List (List ByteArray)) (h6 : l0.length ≤ 6) (h20 : ∀ x ∈ l0, x.length ≤ 20) (xs : List ByteArray) (hm : ∀ s ∈ l0.flatten, s ∈ xs) (a b : Int) (ha : 0 ≤ a ∧ a ≤ 255) (hb : 0 ≤ b ∧ b ≤ 255) (d : Nat) :
    ∀ (i : Nat) (p : List ByteArray), i ≤ l0.length → l0.length - i = d → p.length ≤ 20 * i → (∀ s ∈ p, s ∈ xs) → ∀ k, d + 2 ≤ k →
      sennitlaw02_InternSame.l0 k l0 true (l0.map (fun l => l.map (fun s => (ixG xs s : Int)))) p (p.map (fun s => (ixG xs s : Int))) (i : Int) a b = some true := by
  induction d with
  | zero =>
    intro i p hi hd hp hpm k hk
    obtain ⟨k, rfl⟩ : ∃ q, k = q + 1 := ⟨k - 1, by omega⟩
    rw [sennitlaw02_InternSame.l0, if_neg (by omega)]
    exact same_j1 xs p hpm (by omega) a b ha hb k (by omega)
  | succ d ih =>
    intro i p hi hd hp hpm k hk
    obtain ⟨k, rfl⟩ : ∃ q, k = q + 1 := ⟨k - 1, by omega⟩
    have hlt : i < l0.length := by omega
    have hl := h20 _ (List.getElem_mem hlt)
    have hml : (l0.map (fun l => l.map (fun s => (ixG xs s : Int)))).length = l0.length := by simp
    have hr : rd_L5 (l0.map (fun l => l.map (fun s => (ixG xs s : Int)))) (i : Int) = l0[i].map (fun s => (ixG xs s : Int)) := by
      rw [rdL5 _ _ (by omega), List.getElem_map]
    rw [sennitlaw02_InternSame.l0, if_pos (by omega), if_pos (by omega), if_pos (by omega), hr, rdL1 _ _ hlt, if_pos (by omega), if_pos (by simp; omega), ← List.map_append, wrap_succ hlt (by omega)]
    refine ih (i + 1) (p ++ l0[i]) (by omega) (by omega) (by rw [List.length_append]; omega) (fun s hs => ?_) k (by omega)
    rcases List.mem_append.1 hs with hs | hs
    · exact hpm s hs
    · exact hm s (List.mem_flatten.2 ⟨_, List.getElem_mem hlt, hs⟩)
theorem InternSame (l0 : List (List ByteArray)) (n0 : l0.length ≤ 9223372036854775807) (o0 : ∀ x ∈ l0, x.length ≤ 9223372036854775807 ∧ ∀ s ∈ x, s.size ≤ 9223372036854775807) (a b : Int) (ha : (Lit.int .u8 a).wf = true) (hb : (Lit.int .u8 b).wf = true) : ∃ k, sennitlaw02_InternSame.f k l0 a b = some true := by
  obtain ⟨t, ht, hT⟩ := few02_f l0 n0 (fun x hx => (o0 x hx).1)
  refine ⟨3000, ?_⟩
  unfold sennitlaw02_InternSame.f
  rw [sennitlaw02_awake.f, Option.bind_some, ht _ (by omega), Option.bind_some]
  cases t with
  | false => rfl
  | true =>
    obtain ⟨h1, h2⟩ := hT rfl
    obtain ⟨ys, g1, g2, g3⟩ := numA_map l0 []
    simp [Lit.wf, IntKind.min, IntKind.max, IntKind.signed, IntKind.bits] at ha hb
    rw [if_pos rfl, intern_All.f, if_pos (small_ok h1 h2), Option.bind_some, g3]
    exact sameN_l0 l0 h1 (fun x hx => (h2 x hx).1) _ g2 a b (by omega) (by omega) _ 0 [] (by omega) rfl (by simp) (fun s hs => by cases hs) 3000 (by omega)
end Go.Proofs.Ytbhfenpccccloaa.Pure
