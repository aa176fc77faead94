/- Texts of the claim PickUnion, put together (part 8): Layer 7: pieces as they come in. Layer 7: pieces put together. Plain Lean. Layer 7: what becomes of a base, and parts. Plain Lean. The plain law of PickUnion: what the printed functions answer is true. -/
import Derived.ArgAppend
import Derived.Below
import Derived.BigQuiet
import Derived.ChangeArms
import Derived.Deep.AppendLies
import Derived.Deep.CutBlock
import Derived.Deep.DeepCutAuto
import Derived.Deep.Draws
import Derived.Deep.LoopGhost
import Derived.Deep.OwnRows
import Derived.Deep.QuietTactic
import Derived.Deep.RegionHeld3
import Derived.Deep.Slices
import Derived.KernelRfl
import Derived.Laws.BitsLemmas
import Derived.Laws.BytesArg
import Derived.Laws.EntriesVeiled
import Derived.Laws.IdiomCopy
import Derived.Laws.MakeOwn
import Derived.Laws.OwnMore
import Derived.Laws.Rows
import Derived.Laws.Slices
import Derived.Lib.AppendStr
import Derived.Lib.ConvBytes
import Derived.Maps.AppendAt
import Derived.OpenShut
import Derived.OrdersHeld
import Derived.OwnWalk
import Derived.RangeFuncBox
import Derived.RowKit
import Derived.RowKit3
import Derived.Tactics
import Derived.Test.YtiaoppikdgoieaaProg
import Derived.Test.YtiaoppikdgoieaaWApart
import Derived.Test.YtiaoppikdgoieaaWArr
import Derived.Test.YtiaoppikdgoieaaWAt
import Derived.Test.YtiaoppikdgoieaaWEqStruct
import Derived.Test.YtiaoppikdgoieaaWFoot
import Derived.Test.YtiaoppikdgoieaaWFootNe
import Derived.Test.YtiaoppikdgoieaaWFour
import Derived.Test.YtiaoppikdgoieaaWGuard
import Derived.Test.YtiaoppikdgoieaaWInv
import Derived.Test.YtiaoppikdgoieaaWInvWords
import Derived.Test.YtiaoppikdgoieaaWKept
import Derived.Test.YtiaoppikdgoieaaWLast
import Derived.Test.YtiaoppikdgoieaaWMore
import Derived.Test.YtiaoppikdgoieaaWN
import Derived.Test.YtiaoppikdgoieaaWNEv
import Derived.Test.YtiaoppikdgoieaaWQPut
import Derived.Test.YtiaoppikdgoieaaWRepsOne
import Derived.Test.YtiaoppikdgoieaaWShare
import Derived.Test.YtiaoppikdgoieaaWTab
import Derived.Test.YtiaoppikdgoieaaWWords
import Derived.Test.YtiaoppikdgoieaaWZeros
import Derived.WalkKit
import Derived.WideLaws
import Derived.Test.YtiaoppikdgoieaaPickUnionQ7
namespace Go.Proofs.Ytiaoppikdgoieaa.Pure
open Go.RowKit Go.Proofs.Ytiaoppikdgoieaa.M Go.Proofs.Ytiaoppikdgoieaa.Hand Go.Proofs.YtiaoppikdgoieaaW.PrintWords Go.Proofs.YtiaoppikdgoieaaW.PrintLast Go.Proofs.YtiaoppikdgoieaaW.PrintMore
theorem okIn_of {p : S27} (h : ok_27 p) : okIn p := ⟨h.2.1.1, h.2.2.1.1, h.2.2.2.1, fun x hx => (h.2.2.2.2 x hx).1⟩
theorem okIn_all {l : List S27} (h : ∀ p ∈ l, ok_27 p) : ∀ p ∈ l, okIn p := fun p hp => okIn_of (h p hp)
end Go.Proofs.Ytiaoppikdgoieaa.Pure
namespace Go.Proofs.Ytiaoppikdgoieaa.Pure
open Go.RowKit Go.Proofs.Ytiaoppikdgoieaa.M Go.Proofs.Ytiaoppikdgoieaa.Hand Go.Proofs.YtiaoppikdgoieaaW.PrintWords Go.Proofs.YtiaoppikdgoieaaW.PrintLast Go.Proofs.YtiaoppikdgoieaaW.PrintMore
set_option linter.unusedVariables false
set_option linter.unusedSimpArgs false

/-- The last piece is a text. -/
def lastT (acc : List S27) : Prop := acc ≠ [] ∧ (rd_T27 acc ((acc.length - 1 : Nat) : Int)).f0 = false
theorem rd_snoc (init : List S27) (q : S27) : rd_T27 (init ++ [q]) (((init ++ [q]).length - 1 : Nat) : Int) = q := by
  have h : (init ++ [q]).length - 1 < (init ++ [q]).length := by simp
  rw [rdT27 _ _ h]; simp
theorem lastT_snoc (init : List S27) (q : S27) : lastT (init ++ [q]) ↔ q.f0 = false := by
  unfold lastT
  rw [rd_snoc]; simp
theorem putG_conf (acc : List S27) (x : S27) (h : x.f0 = true) : putG acc x = acc ++ [⟨true, [], x.f2, x.f3⟩] := by unfold putG; rw [if_pos h]
theorem putG_none (acc : List S27) (x : S27) (h : x.f0 = false) (h1 : x.f1 = []) : putG acc x = acc := by unfold putG; rw [if_neg (by rw [h]; decide), if_pos h1]
theorem putG_new (acc : List S27) (x : S27) (h : x.f0 = false) (h1 : x.f1 ≠ []) (hl : ¬ lastT acc) : putG acc x = acc ++ [⟨false, x.f1, [], []⟩] := by unfold putG; rw [if_neg (by rw [h]; decide), if_neg h1]; exact if_neg hl
theorem putG_more (init : List S27) (q x : S27) (h : x.f0 = false) (h1 : x.f1 ≠ []) (hq : q.f0 = false) : putG (init ++ [q]) x = init ++ [⟨false, q.f1 ++ x.f1, q.f2, q.f3⟩] := by
  have hl : lastT (init ++ [q]) := (lastT_snoc init q).2 hq
  unfold putG; rw [if_neg (by rw [h]; decide), if_neg h1]
  refine (if_pos hl).trans ?_
  rw [rd_snoc]
  simp
/-- The cases of one more piece. -/
theorem putG_cases {R : List S27 → S27 → List S27 → Prop} (acc : List S27) (x : S27) (hc : x.f0 = true → R acc x (acc ++ [⟨true, [], x.f2, x.f3⟩])) (hn : x.f0 = false → x.f1 = [] → R acc x acc)
    (hw : x.f0 = false → x.f1 ≠ [] → ¬ lastT acc → R acc x (acc ++ [⟨false, x.f1, [], []⟩])) (hm : ∀ init q, acc = init ++ [q] → q.f0 = false → x.f0 = false → x.f1 ≠ [] → R (init ++ [q]) x (init ++ [⟨false, q.f1 ++ x.f1, q.f2, q.f3⟩])) : R acc x (putG acc x) := by
  cases h : x.f0 with
  | true => rw [putG_conf acc x h]; exact hc h
  | false =>
    by_cases h1 : x.f1 = []
    · rw [putG_none acc x h h1]; exact hn h h1
    · by_cases hl : lastT acc
      · rcases List.eq_nil_or_concat acc with e | ⟨init, q, e⟩
        · exact absurd e hl.1
        · rw [List.concat_eq_append] at e
          subst e
          have hq := (lastT_snoc init q).1 hl
          rw [putG_more init q x h h1 hq]
          exact hm init q rfl hq h h1
      · rw [putG_new acc x h h1 hl]; exact hw h h1 hl

inductive NormS : List S27 → Prop
  | nil : NormS []
  | conf {acc : List S27} (h : NormS acc) (b : List ByteArray) (s : List (List ByteArray)) : NormS (acc ++ [⟨true, [], b, s⟩])
  | text {acc : List S27} (h : NormS acc) (hl : ¬ lastT acc) (t : List ByteArray) (ht : t ≠ []) : NormS (acc ++ [⟨false, t, [], []⟩])
theorem normS_inv {acc init : List S27} {q : S27} (h : NormS acc) (e : acc = init ++ [q]) (hq : q.f0 = false) : NormS init ∧ ¬ lastT init ∧ q.f2 = [] ∧ q.f3 = [] := by
  cases h with
  | nil => simp at e
  | conf h b s =>
    obtain ⟨_, e2⟩ := List.append_inj' e rfl
    injection e2 with e2 _
    rw [← e2] at hq; cases hq
  | text h hl t ht =>
    obtain ⟨e1, e2⟩ := List.append_inj' e rfl
    injection e2 with e2 _
    subst e1; subst e2
    exact ⟨h, hl, rfl, rfl⟩
theorem putG_norm {acc : List S27} (h : NormS acc) (x : S27) : NormS (putG acc x) := by
  refine putG_cases (R := fun acc x r => NormS acc → NormS r) acc x (fun _ h => .conf h _ _) (fun _ _ h => h) (fun _ h1 hl h => .text h hl _ h1) (fun init q e hq h0 h1 h => ?_) h
  obtain ⟨i1, i2, i3, i4⟩ := normS_inv h rfl hq
  rw [i3, i4]
  exact .text i1 i2 _ (by intro e; exact h1 (List.append_eq_nil_iff.1 e).2)
theorem foldG_norm : ∀ (l acc : List S27), NormS acc → NormS (l.foldl putG acc)
  | [], _, h => h
  | x :: t, acc, h => foldG_norm t _ (putG_norm h x)
theorem normG_norm (l : List S27) : NormS (normG l) := foldG_norm l [] .nil
theorem normG_app (l : List S27) (x : S27) : normG (l ++ [x]) = putG (normG l) x := by unfold normG; rw [List.foldl_append]; rfl
theorem normS_fix {n : List S27} (h : NormS n) : normG n = n := by
  induction h with
  | nil => rfl
  | conf h b s ih => rw [normG_app, ih, putG_conf _ _ rfl]
  | text h hl t ht ih => rw [normG_app, ih, putG_new _ _ rfl ht hl]
theorem normG_twice (l : List S27) : normG (normG l) = normG l := normS_fix (normG_norm l)
theorem normS_at {n : List S27} (h : NormS n) : ∀ i (hi : i < n.length), n[i].f0 = false → n[i].f1 ≠ [] ∧ ∀ h0 : 0 < i, (n[i - 1]'(by omega)).f0 = true := by
  induction h with
  | nil => intro i hi; simp at hi
  | @conf acc h b s ih =>
    intro i hi h0
    by_cases hlt : i < acc.length
    · rw [List.getElem_append_left hlt] at h0 ⊢
      obtain ⟨a, b⟩ := ih i hlt h0
      exact ⟨a, fun hp => by rw [List.getElem_append_left (by omega)]; exact b hp⟩
    · rw [List.getElem_append_right (by omega)] at h0
      simp at h0
  | @text acc h hl t ht ih =>
    intro i hi h0
    by_cases hlt : i < acc.length
    · rw [List.getElem_append_left hlt] at h0 ⊢
      obtain ⟨a, b⟩ := ih i hlt h0
      exact ⟨a, fun hp => by rw [List.getElem_append_left (by omega)]; exact b hp⟩
    · have hie : i = acc.length := by simp at hi; omega
      subst hie
      refine ⟨by rw [List.getElem_append_right (by omega)]; simpa using ht, fun hp => ?_⟩
      rw [List.getElem_append_left (by omega)]
      have hne : acc ≠ [] := List.length_pos_iff.1 hp
      cases hf : (acc[acc.length - 1]'(by omega)).f0 with
      | true => rfl
      | false => exact absurd ⟨hne, by rw [rdT27 _ _ (by omega)]; exact hf⟩ hl

theorem putG_any (acc : List S27) (x : S27) : ((putG acc x).any fun z => z.f0) = ((acc.any fun z => z.f0) || x.f0) := by
  refine putG_cases (R := fun acc x r => (r.any fun z : S27 => z.f0) = ((acc.any fun z : S27 => z.f0) || x.f0)) acc x (fun h => ?_) (fun h _ => ?_) (fun h _ _ => ?_) (fun init q e hq h h1 => ?_)
  · simp [h]
  · simp [h]
  · simp [h]
  · simp [h, hq]
theorem foldG_any : ∀ (l acc : List S27), ((l.foldl putG acc).any fun z => z.f0) = ((acc.any fun z => z.f0) || l.any fun z => z.f0)
  | [], acc => by simp
  | x :: t, acc => by rw [List.foldl_cons, foldG_any t, putG_any, List.any_cons, Bool.or_assoc]
theorem normG_any (l : List S27) : ((normG l).any fun z => z.f0) = l.any fun z => z.f0 := by unfold normG; rw [foldG_any]; simp
theorem chooseG_app (side : Int) (a b : List S27) : chooseG side (a ++ b) = chooseG side a ++ chooseG side b := by simp [chooseG]
theorem chooseG_one (side : Int) (x : S27) : chooseG side [x] = chooseP side x := by simp [chooseG]
theorem putG_choose (side : Int) (acc : List S27) (x : S27) : chooseG side (putG acc x) = chooseG side acc ++ chooseP side x := by
  refine putG_cases (R := fun acc x r => chooseG side r = chooseG side acc ++ chooseP side x) acc x (fun h => ?_) (fun h h1 => ?_) (fun h _ _ => ?_) (fun init q e hq h h1 => ?_)
  · rw [chooseG_app, chooseG_one]; simp [chooseP, h]
  · simp [chooseP, h, h1]
  · rw [chooseG_app, chooseG_one]; simp [chooseP, h]
  · rw [chooseG_app, chooseG_one, chooseG_app, chooseG_one]; simp [chooseP, h, hq]
theorem foldG_choose (side : Int) : ∀ (l acc : List S27), chooseG side (l.foldl putG acc) = chooseG side acc ++ chooseG side l
  | [], acc => by simp [chooseG]
  | x :: t, acc => by rw [List.foldl_cons, foldG_choose side t, putG_choose, List.append_assoc, ← chooseG_one, ← chooseG_app]; rfl
theorem normG_choose (side : Int) (l : List S27) : chooseG side (normG l) = chooseG side l := by unfold normG; rw [foldG_choose]; simp [chooseG]
theorem putG_all3 {Q : List (List ByteArray) → Prop} {acc : List S27} {x : S27} (h0 : Q []) (hx : Q x.f3) (ha : ∀ p ∈ acc, Q p.f3) : ∀ p ∈ putG acc x, Q p.f3 := by
  refine putG_cases (R := fun acc x r => Q x.f3 → (∀ p ∈ acc, Q p.f3) → ∀ p ∈ r, Q p.f3) acc x (fun _ hx ha p hp => ?_) (fun _ _ _ ha => ha) (fun _ _ _ hx ha p hp => ?_) (fun init q e hq h h1 hx ha p hp => ?_) hx ha
  · rcases List.mem_append.1 hp with hp | hp
    · exact ha p hp
    · rw [List.mem_singleton.1 hp]; exact hx
  · rcases List.mem_append.1 hp with hp | hp
    · exact ha p hp
    · rw [List.mem_singleton.1 hp]; exact h0
  · rcases List.mem_append.1 hp with hp | hp
    · exact ha p (List.mem_append_left _ hp)
    · rw [List.mem_singleton.1 hp]; exact ha q (by simp)
theorem foldG_all3 {Q : List (List ByteArray) → Prop} (h0 : Q []) : ∀ (l acc : List S27), (∀ p ∈ l, Q p.f3) → (∀ p ∈ acc, Q p.f3) → ∀ p ∈ l.foldl putG acc, Q p.f3
  | [], acc, _, ha => ha
  | x :: t, acc, hl, ha => foldG_all3 h0 t _ (fun p hp => hl p (List.mem_cons_of_mem _ hp)) (putG_all3 h0 (hl x (List.mem_cons_self ..)) ha)
theorem normG_all3 {Q : List (List ByteArray) → Prop} {l : List S27} (h0 : Q []) (hl : ∀ p ∈ l, Q p.f3) : ∀ p ∈ normG l, Q p.f3 := foldG_all3 h0 l [] hl (fun p hp => by cases hp)
theorem foldG_len : ∀ (l acc : List S27), (l.foldl putG acc).length ≤ acc.length + l.length
  | [], acc => by simp
  | x :: t, acc => by
    have h1 := foldG_len t (putG acc x)
    have h2 := putG_len acc x
    rw [List.foldl_cons, List.length_cons]; omega
theorem normG_len (l : List S27) : (normG l).length ≤ l.length := by have := foldG_len l []; unfold normG; simpa using this
theorem textsN_app (a b : List S27) : textsN (a ++ b) = textsN a + textsN b := by simp [textsN]
theorem putG_texts (acc : List S27) (x : S27) : textsN (putG acc x) ≤ textsN acc + x.f1.length := by
  refine putG_cases (R := fun acc x r => textsN r ≤ textsN acc + x.f1.length) acc x (fun h => ?_) (fun h h1 => ?_) (fun h _ _ => ?_) (fun init q e hq h h1 => ?_)
  · rw [textsN_app]; simp [textsN]
  · omega
  · rw [textsN_app]; simp [textsN]
  · rw [textsN_app, textsN_app]; simp [textsN]; omega
theorem foldG_texts : ∀ (l acc : List S27), textsN (l.foldl putG acc) ≤ textsN acc + textsN l
  | [], acc => by simp [textsN]
  | x :: t, acc => by
    have h1 := foldG_texts t (putG acc x)
    have h2 := putG_texts acc x
    have h3 : textsN (x :: t) = x.f1.length + textsN t := by simp [textsN]
    rw [List.foldl_cons]; omega
theorem normG_texts (l : List S27) : textsN (normG l) ≤ textsN l := by have := foldG_texts l []; unfold normG; simpa [textsN] using this
theorem textsN_le {l : List S27} {M : Nat} (h : ∀ p ∈ l, p.f1.length ≤ M) : textsN l ≤ M * l.length := by
  induction l with
  | nil => simp [textsN]
  | cons x t ih =>
    have h1 := ih (fun p hp => h p (List.mem_cons_of_mem _ hp))
    have h2 := h x (List.mem_cons_self ..)
    have h3 : textsN (x :: t) = x.f1.length + textsN t := by simp [textsN]
    rw [h3, List.length_cons, Nat.mul_add]; omega

/-! What the reference's functions tell. -/
theorem rClean_l0 (l : List S27) (hl : l.length ≤ 1000000) (d : Nat) : ∀ i k, i ≤ l.length → l.length - i = d → d < k → sennitref07_Clean.l0 k l (i : Int) = some (!((l.drop i).any fun z => z.f0)) := by
  induction d with
  | zero =>
    intro i k hi hd hk
    obtain ⟨k, rfl⟩ : ∃ q, k = q + 1 := ⟨k - 1, by omega⟩
    rw [sennitref07_Clean.l0, if_neg (by omega), List.drop_of_length_le (by omega)]; rfl
  | succ d ih =>
    intro i k hi hd hk
    obtain ⟨k, rfl⟩ : ∃ q, k = q + 1 := ⟨k - 1, by omega⟩
    have hlt : i < l.length := by omega
    rw [sennitref07_Clean.l0, if_pos (by omega), if_pos (by omega), rdT27 _ _ hlt, List.drop_eq_getElem_cons hlt, List.any_cons]
    cases hf : l[i].f0 with
    | true => rw [if_pos rfl]; rfl
    | false => rw [if_neg (by decide), wrap_succ hlt (by omega), ih (i + 1) k (by omega) (by omega) (by omega), Bool.false_or]
theorem rClean_f (l : List S27) (hl : l.length ≤ 1000000) (k : Nat) (hk : l.length < k) : sennitref07_Clean.f k l = some (!(l.any fun z => z.f0)) := by
  have := rClean_l0 l hl l.length 0 k (by omega) (by omega) hk
  rwa [List.drop_zero] at this
/-- Texts ahead, put to what there is. -/
def withT (acc : List S27) (t : List ByteArray) : List S27 := if t = [] then acc else acc ++ [⟨false, t, [], []⟩]
theorem withT_put (acc : List S27) (t : List ByteArray) (x : S27) (hx : x.f0 = false) (hl : ¬ lastT acc) : putG (withT acc t) x = withT acc (t ++ x.f1) := by
  unfold withT
  by_cases h1 : x.f1 = []
  · rw [putG_none _ _ hx h1, h1, List.append_nil]
  · rw [if_neg (fun e => h1 (List.append_eq_nil_iff.1 e).2)]
    by_cases ht : t = []
    · rw [if_pos ht, putG_new _ _ hx h1 hl, ht, List.nil_append]
    · rw [if_neg ht, putG_more _ _ _ hx h1 rfl]
theorem rNormal_both (l : List S27) (hl : l.length ≤ 1000) (htx : textsN l ≤ 1000000) (d : Nat) : ∀ i, i ≤ l.length → l.length - i = d →
    (∀ acc k, 3 * d + 3 ≤ k → acc.length ≤ 2 * i → (i < l.length → lastT acc → (rd_T27 l (i : Int)).f0 = true) → sennitref07_Normal.l0 k l acc (i : Int) = some ((l.drop i).foldl putG acc)) ∧
    (∀ acc t k, 3 * d + 3 ≤ k → acc.length + 1 ≤ 2 * i → ¬ lastT acc → t.length ≤ textsN (l.take i) → sennitref07_Normal.l1 k l acc (i : Int) t = some ((l.drop i).foldl putG (withT acc t))) := by
  induction d with
  | zero =>
    intro i hi hd
    have hdl : l.drop i = [] := List.drop_of_length_le (by omega)
    rw [hdl]
    have h0 : ∀ acc k, 2 ≤ k → sennitref07_Normal.l0 k l acc (i : Int) = some (([] : List S27).foldl putG acc) := by
      intro acc k hk
      obtain ⟨k, rfl⟩ : ∃ q, k = q + 1 := ⟨k - 1, by omega⟩
      rw [sennitref07_Normal.l0, if_neg (by omega)]; rfl
    refine ⟨fun acc k hk ha _ => h0 acc k (by omega), fun acc t k hk ha hlt ht => ?_⟩
    obtain ⟨k, rfl⟩ : ∃ q, k = q + 1 := ⟨k - 1, by omega⟩
    rw [sennitref07_Normal.l1, if_neg (by omega)]
    unfold withT
    by_cases hn : t = []
    · rw [if_pos hn, hn, if_neg (by simp), h0 _ _ (by omega)]
    · have hp : 0 < t.length := List.length_pos_iff.2 hn
      rw [if_neg hn, if_pos (by omega), if_pos (by omega), h0 _ _ (by omega)]
  | succ d ih =>
    intro i hi hd
    have hlt : i < l.length := by omega
    obtain ⟨ih0, ih1⟩ := ih (i + 1) (by omega) (by omega)
    have hdl := List.drop_eq_getElem_cons hlt
    have htn : textsN (l.take (i + 1)) = textsN (l.take i) + l[i].f1.length := textsN_snoc l i _ (List.getElem?_eq_getElem hlt)
    have htp := textsN_pre l (i + 1)
    have l1step : ∀ acc t k, 3 * (d + 1) + 3 ≤ k → acc.length + 1 ≤ 2 * (i + 1) → l[i].f0 = false → ¬ lastT acc → t.length ≤ textsN (l.take i) → sennitref07_Normal.l1 k l acc (i : Int) t = some ((l.drop i).foldl putG (withT acc t)) := by
      intro acc t k hk ha hf hla ht
      obtain ⟨k, rfl⟩ : ∃ q, k = q + 1 := ⟨k - 1, by omega⟩
      rw [sennitref07_Normal.l1, if_pos (by omega), if_pos (by omega), rdT27 _ _ hlt, if_neg (by rw [hf]; decide), if_pos (by omega), wrap_succ hlt (by omega), ih1 acc (t ++ l[i].f1) k (by omega) (by omega) hla (by rw [List.length_append]; omega), hdl, List.foldl_cons, withT_put acc t _ hf hla]
    have l0c : ∀ acc k, 3 * d + 4 ≤ k → acc.length ≤ 2 * i + 1 → l[i].f0 = true → sennitref07_Normal.l0 k l acc (i : Int) = some ((l.drop i).foldl putG acc) := by
      intro acc k hk ha hf
      obtain ⟨k, rfl⟩ : ∃ q, k = q + 1 := ⟨k - 1, by omega⟩
      rw [sennitref07_Normal.l0, if_pos (by omega), if_pos (by omega), rdT27 _ _ hlt, if_pos hf, if_pos (by omega), wrap_succ hlt (by omega), ih0 _ k (by omega) (by simp; omega) (fun _ h => by rw [lastT_snoc] at h; cases h), hdl, List.foldl_cons, putG_conf _ _ hf]
    refine ⟨fun acc k hk ha hinv => ?_, fun acc t k hk ha hla ht => ?_⟩
    · cases hf : l[i].f0 with
      | true => exact l0c acc k (by omega) (by omega) hf
      | false =>
        have hla : ¬ lastT acc := fun h => by have := hinv hlt h; rw [rdT27 _ _ hlt, hf] at this; cases this
        obtain ⟨k, rfl⟩ : ∃ q, k = q + 1 := ⟨k - 1, by omega⟩
        rw [sennitref07_Normal.l0, if_pos (by omega), if_pos (by omega), rdT27 _ _ hlt, if_neg (by rw [hf]; decide)]
        obtain ⟨k, rfl⟩ : ∃ q, k = q + 1 := ⟨k - 1, by omega⟩
        rw [sennitref07_Normal.l1, if_pos (by omega), if_pos (by omega), rdT27 _ _ hlt, if_neg (by rw [hf]; decide), if_pos (by simp; omega), wrap_succ hlt (by omega), List.nil_append, ih1 acc l[i].f1 k (by omega) (by omega) hla (by omega), hdl, List.foldl_cons]
        have := withT_put acc [] _ hf hla
        rw [List.nil_append] at this
        rw [← this]; rfl
    · cases hf : l[i].f0 with
      | false => exact l1step acc t k (by omega) (by omega) hf hla ht
      | true =>
        obtain ⟨k, rfl⟩ : ∃ q, k = q + 1 := ⟨k - 1, by omega⟩
        rw [sennitref07_Normal.l1, if_pos (by omega), if_pos (by omega), rdT27 _ _ hlt, if_pos hf]
        unfold withT
        by_cases hn : t = []
        · rw [if_pos hn, hn, if_neg (by simp), l0c _ _ (by omega) (by omega) hf]
        · have hp : 0 < t.length := List.length_pos_iff.2 hn
          rw [if_neg hn, if_pos (by omega), if_pos (by omega), l0c _ _ (by omega) (by simp; omega) hf]
theorem rNormal_f (l : List S27) (hl : l.length ≤ 1000) (htx : textsN l ≤ 1000000) (k : Nat) (hk : 3 * l.length + 3 ≤ k) : sennitref07_Normal.f k l = some (normG l) := by
  have := (rNormal_both l hl htx l.length 0 (by omega) (by omega)).1 [] k hk (by simp) (fun _ h => absurd rfl h.1)
  rwa [List.drop_zero] at this
theorem pNormal_f (l : List S27) (hl : l.length ≤ 1000) (htx : textsN l ≤ 1000000) (k : Nat) : pick_Normal.f k l = some (normG l) := by
  unfold pick_Normal.f; rw [if_pos ⟨by omega, htx⟩]
end Go.Proofs.Ytiaoppikdgoieaa.Pure
namespace Go.Proofs.Ytiaoppikdgoieaa.Pure
open Go.RowKit Go.Proofs.Ytiaoppikdgoieaa.M Go.Proofs.Ytiaoppikdgoieaa.Hand Go.Proofs.YtiaoppikdgoieaaW.PrintWords Go.Proofs.YtiaoppikdgoieaaW.PrintLast Go.Proofs.YtiaoppikdgoieaaW.PrintMore
set_option linter.unusedVariables false
set_option linter.unusedSimpArgs false

/-- Is the last text not ended, as the reference asks it. -/
theorem rOpen_f (l : List ByteArray) (hl : l.length ≤ 1000000) (hs : ∀ s ∈ l, s.size ≤ 1000000) : sennitref01_Open.f l = some (openL l) := by
  unfold sennitref01_Open.f openL
  cases h : l.getLast? with
  | none =>
    have : l = [] := List.getLast?_eq_none_iff.1 h
    subst this
    rw [if_pos (by simp)]
  | some s =>
    obtain ⟨hp, hr, hm⟩ := rdS_last h
    have hw : wrap64 ((l.length : Int) - 1) = ((l.length - 1 : Nat) : Int) := by unfold wrap64; omega
    have hz := hs s hm
    rw [if_neg (by omega), hw, if_pos (by omega), if_pos (by omega), hr]
    have hlen : s.data.toList.length = s.size := rfl
    by_cases h0 : s.size = 0
    · rw [if_pos (by omega)]
      have : s.data.toList = [] := List.eq_nil_of_length_eq_zero (by omega)
      simp [feedB, this]
    · have hw2 : wrap64 ((s.size : Int) - 1) = ((s.size - 1 : Nat) : Int) := by unfold wrap64; omega
      rw [if_neg (by omega), hw2, if_pos (by omega), if_pos (by omega)]
      congr 1
      have hne : s.data.toList ≠ [] := by intro e; rw [e] at hlen; simp at hlen; omega
      have hb : bt s ((s.size - 1 : Nat) : Int) = ((s.data.toList.getLast hne).toNat : Int) := by
        have h1 : s.size - 1 < s.data.toList.length := by omega
        have e1 : s.data.toList.getLast hne = s.data.toList[s.size - 1]'h1 := by
          rw [List.getLast_eq_getElem]; rfl
        rw [e1]
        unfold bt
        have : ((s.size - 1 : Nat) : Int).toNat = s.size - 1 := by omega
        simp only [this]
        rw [dif_pos (by omega)]
        rfl
      rw [hb]
      simp only [feedB, List.getLast?_eq_some_getLast hne]
      rw [Bool.eq_iff_iff]
      simp only [bne_iff_ne, ne_eq, Bool.not_eq_true', beq_eq_false_iff_ne, Option.some.injEq]
      constructor
      · intro h e; exact h (by rw [e]; rfl)
      · intro h e; exact h (by
          apply UInt8.toNat_inj.1
          have : ((10 : UInt8).toNat : Int) = 10 := rfl
          omega)

/-! The reference's union is the code's. -/
def anyN (l : List (List ByteArray)) : Bool := l.any fun x => decide (x ≠ [])
def fixL (b : Bool) (x : List ByteArray) : List ByteArray := if b = true ∧ openL x = true then endL x else x
def refU : List (List ByteArray) → List ByteArray
  | [] => []
  | x :: t => fixL (anyN t) x ++ refU t
theorem openL_app (o x : List ByteArray) (h : x ≠ []) : openL (o ++ x) = openL x := by
  unfold openL
  rw [List.getLast?_append, List.getLast?_eq_some_getLast h]
  rfl
theorem openL_nil : openL [] = false := rfl
theorem endL_app (o x : List ByteArray) (h : x ≠ []) : endL (o ++ x) = o ++ endL x := by
  have hp : 0 < x.length := List.length_pos_iff.2 h
  unfold endL
  have e1 : rdOf ByteArray.empty (o ++ x) (((o ++ x).length - 1 : Nat) : Int) = rdOf ByteArray.empty x ((x.length - 1 : Nat) : Int) := by
    rw [rdOf_get _ _ _ (by simp; omega), rdOf_get _ _ _ (by omega), List.getElem_append_right (by simp; omega)]
    congr 1
    simp; omega
  rw [e1, List.set_append_right _ _ (by simp; omega)]
  congr 2
  simp; omega
theorem anyN_cons (x : List ByteArray) (t : List (List ByteArray)) : anyN (x :: t) = (decide (x ≠ []) || anyN t) := by simp [anyN]
theorem foldU : ∀ (l : List (List ByteArray)) (o : List ByteArray), l.foldl unionS o = fixL (anyN l) o ++ refU l
  | [], o => by simp [fixL, anyN, refU]
  | x :: t, o => by
    rw [List.foldl_cons, foldU t, refU, ← List.append_assoc, anyN_cons]
    congr 1
    by_cases hx : x = []
    · subst hx
      simp [unionS, fixL, openL_nil]
    · have e : unionS o x = fixL true o ++ x := by
        unfold unionS fixL
        by_cases ho : openL o = true
        · rw [if_pos ⟨hx, ho⟩, if_pos ⟨rfl, ho⟩]
        · rw [if_neg (fun h => ho h.2), if_neg (fun h => ho h.2)]
      rw [e, decide_eq_true hx, Bool.true_or]
      unfold fixL
      rw [openL_app _ _ hx]
      by_cases hc : anyN t = true ∧ openL x = true
      · rw [if_pos hc, if_pos hc, endL_app _ _ hx]
      · rw [if_neg hc, if_neg hc]
theorem unionG_ref (l : List (List ByteArray)) : unionG l = refU l := by
  unfold unionG
  rw [foldU]
  unfold fixL
  rw [openL_nil, if_neg (by simp)]; rfl
theorem refU_app : ∀ (a : List (List ByteArray)) (i : Nat) (h : i < a.length), refU (a.drop i) = fixL (anyN (a.drop (i + 1))) a[i] ++ refU (a.drop (i + 1)) := by
  intro a i h
  rw [List.drop_eq_getElem_cons h, refU]

/-- The reference's innermost loop: a list's texts, the last one ended if need be. -/
theorem runion_l2 (l : List (List ByteArray)) (hl : l.length ≤ 100) (i : Nat) (hi : i < l.length) (x : List ByteArray) (hx : l[i] = x) (hxl : x.length ≤ 1000) (hxs : ∀ s ∈ x, s.size ≤ 1000000) (b : Bool) (acc0 r : List ByteArray) (hacc : acc0.length ≤ 1000000) (K : Nat)
    (hend : ∀ k, K ≤ k → sennitref07_union.l0 k l (acc0 ++ fixL b x) ((i + 1 : Nat) : Int) = some r) (d : Nat) :
    ∀ (j k : Nat), j ≤ x.length → x.length - j = d → K + d + 1 ≤ k → sennitref07_union.l2 k l (acc0 ++ (fixL b x).take j) (i : Int) b (j : Int) = some r := by
  have hfl : (fixL b x).length = x.length := by unfold fixL; split; exact endL_len x; rfl
  induction d with
  | zero =>
    intro j k hj hd hk
    obtain ⟨k, rfl⟩ : ∃ q, k = q + 1 := ⟨k - 1, by omega⟩
    rw [sennitref07_union.l2, if_pos (by omega), if_pos (by omega), rdL1 _ _ hi, hx, if_neg (by omega), wrap_succ hi (by omega), List.take_of_length_le (by omega)]
    exact hend k (by omega)
  | succ d ih =>
    intro j k hj hd hk
    obtain ⟨k, rfl⟩ : ∃ q, k = q + 1 := ⟨k - 1, by omega⟩
    have hlt : j < x.length := by omega
    have hnext := ih (j + 1) k (by omega) (by omega) (by omega)
    have htk : (fixL b x).take (j + 1) = (fixL b x).take j ++ [(fixL b x)[j]'(by omega)] := by rw [List.take_succ_eq_append_getElem (by omega)]
    rw [htk, ← List.append_assoc] at hnext
    have hal : (acc0 ++ (fixL b x).take j).length ≤ 1001000 := by rw [List.length_append, List.length_take]; omega
    have hw : wrap64 ((x.length : Int) - 1) = ((x.length - 1 : Nat) : Int) := by unfold wrap64; omega
    have hop := rOpen_f x (by omega) hxs
    rw [sennitref07_union.l2, if_pos (by omega), if_pos (by omega), rdL1 _ _ hi, hx, if_pos (by omega), if_pos (by omega), hw, rdOf_get _ _ _ hlt, wrap_succ hlt (by omega), hop]
    have hsz := hxs _ (List.getElem_mem hlt)
    by_cases hlast : (j : Int) = ((x.length - 1 : Nat) : Int)
    · have hjl : j = x.length - 1 := by omega
      rw [if_pos hlast]
      cases b with
      | false =>
        have e : (fixL false x)[j]'(by omega) = x[j] := by simp [fixL]
        rw [if_neg (by decide), if_pos (by omega), ← e]; exact hnext
      | true =>
        rw [if_pos rfl, Option.bind_some]
        by_cases ho : openL x = true
        · have e : (fixL true x)[j]'(by omega) = x[j] ++ (⟨#[10]⟩ : ByteArray) := by
            have e1 : fixL true x = endL x := by unfold fixL; rw [if_pos ⟨rfl, ho⟩]
            have e2 : (fixL true x)[j]? = some (x[j] ++ (⟨#[10]⟩ : ByteArray)) := by
              rw [e1]; unfold endL
              rw [← hjl, List.getElem?_set_self hlt, rdOf_get _ _ _ hlt]
            rw [List.getElem?_eq_getElem (by omega)] at e2
            exact Option.some.inj e2
          rw [ho, if_pos rfl, if_pos (by omega), if_pos (by omega), ← e]; exact hnext
        · have e : (fixL true x)[j]'(by omega) = x[j] := by
            have e1 : fixL true x = x := by unfold fixL; rw [if_neg (fun h => ho h.2)]
            simp [e1]
          rw [Bool.eq_false_iff.mpr ho, if_neg (by decide), if_pos (by omega), ← e]; exact hnext
    · have e : (fixL b x)[j]'(by omega) = x[j] := by
        have e2 : (fixL b x)[j]? = some x[j] := by
          unfold fixL
          split
          · unfold endL
            rw [List.getElem?_set_ne (by omega), List.getElem?_eq_getElem hlt]
          · rw [List.getElem?_eq_getElem hlt]
        rw [List.getElem?_eq_getElem (by omega)] at e2
        exact Option.some.inj e2
      rw [if_neg hlast, if_pos (by omega), ← e]; exact hnext
theorem runion_l1 (l : List (List ByteArray)) (hl : l.length ≤ 100) (hs : ∀ x ∈ l, x.length ≤ 1000) (i : Nat) (hi : i < l.length) (acc r : List ByteArray) (K : Nat) (d : Nat) :
    ∀ (m : Nat) (b : Bool) (k : Nat), m ≤ l.length → l.length - m = d → i < m → K + d + 1 ≤ k → (∀ k, K ≤ k → sennitref07_union.l2 k l acc (i : Int) (b || anyN (l.drop m)) 0 = some r) → sennitref07_union.l1 k l acc (i : Int) b (m : Int) = some r := by
  induction d with
  | zero =>
    intro m b k hm hd him hk h
    obtain ⟨k, rfl⟩ : ∃ q, k = q + 1 := ⟨k - 1, by omega⟩
    rw [sennitref07_union.l1, if_neg (by omega)]
    have := h k (by omega)
    rw [List.drop_of_length_le (by omega)] at this
    simpa [anyN] using this
  | succ d ih =>
    intro m b k hm hd him hk h
    obtain ⟨k, rfl⟩ : ∃ q, k = q + 1 := ⟨k - 1, by omega⟩
    have hlt : m < l.length := by omega
    rw [sennitref07_union.l1, if_pos (by omega), wrap_succ hlt (by omega)]
    have hdr := List.drop_eq_getElem_cons hlt
    cases b with
    | true =>
      rw [if_pos rfl]
      refine ih (m + 1) true k (by omega) (by omega) (by omega) (by omega) (fun q hq => ?_)
      have := h q hq
      rwa [Bool.true_or] at this ⊢
    | false =>
      rw [if_neg (by decide), if_pos (by omega), rdL1 _ _ hlt]
      refine ih (m + 1) _ k (by omega) (by omega) (by omega) (by omega) (fun q hq => ?_)
      have := h q hq
      rw [hdr, anyN_cons, Bool.false_or] at this
      have e : decide ((l[m].length : Int) > 0) = decide (l[m] ≠ []) := by
        have := List.length_pos_iff (l := l[m])
        by_cases hz : l[m] = []
        · rw [decide_eq_false (by rw [hz]; simp), decide_eq_false (by rw [hz]; simp)]
        · have := List.length_pos_iff.2 hz
          rw [decide_eq_true (by omega), decide_eq_true hz]
      rw [e]; exact this
theorem runion_l0 (l : List (List ByteArray)) (hl : l.length ≤ 100) (hs : ∀ x ∈ l, x.length ≤ 1000) (hb : ∀ x ∈ l, ∀ s ∈ x, s.size ≤ 1000000) (d : Nat) :
    ∀ (i : Nat) (acc : List ByteArray) (k : Nat), i ≤ l.length → l.length - i = d → acc.length ≤ 1000 * i → 2000 * d + 1 ≤ k → sennitref07_union.l0 k l acc (i : Int) = some (acc ++ refU (l.drop i)) := by
  induction d with
  | zero =>
    intro i acc k hi hd ha hk
    obtain ⟨k, rfl⟩ : ∃ q, k = q + 1 := ⟨k - 1, by omega⟩
    rw [sennitref07_union.l0, if_neg (by omega), List.drop_of_length_le (by omega)]; simp [refU]
  | succ d ih =>
    intro i acc k hi hd ha hk
    obtain ⟨k, rfl⟩ : ∃ q, k = q + 1 := ⟨k - 1, by omega⟩
    have hlt : i < l.length := by omega
    have hxl := hs _ (List.getElem_mem hlt)
    rw [sennitref07_union.l0, if_pos (by omega), wrap_succ hlt (by omega), refU_app l i hlt, ← List.append_assoc]
    refine runion_l1 l hl hs i hlt acc _ (2000 * d + 1 + 1000 + 2) (l.length - (i + 1)) (i + 1) false k (by omega) rfl (by omega) (by omega) (fun q hq => ?_)
    rw [Bool.false_or]
    have hfl : (fixL (anyN (l.drop (i + 1))) l[i]).length = l[i].length := by unfold fixL; split; exact endL_len _; rfl
    have := runion_l2 l hl i hlt l[i] rfl hxl (hb _ (List.getElem_mem hlt)) (anyN (l.drop (i + 1))) acc _ (by omega) (2000 * d + 1) (fun q2 hq2 => ih (i + 1) (acc ++ fixL (anyN (l.drop (i + 1))) l[i]) q2 (by omega) (by omega) (by rw [List.length_append]; omega) hq2) l[i].length 0 q (by omega) rfl (by omega)
    rwa [List.take_zero, List.append_nil] at this
theorem rUnion_f (l : List (List ByteArray)) (hl : l.length ≤ 100) (hs : ∀ x ∈ l, x.length ≤ 1000) (hb : ∀ x ∈ l, ∀ s ∈ x, s.size ≤ 1000000) (k : Nat) (hk : 2000 * l.length + 1 ≤ k) : sennitref07_union.f k l = some (unionG l) := by
  have := runion_l0 l hl hs hb l.length 0 [] k (by omega) (by omega) (by simp) hk
  rwa [List.drop_zero, List.nil_append, ← unionG_ref] at this
theorem flat_len (l : List (List ByteArray)) (M : Nat) (hs : ∀ x ∈ l, x.length ≤ M) : l.flatten.length ≤ M * l.length := by
  induction l with
  | nil => simp
  | cons x t ih =>
    have h1 := ih (fun y hy => hs y (List.mem_cons_of_mem _ hy))
    have h2 := hs x (List.mem_cons_self ..)
    rw [List.flatten_cons, List.length_append, List.length_cons, Nat.mul_add]; omega
theorem pUnion_f (l : List (List ByteArray)) (hl : l.length ≤ 100) (hs : ∀ x ∈ l, x.length ≤ 1000) (hb : ∀ x ∈ l, ∀ s ∈ x, s.size ≤ 1000000) (k : Nat) : pick_union.f k l = some (unionG l) := by
  have := flat_len l 1000 hs
  unfold pick_union.f; rw [if_pos ⟨by omega, by omega, hb⟩]

/-- What becomes of a base, and parts. -/
def pieceG (base : List ByteArray) (parts : List (List ByteArray)) (fav : Int) (un : Bool) : Bool × List ByteArray × List ByteArray × List (List ByteArray) :=
  if (othersG base parts []).length = 0 then (false, base, [], [])
  else if (othersG base parts []).length = 1 then (false, rd_L1 (othersG base parts []) 0, [], [])
  else if 1 ≤ fav ∧ fav ≤ (parts.length : Int) then (false, rd_L1 parts (fav - 1), [], [])
  else if un = true then (false, unionG (othersG base parts []), [], [])
  else (true, [], base, parts)
theorem others_small {base : List ByteArray} {parts : List (List ByteArray)} (h2 : parts.length ≤ 6) (h3 : ∀ x ∈ parts, Small x) :
    (othersG base parts []).length ≤ 6 ∧ (∀ x ∈ othersG base parts [], x.length ≤ 20) ∧ ∀ x ∈ othersG base parts [], ∀ s ∈ x, s.size ≤ 100 := by
  have hm : ∀ x ∈ othersG base parts [], Small x := fun x hx => by
    rcases othersG_mem base parts [] x hx with h | h
    · cases h
    · exact h3 x h.1
  refine ⟨by have := othersG_len base parts []; simp at this; omega, fun x hx => (hm x hx).1, fun x hx => (hm x hx).2⟩
theorem pPiece_f (base : List ByteArray) (parts : List (List ByteArray)) (fav : Int) (un : Bool) (h2 : parts.length ≤ 6) (h3 : ∀ x ∈ parts, Small x) (k : Nat) : pick_Piece.f (k + 1) base parts fav un = some (pieceG base parts fav un) := by
  obtain ⟨o1, o2, o3⟩ := others_small (base := base) h2 h3
  unfold pick_Piece.f pieceG
  rw [Differing_f _ _ (by omega), Option.bind_some]
  have hj : ∀ b : Bool, b = decide (1 ≤ fav ∧ fav ≤ (parts.length : Int)) → pick_Piece.j0 (k + 1) base parts (othersG base parts []) b fav un = some (if 1 ≤ fav ∧ fav ≤ (parts.length : Int) then (false, rd_L1 parts (fav - 1), [], []) else if un = true then (false, unionG (othersG base parts []), [], []) else (true, [], base, parts)) := by
    intro b hb
    rw [pick_Piece.j0]
    by_cases hc : 1 ≤ fav ∧ fav ≤ (parts.length : Int)
    · have hw : wrap64 (fav - 1) = fav - 1 := by unfold wrap64; omega
      rw [hb, decide_eq_true hc, if_pos rfl, hw, if_pos (by omega), if_pos (by omega), if_pos hc]
    · rw [hb, decide_eq_false hc, if_neg (by decide), if_neg hc]
      cases un with
      | true => rw [if_pos rfl, if_pos rfl, pUnion_f _ (by omega) (fun x hx => by have := o2 x hx; omega) (fun x hx s hs => by have := o3 x hx s hs; omega), Option.bind_some]
      | false => rw [if_neg (by decide), if_neg (by decide)]
  by_cases h0 : (othersG base parts []).length = 0
  · rw [if_pos (by omega), if_pos h0]
  · rw [if_neg (by omega), if_neg h0]
    by_cases h1 : (othersG base parts []).length = 1
    · rw [if_pos (by omega), if_pos h1, if_pos (by omega)]
    · rw [if_neg (by omega), if_neg h1]
      by_cases hf : fav ≥ 1
      · rw [if_pos hf]; exact hj _ (by rw [Bool.eq_iff_iff]; simp; intro _; omega)
      · rw [if_neg hf]; exact hj _ (by rw [Bool.eq_iff_iff]; simp; intro _; omega)
theorem rPiece_f (base : List ByteArray) (parts : List (List ByteArray)) (fav : Int) (un : Bool) (h2 : parts.length ≤ 6) (h3 : ∀ x ∈ parts, Small x) (k : Nat) (hk : 20000 ≤ k) : sennitref07_Piece.f k base parts fav un = some (pieceG base parts fav un) := by
  obtain ⟨o1, o2, o3⟩ := others_small (base := base) h2 h3
  obtain ⟨k, rfl⟩ : ∃ q, k = q + 1 := ⟨k - 1, by omega⟩
  unfold sennitref07_Piece.f pieceG
  rw [diff_f _ _ (fun x hx => by have := (h3 x hx).1; omega) (by omega) _ (by omega), Option.bind_some]
  have hj : ∀ b : Bool, b = decide (1 ≤ fav ∧ fav ≤ (parts.length : Int)) → sennitref07_Piece.j0 (k + 1) base parts (othersG base parts []) b fav un = some (if 1 ≤ fav ∧ fav ≤ (parts.length : Int) then (false, rd_L1 parts (fav - 1), [], []) else if un = true then (false, unionG (othersG base parts []), [], []) else (true, [], base, parts)) := by
    intro b hb
    rw [sennitref07_Piece.j0]
    by_cases hc : 1 ≤ fav ∧ fav ≤ (parts.length : Int)
    · have hw : wrap64 (fav - 1) = fav - 1 := by unfold wrap64; omega
      rw [hb, decide_eq_true hc, if_pos rfl, hw, if_pos (by omega), if_pos (by omega), if_pos hc]
    · rw [hb, decide_eq_false hc, if_neg (by decide), if_neg hc]
      cases un with
      | true => rw [if_pos rfl, if_pos rfl, rUnion_f _ (by omega) (fun x hx => by have := o2 x hx; omega) (fun x hx s hs => by have := o3 x hx s hs; omega) _ (by omega), Option.bind_some]
      | false => rw [if_neg (by decide), if_neg (by decide)]
  by_cases h0 : (othersG base parts []).length = 0
  · rw [if_pos (by omega), if_pos h0]
  · rw [if_neg (by omega), if_neg h0]
    by_cases h1 : (othersG base parts []).length = 1
    · rw [if_pos (by omega), if_pos h1, if_pos (by omega)]
    · rw [if_neg (by omega), if_neg h1]
      by_cases hf : fav > 0
      · rw [if_pos hf]; exact hj _ (by rw [Bool.eq_iff_iff]; simp; intro _; omega)
      · rw [if_neg hf]; exact hj _ (by rw [Bool.eq_iff_iff]; simp; intro _; omega)
/-- The piece as one value. -/
def pieceS (base : List ByteArray) (parts : List (List ByteArray)) (fav : Int) (un : Bool) : S27 := ⟨(pieceG base parts fav un).1, (pieceG base parts fav un).2.1, (pieceG base parts fav un).2.2.1, (pieceG base parts fav un).2.2.2⟩
theorem pieceG_f3 (base : List ByteArray) (parts : List (List ByteArray)) (fav : Int) (un : Bool) : (pieceG base parts fav un).2.2.2 = [] ∨ (pieceG base parts fav un).2.2.2 = parts := by
  unfold pieceG
  split
  · exact .inl rfl
  · split
    · exact .inl rfl
    · split
      · exact .inl rfl
      · split
        · exact .inl rfl
        · exact .inr rfl
end Go.Proofs.Ytiaoppikdgoieaa.Pure
namespace Go.Proofs.Ytiaoppikdgoieaa.Pure
open Go.RowKit Go.Proofs.Ytiaoppikdgoieaa.M Go.Proofs.Ytiaoppikdgoieaa.Hand Go.Proofs.YtiaoppikdgoieaaW.PrintWords Go.Proofs.YtiaoppikdgoieaaW.PrintLast Go.Proofs.YtiaoppikdgoieaaW.PrintMore
set_option linter.unusedVariables false
theorem unionG_length (l : List (List ByteArray)) : (unionG l).length = l.flatten.length := by
  have := unionG_len l l.length
  rwa [List.take_length] at this
theorem unionS_closed (o k : List ByteArray) (h : openL o = false) : unionS o k = o ++ k := by
  unfold unionS; rw [if_neg (fun e => by rw [h] at e; cases e.2)]
theorem openL_app0 (o k : List ByteArray) (h : openL o = false) (hk : openL k = false) : openL (o ++ k) = false := by
  by_cases e : k = []
  · rw [e, List.append_nil]; exact h
  · rw [openL_app _ _ e]; exact hk
theorem foldU_closed : ∀ (l : List (List ByteArray)) (o : List ByteArray), openL o = false → (∀ x ∈ l, openL x = false) → l.foldl unionS o = o ++ l.flatten
  | [], o, _, _ => by simp
  | x :: t, o, ho, hl => by
    have hx := hl x (List.mem_cons_self ..)
    rw [List.foldl_cons, unionS_closed _ _ ho, foldU_closed t _ (openL_app0 _ _ ho hx) (fun y hy => hl y (List.mem_cons_of_mem _ hy)), List.flatten_cons, List.append_assoc]
theorem union_l0 (base : List ByteArray) (hb : base.length ≤ 20) (d : List (List ByteArray)) (hd6 : d.length ≤ 6) (hd : ∀ x ∈ d, x.length ≤ 20) (hds : ∀ x ∈ d, ∀ s ∈ x, s.size ≤ 100) (t : List ByteArray) (x2 : List ByteArray) (x3 : List (List ByteArray))
    (hz : d.length = 0 → t = base) (hlen : d.length ≠ 0 → t.length = d.flatten.length) (hcl : d.length ≠ 0 → (d.any openL) = false → t = d.flatten) (n : Nat) :
    ∀ (i k : Nat), i ≤ d.length → d.length - i = n → n + 1000 ≤ k → sennitlaw07_PickUnion.l0 k base true (d.take i).flatten ((d.take i).any openL) d (i : Int) false t x2 x3 = some true := by
  induction n with
  | zero =>
    intro i k hi hn hk
    obtain ⟨k, rfl⟩ : ∃ q, k = q + 1 := ⟨k - 1, by omega⟩
    have hf := flat_len d 20 hd
    rw [sennitlaw07_PickUnion.l0, if_neg (by omega), List.take_of_length_le (by omega)]
    by_cases h0 : d.length = 0
    · have ht := hz h0
      rw [if_pos (by omega), if_pos rfl, if_neg (by decide), ht, if_pos rfl]
      cases ho : d.any openL with
      | true => rw [if_pos rfl]
      | false => rw [if_neg (by decide), same_f _ _ (by omega) _ (by omega)]; simp
    · have hl := hlen h0
      rw [if_neg (by omega), if_pos rfl, if_neg (by decide), if_pos (by omega)]
      cases ho : d.any openL with
      | true => rw [if_pos rfl]
      | false => rw [if_neg (by decide), hcl h0 ho, same_f _ _ (by omega) _ (by omega)]; simp
  | succ n ih =>
    intro i k hi hn hk
    obtain ⟨k, rfl⟩ : ∃ q, k = q + 1 := ⟨k - 1, by omega⟩
    have hlt : i < d.length := by omega
    have hm := List.getElem_mem hlt
    have hx := hd _ hm
    have hf := flat_len (d.take i) 20 (fun x hx => hd x (List.mem_of_mem_take hx))
    have hnext := ih (i + 1) k (by omega) (by omega) (by omega)
    have e1 : (d.take (i + 1)).flatten = (d.take i).flatten ++ d[i] := flat_snoc d i _ (List.getElem?_eq_getElem hlt)
    have e2 : (d.take (i + 1)).any openL = ((d.take i).any openL || openL d[i]) := by rw [take_snoc d i _ (List.getElem?_eq_getElem hlt), List.any_append, List.any_cons, List.any_nil, Bool.or_false]
    rw [e1, e2] at hnext
    have hti : (d.take i).length ≤ 6 := by rw [List.length_take]; omega
    rw [sennitlaw07_PickUnion.l0, if_pos (by omega), if_pos (by omega), rdL1 _ _ hlt, if_pos (by omega), Option.bind_some, wrap_succ hlt (by omega)]
    cases ho : (d.take i).any openL with
    | true =>
      rw [if_pos rfl]
      rw [ho, Bool.true_or] at hnext
      exact hnext
    | false =>
      rw [ho, Bool.false_or] at hnext
      rw [if_neg (by decide), rOpen_f _ (by omega) (fun s hs => by have := hds _ hm s hs; omega), Option.bind_some]
      exact hnext
theorem PickUnion (l0 : List ByteArray) (n0 : l0.length ≤ 9223372036854775807) (o0 : ∀ s ∈ l0, s.size ≤ 9223372036854775807) (l1 : List (List ByteArray)) (n1 : l1.length ≤ 9223372036854775807) (o1 : ∀ x ∈ l1, x.length ≤ 9223372036854775807 ∧ ∀ s ∈ x, s.size ≤ 9223372036854775807) : ∃ k, sennitlaw07_PickUnion.f k l0 l1 = some true := by
  obtain ⟨t, ht, hT⟩ := few06_f l0 l1 n0 n1 (fun x hx => (o1 x hx).1)
  refine ⟨20001, ?_⟩
  unfold sennitlaw07_PickUnion.f
  rw [awake07 _ (by omega), Option.bind_some, ht _ (by omega), Option.bind_some]
  cases t with
  | false => rfl
  | true =>
    obtain ⟨h1, h2, h3⟩ := hT rfl
    obtain ⟨q1, q2, q3⟩ := others_small (base := l0) h2 h3
    rw [if_pos rfl, pPiece_f l0 l1 0 true h2 h3 20000, Option.bind_some, diff_f _ _ (fun x hx => by have := (h3 x hx).1; omega) (by omega) _ (by omega), Option.bind_some]
    have key : (pieceG l0 l1 0 true).1 = false ∧ ((othersG l0 l1 []).length = 0 → (pieceG l0 l1 0 true).2.1 = l0) ∧ ((othersG l0 l1 []).length ≠ 0 → (pieceG l0 l1 0 true).2.1.length = (othersG l0 l1 []).flatten.length) ∧
        ((othersG l0 l1 []).length ≠ 0 → (othersG l0 l1 []).any openL = false → (pieceG l0 l1 0 true).2.1 = (othersG l0 l1 []).flatten) := by
      unfold pieceG
      by_cases c0 : (othersG l0 l1 []).length = 0
      · rw [if_pos c0]
        exact ⟨rfl, fun _ => rfl, fun h => absurd c0 h, fun h => absurd c0 h⟩
      · rw [if_neg c0]
        by_cases c1 : (othersG l0 l1 []).length = 1
        · rw [if_pos c1]
          have e : (othersG l0 l1 []).flatten = rd_L1 (othersG l0 l1 []) 0 := by
            obtain ⟨x, hx⟩ := List.length_eq_one_iff.1 c1
            rw [hx]; simp [rd_L1]
          rw [e]
          exact ⟨rfl, fun h => absurd h c0, fun _ => rfl, fun _ _ => rfl⟩
        · rw [if_neg c1, if_neg (by omega), if_pos rfl]
          refine ⟨rfl, fun h => absurd h c0, fun _ => unionG_length _, fun _ ho => ?_⟩
          show unionG _ = _
          unfold unionG
          rw [foldU_closed _ _ rfl (fun x hx => by
            cases hq : openL x with
            | false => rfl
            | true => rw [List.any_eq_true.2 ⟨x, hx, hq⟩] at ho; cases ho), List.nil_append]
    obtain ⟨k1, k2, k3, k4⟩ := key
    rw [k1]
    have := union_l0 l0 h1.1 (othersG l0 l1 []) q1 q2 q3 (pieceG l0 l1 0 true).2.1 (pieceG l0 l1 0 true).2.2.1 (pieceG l0 l1 0 true).2.2.2 k2 k3 k4 (othersG l0 l1 []).length 0 20001 (by omega) (by omega) (by omega)
    simpa using this
end Go.Proofs.Ytiaoppikdgoieaa.Pure
