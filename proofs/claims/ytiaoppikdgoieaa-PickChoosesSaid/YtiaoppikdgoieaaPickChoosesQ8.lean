/- Texts of the claim PickChooses, put together (part 8): Layer 7: pieces as they come in. Layer 7: pieces put together. Plain Lean. Layer 7: what the reference chooses. Plain Lean. The plain law of PickChooses: what the printed functions answer is true. -/
import Derived.ArgAppend
import Derived.Below
import Derived.BigQuiet
import Derived.ChangeArms
import Derived.Deep.AppendLies
import Derived.Deep.CutBlock
import Derived.Deep.DeepCutAuto
import Derived.Deep.Draws
import Derived.Deep.LoopGhost
import Derived.Deep.OwnRows
import Derived.Deep.QuietTactic
import Derived.Deep.RegionHeld3
import Derived.Deep.Slices
import Derived.KernelRfl
import Derived.Laws.BitsLemmas
import Derived.Laws.BytesArg
import Derived.Laws.EntriesVeiled
import Derived.Laws.IdiomCopy
import Derived.Laws.MakeOwn
import Derived.Laws.OwnMore
import Derived.Laws.Rows
import Derived.Laws.Slices
import Derived.Lib.AppendStr
import Derived.Lib.ConvBytes
import Derived.Maps.AppendAt
import Derived.OpenShut
import Derived.OrdersHeld
import Derived.OwnWalk
import Derived.RangeFuncBox
import Derived.RowKit
import Derived.RowKit3
import Derived.Tactics
import Derived.Test.YtiaoppikdgoieaaProg
import Derived.Test.YtiaoppikdgoieaaWApart
import Derived.Test.YtiaoppikdgoieaaWArr
import Derived.Test.YtiaoppikdgoieaaWAt
import Derived.Test.YtiaoppikdgoieaaWEqStruct
import Derived.Test.YtiaoppikdgoieaaWFoot
import Derived.Test.YtiaoppikdgoieaaWFootNe
import Derived.Test.YtiaoppikdgoieaaWFour
import Derived.Test.YtiaoppikdgoieaaWGuard
import Derived.Test.YtiaoppikdgoieaaWInv
import Derived.Test.YtiaoppikdgoieaaWInvWords
import Derived.Test.YtiaoppikdgoieaaWKept
import Derived.Test.YtiaoppikdgoieaaWLast
import Derived.Test.YtiaoppikdgoieaaWMore
import Derived.Test.YtiaoppikdgoieaaWN
import Derived.Test.YtiaoppikdgoieaaWNEv
import Derived.Test.YtiaoppikdgoieaaWQPut
import Derived.Test.YtiaoppikdgoieaaWRepsOne
import Derived.Test.YtiaoppikdgoieaaWShare
import Derived.Test.YtiaoppikdgoieaaWTab
import Derived.Test.YtiaoppikdgoieaaWWords
import Derived.Test.YtiaoppikdgoieaaWZeros
import Derived.WalkKit
import Derived.WideLaws
import Derived.Test.YtiaoppikdgoieaaPickChoosesQ7
namespace Go.Proofs.Ytiaoppikdgoieaa.Pure
open Go.RowKit Go.Proofs.Ytiaoppikdgoieaa.M Go.Proofs.Ytiaoppikdgoieaa.Hand Go.Proofs.YtiaoppikdgoieaaW.PrintWords Go.Proofs.YtiaoppikdgoieaaW.PrintLast Go.Proofs.YtiaoppikdgoieaaW.PrintMore
theorem okIn_of {p : S27} (h : ok_27 p) : okIn p := ⟨h.2.1.1, h.2.2.1.1, h.2.2.2.1, fun x hx => (h.2.2.2.2 x hx).1⟩
theorem okIn_all {l : List S27} (h : ∀ p ∈ l, ok_27 p) : ∀ p ∈ l, okIn p := fun p hp => okIn_of (h p hp)
end Go.Proofs.Ytiaoppikdgoieaa.Pure
namespace Go.Proofs.Ytiaoppikdgoieaa.Pure
open Go.RowKit Go.Proofs.Ytiaoppikdgoieaa.M Go.Proofs.Ytiaoppikdgoieaa.Hand Go.Proofs.YtiaoppikdgoieaaW.PrintWords Go.Proofs.YtiaoppikdgoieaaW.PrintLast Go.Proofs.YtiaoppikdgoieaaW.PrintMore
set_option linter.unusedVariables false
set_option linter.unusedSimpArgs false

/-- The last piece is a text. -/
def lastT (acc : List S27) : Prop := acc ≠ [] ∧ (rd_T27 acc ((acc.length - 1 : Nat) : Int)).f0 = false
theorem rd_snoc (init : List S27) (q : S27) : rd_T27 (init ++ [q]) (((init ++ [q]).length - 1 : Nat) : Int) = q := by
  have h : (init ++ [q]).length - 1 < (init ++ [q]).length := by simp
  rw [rdT27 _ _ h]; simp
theorem lastT_snoc (init : List S27) (q : S27) : lastT (init ++ [q]) ↔ q.f0 = false := by
  unfold lastT
  rw [rd_snoc]; simp
theorem putG_conf (acc : List S27) (x : S27) (h : x.f0 = true) : putG acc x = acc ++ [⟨true, [], x.f2, x.f3⟩] := by unfold putG; rw [if_pos h]
theorem putG_none (acc : List S27) (x : S27) (h : x.f0 = false) (h1 : x.f1 = []) : putG acc x = acc := by unfold putG; rw [if_neg (by rw [h]; decide), if_pos h1]
theorem putG_new (acc : List S27) (x : S27) (h : x.f0 = false) (h1 : x.f1 ≠ []) (hl : ¬ lastT acc) : putG acc x = acc ++ [⟨false, x.f1, [], []⟩] := by unfold putG; rw [if_neg (by rw [h]; decide), if_neg h1]; exact if_neg hl
theorem putG_more (init : List S27) (q x : S27) (h : x.f0 = false) (h1 : x.f1 ≠ []) (hq : q.f0 = false) : putG (init ++ [q]) x = init ++ [⟨false, q.f1 ++ x.f1, q.f2, q.f3⟩] := by
  have hl : lastT (init ++ [q]) := (lastT_snoc init q).2 hq
  unfold putG; rw [if_neg (by rw [h]; decide), if_neg h1]
  refine (if_pos hl).trans ?_
  rw [rd_snoc]
  simp
/-- The cases of one more piece. -/
theorem putG_cases {R : List S27 → S27 → List S27 → Prop} (acc : List S27) (x : S27) (hc : x.f0 = true → R acc x (acc ++ [⟨true, [], x.f2, x.f3⟩])) (hn : x.f0 = false → x.f1 = [] → R acc x acc)
    (hw : x.f0 = false → x.f1 ≠ [] → ¬ lastT acc → R acc x (acc ++ [⟨false, x.f1, [], []⟩])) (hm : ∀ init q, acc = init ++ [q] → q.f0 = false → x.f0 = false → x.f1 ≠ [] → R (init ++ [q]) x (init ++ [⟨false, q.f1 ++ x.f1, q.f2, q.f3⟩])) : R acc x (putG acc x) := by
  cases h : x.f0 with
  | true => rw [putG_conf acc x h]; exact hc h
  | false =>
    by_cases h1 : x.f1 = []
    · rw [putG_none acc x h h1]; exact hn h h1
    · by_cases hl : lastT acc
      · rcases List.eq_nil_or_concat acc with e | ⟨init, q, e⟩
        · exact absurd e hl.1
        · rw [List.concat_eq_append] at e
          subst e
          have hq := (lastT_snoc init q).1 hl
          rw [putG_more init q x h h1 hq]
          exact hm init q rfl hq h h1
      · rw [putG_new acc x h h1 hl]; exact hw h h1 hl

inductive NormS : List S27 → Prop
  | nil : NormS []
  | conf {acc : List S27} (h : NormS acc) (b : List ByteArray) (s : List (List ByteArray)) : NormS (acc ++ [⟨true, [], b, s⟩])
  | text {acc : List S27} (h : NormS acc) (hl : ¬ lastT acc) (t : List ByteArray) (ht : t ≠ []) : NormS (acc ++ [⟨false, t, [], []⟩])
theorem normS_inv {acc init : List S27} {q : S27} (h : NormS acc) (e : acc = init ++ [q]) (hq : q.f0 = false) : NormS init ∧ ¬ lastT init ∧ q.f2 = [] ∧ q.f3 = [] := by
  cases h with
  | nil => simp at e
  | conf h b s =>
    obtain ⟨_, e2⟩ := List.append_inj' e rfl
    injection e2 with e2 _
    rw [← e2] at hq; cases hq
  | text h hl t ht =>
    obtain ⟨e1, e2⟩ := List.append_inj' e rfl
    injection e2 with e2 _
    subst e1; subst e2
    exact ⟨h, hl, rfl, rfl⟩
theorem putG_norm {acc : List S27} (h : NormS acc) (x : S27) : NormS (putG acc x) := by
  refine putG_cases (R := fun acc x r => NormS acc → NormS r) acc x (fun _ h => .conf h _ _) (fun _ _ h => h) (fun _ h1 hl h => .text h hl _ h1) (fun init q e hq h0 h1 h => ?_) h
  obtain ⟨i1, i2, i3, i4⟩ := normS_inv h rfl hq
  rw [i3, i4]
  exact .text i1 i2 _ (by intro e; exact h1 (List.append_eq_nil_iff.1 e).2)
theorem foldG_norm : ∀ (l acc : List S27), NormS acc → NormS (l.foldl putG acc)
  | [], _, h => h
  | x :: t, acc, h => foldG_norm t _ (putG_norm h x)
theorem normG_norm (l : List S27) : NormS (normG l) := foldG_norm l [] .nil
theorem normG_app (l : List S27) (x : S27) : normG (l ++ [x]) = putG (normG l) x := by unfold normG; rw [List.foldl_append]; rfl
theorem normS_fix {n : List S27} (h : NormS n) : normG n = n := by
  induction h with
  | nil => rfl
  | conf h b s ih => rw [normG_app, ih, putG_conf _ _ rfl]
  | text h hl t ht ih => rw [normG_app, ih, putG_new _ _ rfl ht hl]
theorem normG_twice (l : List S27) : normG (normG l) = normG l := normS_fix (normG_norm l)
theorem normS_at {n : List S27} (h : NormS n) : ∀ i (hi : i < n.length), n[i].f0 = false → n[i].f1 ≠ [] ∧ ∀ h0 : 0 < i, (n[i - 1]'(by omega)).f0 = true := by
  induction h with
  | nil => intro i hi; simp at hi
  | @conf acc h b s ih =>
    intro i hi h0
    by_cases hlt : i < acc.length
    · rw [List.getElem_append_left hlt] at h0 ⊢
      obtain ⟨a, b⟩ := ih i hlt h0
      exact ⟨a, fun hp => by rw [List.getElem_append_left (by omega)]; exact b hp⟩
    · rw [List.getElem_append_right (by omega)] at h0
      simp at h0
  | @text acc h hl t ht ih =>
    intro i hi h0
    by_cases hlt : i < acc.length
    · rw [List.getElem_append_left hlt] at h0 ⊢
      obtain ⟨a, b⟩ := ih i hlt h0
      exact ⟨a, fun hp => by rw [List.getElem_append_left (by omega)]; exact b hp⟩
    · have hie : i = acc.length := by simp at hi; omega
      subst hie
      refine ⟨by rw [List.getElem_append_right (by omega)]; simpa using ht, fun hp => ?_⟩
      rw [List.getElem_append_left (by omega)]
      have hne : acc ≠ [] := List.length_pos_iff.1 hp
      cases hf : (acc[acc.length - 1]'(by omega)).f0 with
      | true => rfl
      | false => exact absurd ⟨hne, by rw [rdT27 _ _ (by omega)]; exact hf⟩ hl

theorem putG_any (acc : List S27) (x : S27) : ((putG acc x).any fun z => z.f0) = ((acc.any fun z => z.f0) || x.f0) := by
  refine putG_cases (R := fun acc x r => (r.any fun z : S27 => z.f0) = ((acc.any fun z : S27 => z.f0) || x.f0)) acc x (fun h => ?_) (fun h _ => ?_) (fun h _ _ => ?_) (fun init q e hq h h1 => ?_)
  · simp [h]
  · simp [h]
  · simp [h]
  · simp [h, hq]
theorem foldG_any : ∀ (l acc : List S27), ((l.foldl putG acc).any fun z => z.f0) = ((acc.any fun z => z.f0) || l.any fun z => z.f0)
  | [], acc => by simp
  | x :: t, acc => by rw [List.foldl_cons, foldG_any t, putG_any, List.any_cons, Bool.or_assoc]
theorem normG_any (l : List S27) : ((normG l).any fun z => z.f0) = l.any fun z => z.f0 := by unfold normG; rw [foldG_any]; simp
theorem chooseG_app (side : Int) (a b : List S27) : chooseG side (a ++ b) = chooseG side a ++ chooseG side b := by simp [chooseG]
theorem chooseG_one (side : Int) (x : S27) : chooseG side [x] = chooseP side x := by simp [chooseG]
theorem putG_choose (side : Int) (acc : List S27) (x : S27) : chooseG side (putG acc x) = chooseG side acc ++ chooseP side x := by
  refine putG_cases (R := fun acc x r => chooseG side r = chooseG side acc ++ chooseP side x) acc x (fun h => ?_) (fun h h1 => ?_) (fun h _ _ => ?_) (fun init q e hq h h1 => ?_)
  · rw [chooseG_app, chooseG_one]; simp [chooseP, h]
  · simp [chooseP, h, h1]
  · rw [chooseG_app, chooseG_one]; simp [chooseP, h]
  · rw [chooseG_app, chooseG_one, chooseG_app, chooseG_one]; simp [chooseP, h, hq]
theorem foldG_choose (side : Int) : ∀ (l acc : List S27), chooseG side (l.foldl putG acc) = chooseG side acc ++ chooseG side l
  | [], acc => by simp [chooseG]
  | x :: t, acc => by rw [List.foldl_cons, foldG_choose side t, putG_choose, List.append_assoc, ← chooseG_one, ← chooseG_app]; rfl
theorem normG_choose (side : Int) (l : List S27) : chooseG side (normG l) = chooseG side l := by unfold normG; rw [foldG_choose]; simp [chooseG]
theorem putG_all3 {Q : List (List ByteArray) → Prop} {acc : List S27} {x : S27} (h0 : Q []) (hx : Q x.f3) (ha : ∀ p ∈ acc, Q p.f3) : ∀ p ∈ putG acc x, Q p.f3 := by
  refine putG_cases (R := fun acc x r => Q x.f3 → (∀ p ∈ acc, Q p.f3) → ∀ p ∈ r, Q p.f3) acc x (fun _ hx ha p hp => ?_) (fun _ _ _ ha => ha) (fun _ _ _ hx ha p hp => ?_) (fun init q e hq h h1 hx ha p hp => ?_) hx ha
  · rcases List.mem_append.1 hp with hp | hp
    · exact ha p hp
    · rw [List.mem_singleton.1 hp]; exact hx
  · rcases List.mem_append.1 hp with hp | hp
    · exact ha p hp
    · rw [List.mem_singleton.1 hp]; exact h0
  · rcases List.mem_append.1 hp with hp | hp
    · exact ha p (List.mem_append_left _ hp)
    · rw [List.mem_singleton.1 hp]; exact ha q (by simp)
theorem foldG_all3 {Q : List (List ByteArray) → Prop} (h0 : Q []) : ∀ (l acc : List S27), (∀ p ∈ l, Q p.f3) → (∀ p ∈ acc, Q p.f3) → ∀ p ∈ l.foldl putG acc, Q p.f3
  | [], acc, _, ha => ha
  | x :: t, acc, hl, ha => foldG_all3 h0 t _ (fun p hp => hl p (List.mem_cons_of_mem _ hp)) (putG_all3 h0 (hl x (List.mem_cons_self ..)) ha)
theorem normG_all3 {Q : List (List ByteArray) → Prop} {l : List S27} (h0 : Q []) (hl : ∀ p ∈ l, Q p.f3) : ∀ p ∈ normG l, Q p.f3 := foldG_all3 h0 l [] hl (fun p hp => by cases hp)
theorem foldG_len : ∀ (l acc : List S27), (l.foldl putG acc).length ≤ acc.length + l.length
  | [], acc => by simp
  | x :: t, acc => by
    have h1 := foldG_len t (putG acc x)
    have h2 := putG_len acc x
    rw [List.foldl_cons, List.length_cons]; omega
theorem normG_len (l : List S27) : (normG l).length ≤ l.length := by have := foldG_len l []; unfold normG; simpa using this
theorem textsN_app (a b : List S27) : textsN (a ++ b) = textsN a + textsN b := by simp [textsN]
theorem putG_texts (acc : List S27) (x : S27) : textsN (putG acc x) ≤ textsN acc + x.f1.length := by
  refine putG_cases (R := fun acc x r => textsN r ≤ textsN acc + x.f1.length) acc x (fun h => ?_) (fun h h1 => ?_) (fun h _ _ => ?_) (fun init q e hq h h1 => ?_)
  · rw [textsN_app]; simp [textsN]
  · omega
  · rw [textsN_app]; simp [textsN]
  · rw [textsN_app, textsN_app]; simp [textsN]; omega
theorem foldG_texts : ∀ (l acc : List S27), textsN (l.foldl putG acc) ≤ textsN acc + textsN l
  | [], acc => by simp [textsN]
  | x :: t, acc => by
    have h1 := foldG_texts t (putG acc x)
    have h2 := putG_texts acc x
    have h3 : textsN (x :: t) = x.f1.length + textsN t := by simp [textsN]
    rw [List.foldl_cons]; omega
theorem normG_texts (l : List S27) : textsN (normG l) ≤ textsN l := by have := foldG_texts l []; unfold normG; simpa [textsN] using this
theorem textsN_le {l : List S27} {M : Nat} (h : ∀ p ∈ l, p.f1.length ≤ M) : textsN l ≤ M * l.length := by
  induction l with
  | nil => simp [textsN]
  | cons x t ih =>
    have h1 := ih (fun p hp => h p (List.mem_cons_of_mem _ hp))
    have h2 := h x (List.mem_cons_self ..)
    have h3 : textsN (x :: t) = x.f1.length + textsN t := by simp [textsN]
    rw [h3, List.length_cons, Nat.mul_add]; omega

/-! What the reference's functions tell. -/
theorem rClean_l0 (l : List S27) (hl : l.length ≤ 1000000) (d : Nat) : ∀ i k, i ≤ l.length → l.length - i = d → d < k → sennitref07_Clean.l0 k l (i : Int) = some (!((l.drop i).any fun z => z.f0)) := by
  induction d with
  | zero =>
    intro i k hi hd hk
    obtain ⟨k, rfl⟩ : ∃ q, k = q + 1 := ⟨k - 1, by omega⟩
    rw [sennitref07_Clean.l0, if_neg (by omega), List.drop_of_length_le (by omega)]; rfl
  | succ d ih =>
    intro i k hi hd hk
    obtain ⟨k, rfl⟩ : ∃ q, k = q + 1 := ⟨k - 1, by omega⟩
    have hlt : i < l.length := by omega
    rw [sennitref07_Clean.l0, if_pos (by omega), if_pos (by omega), rdT27 _ _ hlt, List.drop_eq_getElem_cons hlt, List.any_cons]
    cases hf : l[i].f0 with
    | true => rw [if_pos rfl]; rfl
    | false => rw [if_neg (by decide), wrap_succ hlt (by omega), ih (i + 1) k (by omega) (by omega) (by omega), Bool.false_or]
theorem rClean_f (l : List S27) (hl : l.length ≤ 1000000) (k : Nat) (hk : l.length < k) : sennitref07_Clean.f k l = some (!(l.any fun z => z.f0)) := by
  have := rClean_l0 l hl l.length 0 k (by omega) (by omega) hk
  rwa [List.drop_zero] at this
/-- Texts ahead, put to what there is. -/
def withT (acc : List S27) (t : List ByteArray) : List S27 := if t = [] then acc else acc ++ [⟨false, t, [], []⟩]
theorem withT_put (acc : List S27) (t : List ByteArray) (x : S27) (hx : x.f0 = false) (hl : ¬ lastT acc) : putG (withT acc t) x = withT acc (t ++ x.f1) := by
  unfold withT
  by_cases h1 : x.f1 = []
  · rw [putG_none _ _ hx h1, h1, List.append_nil]
  · rw [if_neg (fun e => h1 (List.append_eq_nil_iff.1 e).2)]
    by_cases ht : t = []
    · rw [if_pos ht, putG_new _ _ hx h1 hl, ht, List.nil_append]
    · rw [if_neg ht, putG_more _ _ _ hx h1 rfl]
theorem rNormal_both (l : List S27) (hl : l.length ≤ 1000) (htx : textsN l ≤ 1000000) (d : Nat) : ∀ i, i ≤ l.length → l.length - i = d →
    (∀ acc k, 3 * d + 3 ≤ k → acc.length ≤ 2 * i → (i < l.length → lastT acc → (rd_T27 l (i : Int)).f0 = true) → sennitref07_Normal.l0 k l acc (i : Int) = some ((l.drop i).foldl putG acc)) ∧
    (∀ acc t k, 3 * d + 3 ≤ k → acc.length + 1 ≤ 2 * i → ¬ lastT acc → t.length ≤ textsN (l.take i) → sennitref07_Normal.l1 k l acc (i : Int) t = some ((l.drop i).foldl putG (withT acc t))) := by
  induction d with
  | zero =>
    intro i hi hd
    have hdl : l.drop i = [] := List.drop_of_length_le (by omega)
    rw [hdl]
    have h0 : ∀ acc k, 2 ≤ k → sennitref07_Normal.l0 k l acc (i : Int) = some (([] : List S27).foldl putG acc) := by
      intro acc k hk
      obtain ⟨k, rfl⟩ : ∃ q, k = q + 1 := ⟨k - 1, by omega⟩
      rw [sennitref07_Normal.l0, if_neg (by omega)]; rfl
    refine ⟨fun acc k hk ha _ => h0 acc k (by omega), fun acc t k hk ha hlt ht => ?_⟩
    obtain ⟨k, rfl⟩ : ∃ q, k = q + 1 := ⟨k - 1, by omega⟩
    rw [sennitref07_Normal.l1, if_neg (by omega)]
    unfold withT
    by_cases hn : t = []
    · rw [if_pos hn, hn, if_neg (by simp), h0 _ _ (by omega)]
    · have hp : 0 < t.length := List.length_pos_iff.2 hn
      rw [if_neg hn, if_pos (by omega), if_pos (by omega), h0 _ _ (by omega)]
  | succ d ih =>
    intro i hi hd
    have hlt : i < l.length := by omega
    obtain ⟨ih0, ih1⟩ := ih (i + 1) (by omega) (by omega)
    have hdl := List.drop_eq_getElem_cons hlt
    have htn : textsN (l.take (i + 1)) = textsN (l.take i) + l[i].f1.length := textsN_snoc l i _ (List.getElem?_eq_getElem hlt)
    have htp := textsN_pre l (i + 1)
    have l1step : ∀ acc t k, 3 * (d + 1) + 3 ≤ k → acc.length + 1 ≤ 2 * (i + 1) → l[i].f0 = false → ¬ lastT acc → t.length ≤ textsN (l.take i) → sennitref07_Normal.l1 k l acc (i : Int) t = some ((l.drop i).foldl putG (withT acc t)) := by
      intro acc t k hk ha hf hla ht
      obtain ⟨k, rfl⟩ : ∃ q, k = q + 1 := ⟨k - 1, by omega⟩
      rw [sennitref07_Normal.l1, if_pos (by omega), if_pos (by omega), rdT27 _ _ hlt, if_neg (by rw [hf]; decide), if_pos (by omega), wrap_succ hlt (by omega), ih1 acc (t ++ l[i].f1) k (by omega) (by omega) hla (by rw [List.length_append]; omega), hdl, List.foldl_cons, withT_put acc t _ hf hla]
    have l0c : ∀ acc k, 3 * d + 4 ≤ k → acc.length ≤ 2 * i + 1 → l[i].f0 = true → sennitref07_Normal.l0 k l acc (i : Int) = some ((l.drop i).foldl putG acc) := by
      intro acc k hk ha hf
      obtain ⟨k, rfl⟩ : ∃ q, k = q + 1 := ⟨k - 1, by omega⟩
      rw [sennitref07_Normal.l0, if_pos (by omega), if_pos (by omega), rdT27 _ _ hlt, if_pos hf, if_pos (by omega), wrap_succ hlt (by omega), ih0 _ k (by omega) (by simp; omega) (fun _ h => by rw [lastT_snoc] at h; cases h), hdl, List.foldl_cons, putG_conf _ _ hf]
    refine ⟨fun acc k hk ha hinv => ?_, fun acc t k hk ha hla ht => ?_⟩
    · cases hf : l[i].f0 with
      | true => exact l0c acc k (by omega) (by omega) hf
      | false =>
        have hla : ¬ lastT acc := fun h => by have := hinv hlt h; rw [rdT27 _ _ hlt, hf] at this; cases this
        obtain ⟨k, rfl⟩ : ∃ q, k = q + 1 := ⟨k - 1, by omega⟩
        rw [sennitref07_Normal.l0, if_pos (by omega), if_pos (by omega), rdT27 _ _ hlt, if_neg (by rw [hf]; decide)]
        obtain ⟨k, rfl⟩ : ∃ q, k = q + 1 := ⟨k - 1, by omega⟩
        rw [sennitref07_Normal.l1, if_pos (by omega), if_pos (by omega), rdT27 _ _ hlt, if_neg (by rw [hf]; decide), if_pos (by simp; omega), wrap_succ hlt (by omega), List.nil_append, ih1 acc l[i].f1 k (by omega) (by omega) hla (by omega), hdl, List.foldl_cons]
        have := withT_put acc [] _ hf hla
        rw [List.nil_append] at this
        rw [← this]; rfl
    · cases hf : l[i].f0 with
      | false => exact l1step acc t k (by omega) (by omega) hf hla ht
      | true =>
        obtain ⟨k, rfl⟩ : ∃ q, k = q + 1 := ⟨k - 1, by omega⟩
        rw [sennitref07_Normal.l1, if_pos (by omega), if_pos (by omega), rdT27 _ _ hlt, if_pos hf]
        unfold withT
        by_cases hn : t = []
        · rw [if_pos hn, hn, if_neg (by simp), l0c _ _ (by omega) (by omega) hf]
        · have hp : 0 < t.length := List.length_pos_iff.2 hn
          rw [if_neg hn, if_pos (by omega), if_pos (by omega), l0c _ _ (by omega) (by simp; omega) hf]
theorem rNormal_f (l : List S27) (hl : l.length ≤ 1000) (htx : textsN l ≤ 1000000) (k : Nat) (hk : 3 * l.length + 3 ≤ k) : sennitref07_Normal.f k l = some (normG l) := by
  have := (rNormal_both l hl htx l.length 0 (by omega) (by omega)).1 [] k hk (by simp) (fun _ h => absurd rfl h.1)
  rwa [List.drop_zero] at this
theorem pNormal_f (l : List S27) (hl : l.length ≤ 1000) (htx : textsN l ≤ 1000000) (k : Nat) : pick_Normal.f k l = some (normG l) := by
  unfold pick_Normal.f; rw [if_pos ⟨by omega, htx⟩]
end Go.Proofs.Ytiaoppikdgoieaa.Pure
namespace Go.Proofs.Ytiaoppikdgoieaa.Pure
open Go.RowKit Go.Proofs.Ytiaoppikdgoieaa.M Go.Proofs.Ytiaoppikdgoieaa.Hand Go.Proofs.YtiaoppikdgoieaaW.PrintWords Go.Proofs.YtiaoppikdgoieaaW.PrintLast Go.Proofs.YtiaoppikdgoieaaW.PrintMore
set_option linter.unusedVariables false
theorem wrap_id {x : Int} (h0 : -9223372036854775808 ≤ x) (h1 : x ≤ 9223372036854775807) : wrap64 x = x := by unfold wrap64; omega
theorem wrap_back (j : Nat) (hj : j ≤ 1000000) : wrap64 ((j : Int) + 1 - 1) = (j : Int) := by unfold wrap64; omega
/-- The reference's inner loop: the side that is chosen, of a conflict. -/
theorem rChoose_l1 (l : List S27) (hl : l.length ≤ 1000) (side : Int) (hs : -9223372036854775808 ≤ side ∧ side ≤ 9223372036854775807) (i : Nat) (hi : i < l.length) (h6 : (l[i]).f3.length ≤ 100) (h20 : ∀ x ∈ (l[i]).f3, x.length ≤ 1000) (hf : l[i].f0 = true) (r : List ByteArray) (K : Nat) (d : Nat) :
    ∀ (j : Nat) (acc : List ByteArray), j ≤ (l[i]).f3.length → (l[i]).f3.length - j = d → acc.length ≤ 200000 * i + j * 1000 →
    (∀ k, K ≤ k → sennitref07_Choose.l0 k l side (acc ++ (if (j : Int) < side ∧ side ≤ ((l[i]).f3.length : Int) then rd_L1 (l[i]).f3 (side - 1) else [])) ((i + 1 : Nat) : Int) = some r) →
    ∀ k, K + 2 * d + 2 ≤ k → sennitref07_Choose.l1 k l side acc (i : Int) (j : Int) = some r := by
  induction d with
  | zero =>
    intro j acc hj hd ha hend k hk
    obtain ⟨k, rfl⟩ : ∃ q, k = q + 2 := ⟨k - 2, by omega⟩
    rw [sennitref07_Choose.l1, if_pos (by omega), if_pos (by omega), rdT27 _ _ hi, if_pos hf, decide_eq_false (by omega), sennitref07_Choose.j3, if_neg (by decide), wrap_succ hi (by omega)]
    have := hend k (by omega)
    rwa [if_neg (by omega), List.append_nil] at this
  | succ d ih =>
    intro j acc hj hd ha hend k hk
    have hlt : j < (l[i]).f3.length := by omega
    obtain ⟨k, rfl⟩ : ∃ q, k = q + 2 := ⟨k - 2, by omega⟩
    have hx := h20 _ (List.getElem_mem hlt)
    rw [sennitref07_Choose.l1, if_pos (by omega), if_pos (by omega), rdT27 _ _ hi, if_pos hf, decide_eq_true (by omega), sennitref07_Choose.j3, if_pos rfl]
    have hjb : j ≤ 1000000 := by omega
    by_cases he : (j : Int) = wrap64 (side - 1)
    · have hse : side = (j : Int) + 1 := by
        by_cases hb : -9223372036854775807 ≤ side
        · rw [wrap_id (by omega) (by omega)] at he; omega
        · have e1 : side = -9223372036854775808 := by omega
          rw [e1, show wrap64 (-9223372036854775808 - 1) = 9223372036854775807 from by decide +kernel] at he
          omega
      rw [if_pos he, if_pos (by omega), if_pos (by omega), if_pos (by omega), rdT27 _ _ hi, if_pos (by omega), rdL1 _ _ hlt, if_pos (by omega), wrap_succ hlt (by omega)]
      refine ih (j + 1) (acc ++ (l[i]).f3[j]) (by omega) (by omega) (by rw [List.length_append]; omega) (fun q hq => ?_) k (by omega)
      have := hend q hq
      rw [if_pos ⟨by omega, by omega⟩, show side - 1 = (j : Int) from by omega, rdL1 _ _ hlt] at this
      rwa [if_neg (by omega), List.append_nil]
    · have hse : side ≠ (j : Int) + 1 := fun e => he (by rw [e]; exact (wrap_back j hjb).symm)
      rw [if_neg he]
      clear he
      rw [wrap_succ hlt (by omega)]
      have g1 : acc.length ≤ 200000 * i + (j + 1) * 1000 := Nat.le_trans ha (Nat.add_le_add_left (Nat.mul_le_mul_right _ (Nat.le_succ j)) _)
      refine ih (j + 1) acc (by omega) (by omega) g1 (fun q hq => ?_) k (by omega)
      have := hend q hq
      by_cases hc : (j : Int) < side ∧ side ≤ ((l[i]).f3.length : Int)
      · rw [if_pos hc] at this
        rw [if_pos ⟨by omega, hc.2⟩]; exact this
      · rw [if_neg hc] at this
        rw [if_neg (fun h => hc ⟨by omega, h.2⟩)]; exact this
theorem rChoose_l0 (l : List S27) (hl : l.length ≤ 1000) (side : Int) (hs : -9223372036854775808 ≤ side ∧ side ≤ 9223372036854775807) (h1 : ∀ p ∈ l, p.f1.length ≤ 1000) (h6 : ∀ p ∈ l, p.f3.length ≤ 100) (h20 : ∀ p ∈ l, ∀ x ∈ p.f3, x.length ≤ 1000) (d : Nat) :
    ∀ (i : Nat) (acc : List ByteArray), i ≤ l.length → l.length - i = d → acc.length ≤ 200000 * i → ∀ k, 300 * d + 1 ≤ k → sennitref07_Choose.l0 k l side acc (i : Int) = some (acc ++ chooseG side (l.drop i)) := by
  induction d with
  | zero =>
    intro i acc hi hd ha k hk
    obtain ⟨k, rfl⟩ : ∃ q, k = q + 1 := ⟨k - 1, by omega⟩
    rw [sennitref07_Choose.l0, if_neg (by omega), List.drop_of_length_le (by omega)]
    simp [chooseG]
  | succ d ih =>
    intro i acc hi hd ha k hk
    have hlt : i < l.length := by omega
    have hm := List.getElem_mem hlt
    obtain ⟨k, rfl⟩ : ∃ q, k = q + 2 := ⟨k - 2, by omega⟩
    have g1 := h1 _ hm
    have g6 := h6 _ hm
    have g20 := h20 _ hm
    rw [List.drop_eq_getElem_cons hlt, show l[i] :: l.drop (i + 1) = [l[i]] ++ l.drop (i + 1) from rfl, chooseG_app, chooseG_one, ← List.append_assoc]
    rw [sennitref07_Choose.l0, if_pos (by omega), if_pos (by omega), rdT27 _ _ hlt]
    cases hf : l[i].f0 with
    | true =>
      rw [if_pos rfl, sennitref07_Choose.j1]
      refine rChoose_l1 l hl side hs i hlt g6 g20 hf _ (300 * d + 1) _ 0 acc (by omega) rfl (by omega) (fun q hq => ?_) k (by omega)
      have e : chooseP side l[i] = if ((0 : Nat) : Int) < side ∧ side ≤ ((l[i]).f3.length : Int) then rd_L1 (l[i]).f3 (side - 1) else [] := by
        unfold chooseP
        rw [if_neg (by rw [hf]; decide)]
        by_cases hc : 1 ≤ side ∧ side ≤ ((l[i]).f3.length : Int)
        · rw [if_pos hc, if_pos ⟨by omega, hc.2⟩]
        · rw [if_neg hc, if_neg (fun h => hc ⟨by omega, h.2⟩)]
      rw [e]
      refine ih (i + 1) _ (by omega) (by omega) ?_ q (by omega)
      rw [List.length_append]
      split
      · have : (rd_L1 (l[i]).f3 (side - 1)).length ≤ 1000 := by
          unfold rd_L1
          rw [List.getD_eq_getElem?_getD]
          cases hq : (l[i]).f3[(side - 1).toNat]? with
          | none => simp
          | some z => exact g20 z (List.mem_of_getElem? hq)
        omega
      · simp; omega
    | false =>
      rw [if_neg (by decide), if_pos (by omega), sennitref07_Choose.j1]
      obtain ⟨k, rfl⟩ : ∃ q, k = q + 2 := ⟨k - 2, by omega⟩
      rw [sennitref07_Choose.l1, if_pos (by omega), if_pos (by omega), rdT27 _ _ hlt, if_neg (by rw [hf]; decide), sennitref07_Choose.j3, if_neg (by decide), wrap_succ hlt (by omega), show chooseP side l[i] = l[i].f1 from by unfold chooseP; rw [if_pos hf]]
      exact ih (i + 1) _ (by omega) (by omega) (by rw [List.length_append]; omega) k (by omega)
theorem rChoose_f (l : List S27) (hl : l.length ≤ 1000) (side : Int) (hs : -9223372036854775808 ≤ side ∧ side ≤ 9223372036854775807) (h1 : ∀ p ∈ l, p.f1.length ≤ 1000) (h6 : ∀ p ∈ l, p.f3.length ≤ 100) (h20 : ∀ p ∈ l, ∀ x ∈ p.f3, x.length ≤ 1000) (k : Nat) (hk : 300 * l.length + 1 ≤ k) : sennitref07_Choose.f k l side = some (chooseG side l) := by
  have := rChoose_l0 l hl side hs h1 h6 h20 l.length 0 [] (by omega) (by omega) (by simp) k hk
  rwa [List.drop_zero, List.nil_append] at this
theorem chooseP_len (side : Int) (x : S27) (M : Nat) (h1 : x.f1.length ≤ M) (h3 : ∀ y ∈ x.f3, y.length ≤ M) : (chooseP side x).length ≤ M := by
  unfold chooseP
  split
  · exact h1
  · split
    · unfold rd_L1
      rw [List.getD_eq_getElem?_getD]
      cases hq : x.f3[(side - 1).toNat]? with
      | none => simp
      | some z => exact h3 z (List.mem_of_getElem? hq)
    · simp
theorem chooseG_len (side : Int) (l : List S27) (M : Nat) (h1 : ∀ p ∈ l, p.f1.length ≤ M) (h3 : ∀ p ∈ l, ∀ y ∈ p.f3, y.length ≤ M) : (chooseG side l).length ≤ M * l.length := by
  induction l with
  | nil => simp [chooseG]
  | cons x t ih =>
    have e : chooseG side (x :: t) = chooseP side x ++ chooseG side t := by simp [chooseG]
    have g1 := ih (fun p hp => h1 p (List.mem_cons_of_mem _ hp)) (fun p hp => h3 p (List.mem_cons_of_mem _ hp))
    have g2 := chooseP_len side x M (h1 x (List.mem_cons_self ..)) (h3 x (List.mem_cons_self ..))
    rw [e, List.length_append, List.length_cons, Nat.mul_add]; omega
end Go.Proofs.Ytiaoppikdgoieaa.Pure
namespace Go.Proofs.Ytiaoppikdgoieaa.Pure
open Go.RowKit Go.Proofs.Ytiaoppikdgoieaa.M Go.Proofs.Ytiaoppikdgoieaa.Hand Go.Proofs.YtiaoppikdgoieaaW.PrintWords Go.Proofs.YtiaoppikdgoieaaW.PrintLast Go.Proofs.YtiaoppikdgoieaaW.PrintMore
set_option linter.unusedVariables false
theorem PickChooses (l0 : List S27) (n0 : l0.length ≤ 9223372036854775807) (o0 : ∀ p ∈ l0, ok_27 p) (a1 : Int) (o1 : (Lit.int .i64 a1).wf = true) : ∃ k, sennitlaw07_PickChooses.f k l0 a1 = some true := by
  obtain ⟨b0, h0, B0⟩ := few07_f l0 n0 (okIn_all o0)
  refine ⟨9000, ?_⟩
  unfold sennitlaw07_PickChooses.f
  rw [awake07 _ (by omega), Option.bind_some, h0 _ (by omega), Option.bind_some]
  cases b0 with
  | false => rfl
  | true =>
    obtain ⟨a1', a2⟩ := B0 rfl
    simp [Lit.wf, IntKind.min, IntKind.max, IntKind.signed, IntKind.bits] at o1
    have t1 : textsN l0 ≤ 1000000 := by have := textsN_le (M := 20) (fun p hp => (a2 p hp).1.1); omega
    have q1 : ∀ p ∈ l0, p.f1.length ≤ 1000 := fun p hp => by have := (a2 p hp).1.1; omega
    have q6 : ∀ p ∈ l0, p.f3.length ≤ 100 := fun p hp => by have := (a2 p hp).2.2.1; omega
    have q20 : ∀ p ∈ l0, ∀ x ∈ p.f3, x.length ≤ 1000 := fun p hp x hx => by have := ((a2 p hp).2.2.2 x hx).1; omega
    have hc := chooseG_len a1 l0 1000 q1 q20
    have hcl : (chooseG a1 l0).length ≤ 12000 := by omega
    have pc : ∀ k, pick_Choose.f k l0 a1 = some (chooseG a1 l0) := fun k => by unfold pick_Choose.f; rw [if_pos (by omega)]
    have pcn : ∀ k, pick_Choose.f k (normG l0) a1 = some (chooseG a1 l0) := fun k => by unfold pick_Choose.f; rw [normG_choose, if_pos (by omega)]
    have hcs : (chooseG a1 l0).length ≤ 240 := by
      have := chooseG_len a1 l0 20 (fun p hp => (a2 p hp).1.1) (fun p hp x hx => ((a2 p hp).2.2.2 x hx).1)
      omega
    rw [if_pos rfl, pc, Option.bind_some, if_pos rfl, rChoose_f l0 (by omega) a1 (by omega) q1 q6 q20 _ (by omega), Option.bind_some, same_f _ _ (by omega) _ (by omega), Option.bind_some, if_pos (by simp), pNormal_f l0 (by omega) t1, Option.bind_some, pcn, Option.bind_some, same_f _ _ (by omega) _ (by omega)]
    simp
end Go.Proofs.Ytiaoppikdgoieaa.Pure
