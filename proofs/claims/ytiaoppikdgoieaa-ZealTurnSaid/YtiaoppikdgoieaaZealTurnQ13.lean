/- Texts of the claim ZealTurn, put together (part 13): Layer 7: pieces as they come in. Layer 7: pieces put together. Plain Lean. Layer 10: how far lists are alike, and what is left of them. Plain Lean. Layer 10: a piece made smaller, and pieces. Plain Lean. Layer 10: all pieces made smaller, done twice, and by parts. Plain Lean. Layer 10: pieces with sides in another turn. Plain Lean. The plain law of ZealTurn: what the printed functions answer is true. -/
import Derived.ArgAppend
import Derived.Below
import Derived.BigQuiet
import Derived.ChangeArms
import Derived.Deep.AppendLies
import Derived.Deep.CutBlock
import Derived.Deep.DeepCutAuto
import Derived.Deep.Draws
import Derived.Deep.LoopGhost
import Derived.Deep.OwnRows
import Derived.Deep.QuietTactic
import Derived.Deep.RegionHeld3
import Derived.Deep.Slices
import Derived.KernelRfl
import Derived.Laws.BitsLemmas
import Derived.Laws.BytesArg
import Derived.Laws.EntriesVeiled
import Derived.Laws.IdiomCopy
import Derived.Laws.MakeOwn
import Derived.Laws.OwnMore
import Derived.Laws.Rows
import Derived.Laws.Slices
import Derived.Laws.StructEq
import Derived.Lib.AppendStr
import Derived.Lib.ConvBytes
import Derived.Maps.AppendAt
import Derived.OpenShut
import Derived.OrdersHeld
import Derived.OwnWalk
import Derived.RangeFuncBox
import Derived.RowKit
import Derived.RowKit3
import Derived.Tactics
import Derived.Test.YtiaoppikdgoieaaProg
import Derived.WalkKit
import Derived.WideLaws
import Derived.Test.YtiaoppikdgoieaaZealTurnQ12
namespace Go.Proofs.Ytiaoppikdgoieaa.Pure
open Go.RowKit Go.Proofs.Ytiaoppikdgoieaa.M Go.Proofs.Ytiaoppikdgoieaa.Hand Go.Proofs.YtiaoppikdgoieaaW.PrintWords Go.Proofs.YtiaoppikdgoieaaW.PrintLast Go.Proofs.YtiaoppikdgoieaaW.PrintMore
theorem okIn_of {p : S27} (h : ok_27 p) : okIn p := ⟨h.2.1.1, h.2.2.1.1, h.2.2.2.1, fun x hx => (h.2.2.2.2 x hx).1⟩
theorem okIn_all {l : List S27} (h : ∀ p ∈ l, ok_27 p) : ∀ p ∈ l, okIn p := fun p hp => okIn_of (h p hp)
end Go.Proofs.Ytiaoppikdgoieaa.Pure
namespace Go.Proofs.Ytiaoppikdgoieaa.Pure
open Go.RowKit Go.Proofs.Ytiaoppikdgoieaa.M Go.Proofs.Ytiaoppikdgoieaa.Hand Go.Proofs.YtiaoppikdgoieaaW.PrintWords Go.Proofs.YtiaoppikdgoieaaW.PrintLast Go.Proofs.YtiaoppikdgoieaaW.PrintMore
set_option linter.unusedVariables false
set_option linter.unusedSimpArgs false

/-- The last piece is a text. -/
def lastT (acc : List S27) : Prop := acc ≠ [] ∧ (rd_T27 acc ((acc.length - 1 : Nat) : Int)).f0 = false
theorem rd_snoc (init : List S27) (q : S27) : rd_T27 (init ++ [q]) (((init ++ [q]).length - 1 : Nat) : Int) = q := by
  have h : (init ++ [q]).length - 1 < (init ++ [q]).length := by simp
  rw [rdT27 _ _ h]; simp
theorem lastT_snoc (init : List S27) (q : S27) : lastT (init ++ [q]) ↔ q.f0 = false := by
  unfold lastT
  rw [rd_snoc]; simp
theorem putG_conf (acc : List S27) (x : S27) (h : x.f0 = true) : putG acc x = acc ++ [⟨true, [], x.f2, x.f3⟩] := by unfold putG; rw [if_pos h]
theorem putG_none (acc : List S27) (x : S27) (h : x.f0 = false) (h1 : x.f1 = []) : putG acc x = acc := by unfold putG; rw [if_neg (by rw [h]; decide), if_pos h1]
theorem putG_new (acc : List S27) (x : S27) (h : x.f0 = false) (h1 : x.f1 ≠ []) (hl : ¬ lastT acc) : putG acc x = acc ++ [⟨false, x.f1, [], []⟩] := by unfold putG; rw [if_neg (by rw [h]; decide), if_neg h1]; exact if_neg hl
theorem putG_more (init : List S27) (q x : S27) (h : x.f0 = false) (h1 : x.f1 ≠ []) (hq : q.f0 = false) : putG (init ++ [q]) x = init ++ [⟨false, q.f1 ++ x.f1, q.f2, q.f3⟩] := by
  have hl : lastT (init ++ [q]) := (lastT_snoc init q).2 hq
  unfold putG; rw [if_neg (by rw [h]; decide), if_neg h1]
  refine (if_pos hl).trans ?_
  rw [rd_snoc]
  simp
/-- The cases of one more piece. -/
theorem putG_cases {R : List S27 → S27 → List S27 → Prop} (acc : List S27) (x : S27) (hc : x.f0 = true → R acc x (acc ++ [⟨true, [], x.f2, x.f3⟩])) (hn : x.f0 = false → x.f1 = [] → R acc x acc)
    (hw : x.f0 = false → x.f1 ≠ [] → ¬ lastT acc → R acc x (acc ++ [⟨false, x.f1, [], []⟩])) (hm : ∀ init q, acc = init ++ [q] → q.f0 = false → x.f0 = false → x.f1 ≠ [] → R (init ++ [q]) x (init ++ [⟨false, q.f1 ++ x.f1, q.f2, q.f3⟩])) : R acc x (putG acc x) := by
  cases h : x.f0 with
  | true => rw [putG_conf acc x h]; exact hc h
  | false =>
    by_cases h1 : x.f1 = []
    · rw [putG_none acc x h h1]; exact hn h h1
    · by_cases hl : lastT acc
      · rcases List.eq_nil_or_concat acc with e | ⟨init, q, e⟩
        · exact absurd e hl.1
        · rw [List.concat_eq_append] at e
          subst e
          have hq := (lastT_snoc init q).1 hl
          rw [putG_more init q x h h1 hq]
          exact hm init q rfl hq h h1
      · rw [putG_new acc x h h1 hl]; exact hw h h1 hl

inductive NormS : List S27 → Prop
  | nil : NormS []
  | conf {acc : List S27} (h : NormS acc) (b : List ByteArray) (s : List (List ByteArray)) : NormS (acc ++ [⟨true, [], b, s⟩])
  | text {acc : List S27} (h : NormS acc) (hl : ¬ lastT acc) (t : List ByteArray) (ht : t ≠ []) : NormS (acc ++ [⟨false, t, [], []⟩])
theorem normS_inv {acc init : List S27} {q : S27} (h : NormS acc) (e : acc = init ++ [q]) (hq : q.f0 = false) : NormS init ∧ ¬ lastT init ∧ q.f2 = [] ∧ q.f3 = [] := by
  cases h with
  | nil => simp at e
  | conf h b s =>
    obtain ⟨_, e2⟩ := List.append_inj' e rfl
    injection e2 with e2 _
    rw [← e2] at hq; cases hq
  | text h hl t ht =>
    obtain ⟨e1, e2⟩ := List.append_inj' e rfl
    injection e2 with e2 _
    subst e1; subst e2
    exact ⟨h, hl, rfl, rfl⟩
theorem putG_norm {acc : List S27} (h : NormS acc) (x : S27) : NormS (putG acc x) := by
  refine putG_cases (R := fun acc x r => NormS acc → NormS r) acc x (fun _ h => .conf h _ _) (fun _ _ h => h) (fun _ h1 hl h => .text h hl _ h1) (fun init q e hq h0 h1 h => ?_) h
  obtain ⟨i1, i2, i3, i4⟩ := normS_inv h rfl hq
  rw [i3, i4]
  exact .text i1 i2 _ (by intro e; exact h1 (List.append_eq_nil_iff.1 e).2)
theorem foldG_norm : ∀ (l acc : List S27), NormS acc → NormS (l.foldl putG acc)
  | [], _, h => h
  | x :: t, acc, h => foldG_norm t _ (putG_norm h x)
theorem normG_norm (l : List S27) : NormS (normG l) := foldG_norm l [] .nil
theorem normG_app (l : List S27) (x : S27) : normG (l ++ [x]) = putG (normG l) x := by unfold normG; rw [List.foldl_append]; rfl
theorem normS_fix {n : List S27} (h : NormS n) : normG n = n := by
  induction h with
  | nil => rfl
  | conf h b s ih => rw [normG_app, ih, putG_conf _ _ rfl]
  | text h hl t ht ih => rw [normG_app, ih, putG_new _ _ rfl ht hl]
theorem normG_twice (l : List S27) : normG (normG l) = normG l := normS_fix (normG_norm l)
theorem normS_at {n : List S27} (h : NormS n) : ∀ i (hi : i < n.length), n[i].f0 = false → n[i].f1 ≠ [] ∧ ∀ h0 : 0 < i, (n[i - 1]'(by omega)).f0 = true := by
  induction h with
  | nil => intro i hi; simp at hi
  | @conf acc h b s ih =>
    intro i hi h0
    by_cases hlt : i < acc.length
    · rw [List.getElem_append_left hlt] at h0 ⊢
      obtain ⟨a, b⟩ := ih i hlt h0
      exact ⟨a, fun hp => by rw [List.getElem_append_left (by omega)]; exact b hp⟩
    · rw [List.getElem_append_right (by omega)] at h0
      simp at h0
  | @text acc h hl t ht ih =>
    intro i hi h0
    by_cases hlt : i < acc.length
    · rw [List.getElem_append_left hlt] at h0 ⊢
      obtain ⟨a, b⟩ := ih i hlt h0
      exact ⟨a, fun hp => by rw [List.getElem_append_left (by omega)]; exact b hp⟩
    · have hie : i = acc.length := by simp at hi; omega
      subst hie
      refine ⟨by rw [List.getElem_append_right (by omega)]; simpa using ht, fun hp => ?_⟩
      rw [List.getElem_append_left (by omega)]
      have hne : acc ≠ [] := List.length_pos_iff.1 hp
      cases hf : (acc[acc.length - 1]'(by omega)).f0 with
      | true => rfl
      | false => exact absurd ⟨hne, by rw [rdT27 _ _ (by omega)]; exact hf⟩ hl

theorem putG_any (acc : List S27) (x : S27) : ((putG acc x).any fun z => z.f0) = ((acc.any fun z => z.f0) || x.f0) := by
  refine putG_cases (R := fun acc x r => (r.any fun z : S27 => z.f0) = ((acc.any fun z : S27 => z.f0) || x.f0)) acc x (fun h => ?_) (fun h _ => ?_) (fun h _ _ => ?_) (fun init q e hq h h1 => ?_)
  · simp [h]
  · simp [h]
  · simp [h]
  · simp [h, hq]
theorem foldG_any : ∀ (l acc : List S27), ((l.foldl putG acc).any fun z => z.f0) = ((acc.any fun z => z.f0) || l.any fun z => z.f0)
  | [], acc => by simp
  | x :: t, acc => by rw [List.foldl_cons, foldG_any t, putG_any, List.any_cons, Bool.or_assoc]
theorem normG_any (l : List S27) : ((normG l).any fun z => z.f0) = l.any fun z => z.f0 := by unfold normG; rw [foldG_any]; simp
theorem chooseG_app (side : Int) (a b : List S27) : chooseG side (a ++ b) = chooseG side a ++ chooseG side b := by simp [chooseG]
theorem chooseG_one (side : Int) (x : S27) : chooseG side [x] = chooseP side x := by simp [chooseG]
theorem putG_choose (side : Int) (acc : List S27) (x : S27) : chooseG side (putG acc x) = chooseG side acc ++ chooseP side x := by
  refine putG_cases (R := fun acc x r => chooseG side r = chooseG side acc ++ chooseP side x) acc x (fun h => ?_) (fun h h1 => ?_) (fun h _ _ => ?_) (fun init q e hq h h1 => ?_)
  · rw [chooseG_app, chooseG_one]; simp [chooseP, h]
  · simp [chooseP, h, h1]
  · rw [chooseG_app, chooseG_one]; simp [chooseP, h]
  · rw [chooseG_app, chooseG_one, chooseG_app, chooseG_one]; simp [chooseP, h, hq]
theorem foldG_choose (side : Int) : ∀ (l acc : List S27), chooseG side (l.foldl putG acc) = chooseG side acc ++ chooseG side l
  | [], acc => by simp [chooseG]
  | x :: t, acc => by rw [List.foldl_cons, foldG_choose side t, putG_choose, List.append_assoc, ← chooseG_one, ← chooseG_app]; rfl
theorem normG_choose (side : Int) (l : List S27) : chooseG side (normG l) = chooseG side l := by unfold normG; rw [foldG_choose]; simp [chooseG]
theorem putG_all3 {Q : List (List ByteArray) → Prop} {acc : List S27} {x : S27} (h0 : Q []) (hx : Q x.f3) (ha : ∀ p ∈ acc, Q p.f3) : ∀ p ∈ putG acc x, Q p.f3 := by
  refine putG_cases (R := fun acc x r => Q x.f3 → (∀ p ∈ acc, Q p.f3) → ∀ p ∈ r, Q p.f3) acc x (fun _ hx ha p hp => ?_) (fun _ _ _ ha => ha) (fun _ _ _ hx ha p hp => ?_) (fun init q e hq h h1 hx ha p hp => ?_) hx ha
  · rcases List.mem_append.1 hp with hp | hp
    · exact ha p hp
    · rw [List.mem_singleton.1 hp]; exact hx
  · rcases List.mem_append.1 hp with hp | hp
    · exact ha p hp
    · rw [List.mem_singleton.1 hp]; exact h0
  · rcases List.mem_append.1 hp with hp | hp
    · exact ha p (List.mem_append_left _ hp)
    · rw [List.mem_singleton.1 hp]; exact ha q (by simp)
theorem foldG_all3 {Q : List (List ByteArray) → Prop} (h0 : Q []) : ∀ (l acc : List S27), (∀ p ∈ l, Q p.f3) → (∀ p ∈ acc, Q p.f3) → ∀ p ∈ l.foldl putG acc, Q p.f3
  | [], acc, _, ha => ha
  | x :: t, acc, hl, ha => foldG_all3 h0 t _ (fun p hp => hl p (List.mem_cons_of_mem _ hp)) (putG_all3 h0 (hl x (List.mem_cons_self ..)) ha)
theorem normG_all3 {Q : List (List ByteArray) → Prop} {l : List S27} (h0 : Q []) (hl : ∀ p ∈ l, Q p.f3) : ∀ p ∈ normG l, Q p.f3 := foldG_all3 h0 l [] hl (fun p hp => by cases hp)
theorem foldG_len : ∀ (l acc : List S27), (l.foldl putG acc).length ≤ acc.length + l.length
  | [], acc => by simp
  | x :: t, acc => by
    have h1 := foldG_len t (putG acc x)
    have h2 := putG_len acc x
    rw [List.foldl_cons, List.length_cons]; omega
theorem normG_len (l : List S27) : (normG l).length ≤ l.length := by have := foldG_len l []; unfold normG; simpa using this
theorem textsN_app (a b : List S27) : textsN (a ++ b) = textsN a + textsN b := by simp [textsN]
theorem putG_texts (acc : List S27) (x : S27) : textsN (putG acc x) ≤ textsN acc + x.f1.length := by
  refine putG_cases (R := fun acc x r => textsN r ≤ textsN acc + x.f1.length) acc x (fun h => ?_) (fun h h1 => ?_) (fun h _ _ => ?_) (fun init q e hq h h1 => ?_)
  · rw [textsN_app]; simp [textsN]
  · omega
  · rw [textsN_app]; simp [textsN]
  · rw [textsN_app, textsN_app]; simp [textsN]; omega
theorem foldG_texts : ∀ (l acc : List S27), textsN (l.foldl putG acc) ≤ textsN acc + textsN l
  | [], acc => by simp [textsN]
  | x :: t, acc => by
    have h1 := foldG_texts t (putG acc x)
    have h2 := putG_texts acc x
    have h3 : textsN (x :: t) = x.f1.length + textsN t := by simp [textsN]
    rw [List.foldl_cons]; omega
theorem normG_texts (l : List S27) : textsN (normG l) ≤ textsN l := by have := foldG_texts l []; unfold normG; simpa [textsN] using this
theorem textsN_le {l : List S27} {M : Nat} (h : ∀ p ∈ l, p.f1.length ≤ M) : textsN l ≤ M * l.length := by
  induction l with
  | nil => simp [textsN]
  | cons x t ih =>
    have h1 := ih (fun p hp => h p (List.mem_cons_of_mem _ hp))
    have h2 := h x (List.mem_cons_self ..)
    have h3 : textsN (x :: t) = x.f1.length + textsN t := by simp [textsN]
    rw [h3, List.length_cons, Nat.mul_add]; omega

/-! What the reference's functions tell. -/
theorem rClean_l0 (l : List S27) (hl : l.length ≤ 1000000) (d : Nat) : ∀ i k, i ≤ l.length → l.length - i = d → d < k → sennitref07_Clean.l0 k l (i : Int) = some (!((l.drop i).any fun z => z.f0)) := by
  induction d with
  | zero =>
    intro i k hi hd hk
    obtain ⟨k, rfl⟩ : ∃ q, k = q + 1 := ⟨k - 1, by omega⟩
    rw [sennitref07_Clean.l0, if_neg (by omega), List.drop_of_length_le (by omega)]; rfl
  | succ d ih =>
    intro i k hi hd hk
    obtain ⟨k, rfl⟩ : ∃ q, k = q + 1 := ⟨k - 1, by omega⟩
    have hlt : i < l.length := by omega
    rw [sennitref07_Clean.l0, if_pos (by omega), if_pos (by omega), rdT27 _ _ hlt, List.drop_eq_getElem_cons hlt, List.any_cons]
    cases hf : l[i].f0 with
    | true => rw [if_pos rfl]; rfl
    | false => rw [if_neg (by decide), wrap_succ hlt (by omega), ih (i + 1) k (by omega) (by omega) (by omega), Bool.false_or]
theorem rClean_f (l : List S27) (hl : l.length ≤ 1000000) (k : Nat) (hk : l.length < k) : sennitref07_Clean.f k l = some (!(l.any fun z => z.f0)) := by
  have := rClean_l0 l hl l.length 0 k (by omega) (by omega) hk
  rwa [List.drop_zero] at this
/-- Texts ahead, put to what there is. -/
def withT (acc : List S27) (t : List ByteArray) : List S27 := if t = [] then acc else acc ++ [⟨false, t, [], []⟩]
theorem withT_put (acc : List S27) (t : List ByteArray) (x : S27) (hx : x.f0 = false) (hl : ¬ lastT acc) : putG (withT acc t) x = withT acc (t ++ x.f1) := by
  unfold withT
  by_cases h1 : x.f1 = []
  · rw [putG_none _ _ hx h1, h1, List.append_nil]
  · rw [if_neg (fun e => h1 (List.append_eq_nil_iff.1 e).2)]
    by_cases ht : t = []
    · rw [if_pos ht, putG_new _ _ hx h1 hl, ht, List.nil_append]
    · rw [if_neg ht, putG_more _ _ _ hx h1 rfl]
theorem rNormal_both (l : List S27) (hl : l.length ≤ 1000) (htx : textsN l ≤ 1000000) (d : Nat) : ∀ i, i ≤ l.length → l.length - i = d →
    (∀ acc k, 3 * d + 3 ≤ k → acc.length ≤ 2 * i → (i < l.length → lastT acc → (rd_T27 l (i : Int)).f0 = true) → sennitref07_Normal.l0 k l acc (i : Int) = some ((l.drop i).foldl putG acc)) ∧
    (∀ acc t k, 3 * d + 3 ≤ k → acc.length + 1 ≤ 2 * i → ¬ lastT acc → t.length ≤ textsN (l.take i) → sennitref07_Normal.l1 k l acc (i : Int) t = some ((l.drop i).foldl putG (withT acc t))) := by
  induction d with
  | zero =>
    intro i hi hd
    have hdl : l.drop i = [] := List.drop_of_length_le (by omega)
    rw [hdl]
    have h0 : ∀ acc k, 2 ≤ k → sennitref07_Normal.l0 k l acc (i : Int) = some (([] : List S27).foldl putG acc) := by
      intro acc k hk
      obtain ⟨k, rfl⟩ : ∃ q, k = q + 1 := ⟨k - 1, by omega⟩
      rw [sennitref07_Normal.l0, if_neg (by omega)]; rfl
    refine ⟨fun acc k hk ha _ => h0 acc k (by omega), fun acc t k hk ha hlt ht => ?_⟩
    obtain ⟨k, rfl⟩ : ∃ q, k = q + 1 := ⟨k - 1, by omega⟩
    rw [sennitref07_Normal.l1, if_neg (by omega)]
    unfold withT
    by_cases hn : t = []
    · rw [if_pos hn, hn, if_neg (by simp), h0 _ _ (by omega)]
    · have hp : 0 < t.length := List.length_pos_iff.2 hn
      rw [if_neg hn, if_pos (by omega), if_pos (by omega), h0 _ _ (by omega)]
  | succ d ih =>
    intro i hi hd
    have hlt : i < l.length := by omega
    obtain ⟨ih0, ih1⟩ := ih (i + 1) (by omega) (by omega)
    have hdl := List.drop_eq_getElem_cons hlt
    have htn : textsN (l.take (i + 1)) = textsN (l.take i) + l[i].f1.length := textsN_snoc l i _ (List.getElem?_eq_getElem hlt)
    have htp := textsN_pre l (i + 1)
    have l1step : ∀ acc t k, 3 * (d + 1) + 3 ≤ k → acc.length + 1 ≤ 2 * (i + 1) → l[i].f0 = false → ¬ lastT acc → t.length ≤ textsN (l.take i) → sennitref07_Normal.l1 k l acc (i : Int) t = some ((l.drop i).foldl putG (withT acc t)) := by
      intro acc t k hk ha hf hla ht
      obtain ⟨k, rfl⟩ : ∃ q, k = q + 1 := ⟨k - 1, by omega⟩
      rw [sennitref07_Normal.l1, if_pos (by omega), if_pos (by omega), rdT27 _ _ hlt, if_neg (by rw [hf]; decide), if_pos (by omega), wrap_succ hlt (by omega), ih1 acc (t ++ l[i].f1) k (by omega) (by omega) hla (by rw [List.length_append]; omega), hdl, List.foldl_cons, withT_put acc t _ hf hla]
    have l0c : ∀ acc k, 3 * d + 4 ≤ k → acc.length ≤ 2 * i + 1 → l[i].f0 = true → sennitref07_Normal.l0 k l acc (i : Int) = some ((l.drop i).foldl putG acc) := by
      intro acc k hk ha hf
      obtain ⟨k, rfl⟩ : ∃ q, k = q + 1 := ⟨k - 1, by omega⟩
      rw [sennitref07_Normal.l0, if_pos (by omega), if_pos (by omega), rdT27 _ _ hlt, if_pos hf, if_pos (by omega), wrap_succ hlt (by omega), ih0 _ k (by omega) (by simp; omega) (fun _ h => by rw [lastT_snoc] at h; cases h), hdl, List.foldl_cons, putG_conf _ _ hf]
    refine ⟨fun acc k hk ha hinv => ?_, fun acc t k hk ha hla ht => ?_⟩
    · cases hf : l[i].f0 with
      | true => exact l0c acc k (by omega) (by omega) hf
      | false =>
        have hla : ¬ lastT acc := fun h => by have := hinv hlt h; rw [rdT27 _ _ hlt, hf] at this; cases this
        obtain ⟨k, rfl⟩ : ∃ q, k = q + 1 := ⟨k - 1, by omega⟩
        rw [sennitref07_Normal.l0, if_pos (by omega), if_pos (by omega), rdT27 _ _ hlt, if_neg (by rw [hf]; decide)]
        obtain ⟨k, rfl⟩ : ∃ q, k = q + 1 := ⟨k - 1, by omega⟩
        rw [sennitref07_Normal.l1, if_pos (by omega), if_pos (by omega), rdT27 _ _ hlt, if_neg (by rw [hf]; decide), if_pos (by simp; omega), wrap_succ hlt (by omega), List.nil_append, ih1 acc l[i].f1 k (by omega) (by omega) hla (by omega), hdl, List.foldl_cons]
        have := withT_put acc [] _ hf hla
        rw [List.nil_append] at this
        rw [← this]; rfl
    · cases hf : l[i].f0 with
      | false => exact l1step acc t k (by omega) (by omega) hf hla ht
      | true =>
        obtain ⟨k, rfl⟩ : ∃ q, k = q + 1 := ⟨k - 1, by omega⟩
        rw [sennitref07_Normal.l1, if_pos (by omega), if_pos (by omega), rdT27 _ _ hlt, if_pos hf]
        unfold withT
        by_cases hn : t = []
        · rw [if_pos hn, hn, if_neg (by simp), l0c _ _ (by omega) (by omega) hf]
        · have hp : 0 < t.length := List.length_pos_iff.2 hn
          rw [if_neg hn, if_pos (by omega), if_pos (by omega), l0c _ _ (by omega) (by simp; omega) hf]
theorem rNormal_f (l : List S27) (hl : l.length ≤ 1000) (htx : textsN l ≤ 1000000) (k : Nat) (hk : 3 * l.length + 3 ≤ k) : sennitref07_Normal.f k l = some (normG l) := by
  have := (rNormal_both l hl htx l.length 0 (by omega) (by omega)).1 [] k hk (by simp) (fun _ h => absurd rfl h.1)
  rwa [List.drop_zero] at this
theorem pNormal_f (l : List S27) (hl : l.length ≤ 1000) (htx : textsN l ≤ 1000000) (k : Nat) : pick_Normal.f k l = some (normG l) := by
  unfold pick_Normal.f; rw [if_pos ⟨by omega, htx⟩]
end Go.Proofs.Ytiaoppikdgoieaa.Pure
namespace Go.Proofs.Ytiaoppikdgoieaa.Pure
open Go.RowKit Go.Proofs.Ytiaoppikdgoieaa.M Go.Proofs.Ytiaoppikdgoieaa.Hand Go.Proofs.YtiaoppikdgoieaaW.PrintWords Go.Proofs.YtiaoppikdgoieaaW.PrintLast Go.Proofs.YtiaoppikdgoieaaW.PrintMore
set_option linter.unusedVariables false
set_option linter.unusedSimpArgs false
theorem alikeG_agree (at_ : List ByteArray → Nat → ByteArray) (l : List (List ByteArray)) : ∀ d n j, n ≤ j → j < alikeG at_ l d n → differB at_ l j = false := by
  intro d
  induction d with
  | zero => intro n j h1 h2; simp [alikeG] at h2; omega
  | succ d ih =>
    intro n j h1 h2
    rw [alikeG] at h2
    split at h2
    · omega
    · next h =>
      by_cases e : j = n
      · subst e; simpa using h
      · exact ih (n + 1) j (by omega) h2
theorem alikeG_stop (at_ : List ByteArray → Nat → ByteArray) (l : List (List ByteArray)) : ∀ d n, alikeG at_ l d n = n + d ∨ differB at_ l (alikeG at_ l d n) = true := by
  intro d
  induction d with
  | zero => intro n; exact .inl (by simp [alikeG])
  | succ d ih =>
    intro n
    rw [alikeG]
    split
    · next h => exact .inr h
    · rcases ih (n + 1) with h | h
      · exact .inl (by omega)
      · exact .inr h
theorem differB_false (at_ : List ByteArray → Nat → ByteArray) (l : List (List ByteArray)) (j : Nat) : differB at_ l j = false ↔ ∀ k ∈ l, at_ k j = at_ (rd_L1 l 0) j := by
  simp [differB]
theorem differB_true (at_ : List ByteArray → Nat → ByteArray) (l : List (List ByteArray)) (j : Nat) : differB at_ l j = true ↔ ∃ k ∈ l, at_ k j ≠ at_ (rd_L1 l 0) j := by
  simp [differB]
theorem foldMin_at : ∀ (l : List (List ByteArray)) (a : Nat), l.foldl (fun a k => min a k.length) a = a ∨ ∃ k ∈ l, k.length = l.foldl (fun a k => min a k.length) a
  | [], a => .inl rfl
  | x :: t, a => by
    rw [List.foldl_cons]
    rcases foldMin_at t (min a x.length) with h | ⟨k, hk, h⟩
    · by_cases e : a ≤ x.length
      · left; rw [h]; omega
      · right; exact ⟨x, List.mem_cons_self .., by rw [h]; omega⟩
    · exact .inr ⟨k, List.mem_cons_of_mem _ hk, h⟩
theorem rd0_mem {l : List (List ByteArray)} (h : l ≠ []) : rd_L1 l 0 ∈ l := by
  cases l with
  | nil => exact absurd rfl h
  | cons x t => simp [rd_L1]
theorem leastL_at {l : List (List ByteArray)} (h : l ≠ []) : ∃ k ∈ l, k.length = leastL (rd_L1 l 0) l := by
  rcases foldMin_at l (rd_L1 l 0).length with e | h
  · exact ⟨_, rd0_mem h, e.symm⟩
  · exact h
theorem leastL_nil {l : List (List ByteArray)} (h : [] ∈ l) (f : List ByteArray) : leastL f l = 0 := by
  have := (leastL_le f l).2 _ h
  simpa using this
theorem alike_zero (at_ : List ByteArray → Nat → ByteArray) (l : List (List ByteArray)) (h : leastL (rd_L1 l 0) l = 0 ∨ differB at_ l 0 = true) : alikeG at_ l (leastL (rd_L1 l 0) l) 0 = 0 := by
  generalize leastL (rd_L1 l 0) l = d at h ⊢
  cases d with
  | zero => rfl
  | succ d =>
    rcases h with h | h
    · cases h
    · rw [alikeG, if_pos h]
theorem alikeF_le {l : List (List ByteArray)} : ∀ x ∈ l, alikeF l ≤ x.length := fun x hx => by
  have h1 := alikeG_le atF l (leastL (rd_L1 l 0) l) 0
  have h2 := (leastL_le (rd_L1 l 0) l).2 x hx
  unfold alikeF; omega
theorem alikeB_le {l : List (List ByteArray)} : ∀ x ∈ l, alikeB l ≤ x.length := fun x hx => by
  have h1 := alikeG_le atB l (leastL (rd_L1 l 0) l) 0
  have h2 := (leastL_le (rd_L1 l 0) l).2 x hx
  unfold alikeB; omega
theorem atF_get {l : List ByteArray} {n : Nat} (h : n < l.length) : atF l n = l[n] := by
  simp [atF, rdOf, List.getD_eq_getElem?_getD, h]
theorem atB_get {l : List ByteArray} {n : Nat} (h : n < l.length) : atB l n = l[l.length - 1 - n] := by
  have : l.length - 1 - n < l.length := by omega
  simp [atB, rdOf, List.getD_eq_getElem?_getD, this]
theorem takeF {l : List (List ByteArray)} {x : List ByteArray} (hx : x ∈ l) : x.take (alikeF l) = (rd_L1 l 0).take (alikeF l) := by
  have hr := rd0_mem (List.ne_nil_of_mem hx)
  have h1 := alikeF_le x hx
  have h2 := alikeF_le _ hr
  refine List.ext_getElem (by simp; omega) fun i hi1 hi2 => ?_
  simp only [List.length_take] at hi1 hi2
  have := (differB_false atF l i).1 (alikeG_agree atF l _ 0 i (by omega) (show i < alikeF l by omega)) x hx
  rw [atF_get (by omega), atF_get (by omega)] at this
  rw [List.getElem_take, List.getElem_take, this]
theorem dropB {l : List (List ByteArray)} {x : List ByteArray} (hx : x ∈ l) : x.drop (x.length - alikeB l) = (rd_L1 l 0).drop ((rd_L1 l 0).length - alikeB l) := by
  have hr := rd0_mem (List.ne_nil_of_mem hx)
  have h1 := alikeB_le x hx
  have h2 := alikeB_le _ hr
  refine List.ext_getElem (by simp; omega) fun i hi1 hi2 => ?_
  simp only [List.length_drop] at hi1 hi2
  have := (differB_false atB l (alikeB l - 1 - i)).1 (alikeG_agree atB l _ 0 _ (by omega) (show alikeB l - 1 - i < alikeB l by omega)) x hx
  rw [atB_get (by omega), atB_get (by omega)] at this
  rw [List.getElem_drop, List.getElem_drop]
  have e1 : x.length - 1 - (alikeB l - 1 - i) = x.length - alikeB l + i := by omega
  have e2 : (rd_L1 l 0).length - 1 - (alikeB l - 1 - i) = (rd_L1 l 0).length - alikeB l + i := by omega
  simp only [e1, e2] at this
  exact this
/-- Lists without some texts at the begin, and at the end. -/
def cutG (l : List (List ByteArray)) (a b : Nat) : List (List ByteArray) := l.map fun k => (k.take (k.length - b)).drop a
theorem cutG_mem {l : List (List ByteArray)} {a b : Nat} {y : List ByteArray} : y ∈ cutG l a b ↔ ∃ x ∈ l, (x.take (x.length - b)).drop a = y := by simp [cutG]
theorem cutG_len (l : List (List ByteArray)) (a b : Nat) : (cutG l a b).length = l.length := by simp [cutG]
theorem cutG_rd {l : List (List ByteArray)} (h : l ≠ []) (a b : Nat) : rd_L1 (cutG l a b) 0 = ((rd_L1 l 0).take ((rd_L1 l 0).length - b)).drop a := by
  cases l with
  | nil => exact absurd rfl h
  | cons x t => simp [rd_L1, cutG]
theorem cutG_zero (l : List (List ByteArray)) : cutG l 0 0 = l := by simp [cutG]
theorem cutG_ne {l : List (List ByteArray)} (h : l ≠ []) (a b : Nat) : cutG l a b ≠ [] := by simpa [cutG] using h
theorem atF_drop (k : List ByteArray) (a : Nat) : atF (k.drop a) 0 = atF k a := by simp [atF, rdOf, List.getD_eq_getElem?_getD]
theorem atF_take (k : List ByteArray) (m : Nat) (h : 0 < m) : atF (k.take m) 0 = atF k 0 := by
  simp only [atF, rdOf, List.getD_eq_getElem?_getD]
  rw [List.getElem?_take_of_lt (by simpa using h)]
theorem atB_take (k : List ByteArray) (b : Nat) (h : 0 < k.length - b) : atB (k.take (k.length - b)) 0 = atB k b := by
  simp only [atB, rdOf, List.getD_eq_getElem?_getD]
  have e : (k.take (k.length - b)).length - 1 - 0 = k.length - 1 - b := by rw [List.length_take]; omega
  rw [e, List.getElem?_take_of_lt (by simp; omega)]
/-- No more is alike. -/
def DoneS (s : List (List ByteArray)) : Prop := s = [] ∨ (alikeF s = 0 ∧ alikeB s = 0 ∧ someL s = true)
theorem rest_zero {l : List (List ByteArray)} (h : l ≠ []) : alikeF (cutG l (alikeF l) 0) = 0 := by
  refine alike_zero atF _ ?_
  rcases alikeG_stop atF l (leastL (rd_L1 l 0) l) 0 with e | e
  · left
    obtain ⟨k, hk, hl⟩ := leastL_at h
    refine leastL_nil (cutG_mem.2 ⟨k, hk, ?_⟩) _
    have : alikeF l = k.length := by unfold alikeF; omega
    simp [this]
  · right
    obtain ⟨k, hk, hn⟩ := (differB_true atF l _).1 e
    refine (differB_true atF _ 0).2 ⟨_, cutG_mem.2 ⟨k, hk, rfl⟩, ?_⟩
    rw [cutG_rd h]
    simp only [Nat.sub_zero, List.take_length]
    rw [atF_drop, atF_drop]
    exact hn
theorem sides_done {r : List (List ByteArray)} (hr : r ≠ []) (h0 : alikeF r = 0) (hs : someL r = true) : DoneS (cutG r 0 (alikeB r)) := by
  have hne := cutG_ne hr 0 (alikeB r)
  have nil_of : ∀ k ∈ r, k.length ≤ alikeB r → leastL (rd_L1 (cutG r 0 (alikeB r)) 0) (cutG r 0 (alikeB r)) = 0 := fun k hk hl =>
    leastL_nil (cutG_mem.2 ⟨k, hk, by rw [show k.length - alikeB r = 0 by omega]; simp⟩) _
  have hrd := rd0_mem hr
  right
  refine ⟨alike_zero atF _ ?_, alike_zero atB _ ?_, ?_⟩
  · rcases alikeG_stop atF r (leastL (rd_L1 r 0) r) 0 with e | e
    · obtain ⟨k, hk, hl⟩ := leastL_at hr
      have : k.length = 0 := by unfold alikeF at h0; omega
      exact .inl (nil_of k hk (by omega))
    · obtain ⟨k, hk, hn⟩ := (differB_true atF r _).1 e
      rw [show alikeG atF r (leastL (rd_L1 r 0) r) 0 = 0 from h0] at hn
      by_cases h1 : k.length ≤ alikeB r
      · exact .inl (nil_of k hk h1)
      by_cases h2 : (rd_L1 r 0).length ≤ alikeB r
      · exact .inl (nil_of _ hrd h2)
      refine .inr ((differB_true atF _ 0).2 ⟨_, cutG_mem.2 ⟨k, hk, rfl⟩, ?_⟩)
      rw [cutG_rd hr, List.drop_zero, List.drop_zero, atF_take _ _ (by omega), atF_take _ _ (by omega)]
      exact hn
  · rcases alikeG_stop atB r (leastL (rd_L1 r 0) r) 0 with e | e
    · obtain ⟨k, hk, hl⟩ := leastL_at hr
      exact .inl (nil_of k hk (by unfold alikeB; omega))
    · obtain ⟨k, hk, hn⟩ := (differB_true atB r _).1 e
      by_cases h1 : k.length ≤ alikeB r
      · exact .inl (nil_of k hk h1)
      by_cases h2 : (rd_L1 r 0).length ≤ alikeB r
      · exact .inl (nil_of _ hrd h2)
      refine .inr ((differB_true atB _ 0).2 ⟨_, cutG_mem.2 ⟨k, hk, rfl⟩, ?_⟩)
      rw [cutG_rd hr, List.drop_zero, List.drop_zero, atB_take _ _ (by omega), atB_take _ _ (by omega)]
      exact hn
  · cases hS : someL (cutG r 0 (alikeB r)) with
    | true => rfl
    | false =>
      exfalso
      have hall : ∀ k ∈ r, k.length = alikeB r := fun k hk => by
        have h1 := alikeB_le k hk
        have h2 : ¬ 0 < (k.take (k.length - alikeB r)).length := by
          intro h3
          have : someL (cutG r 0 (alikeB r)) = true := List.any_eq_true.2 ⟨_, cutG_mem.2 ⟨k, hk, rfl⟩, by simpa using h3⟩
          rw [hS] at this; cases this
        rw [List.length_take] at h2; omega
      have hsame : ∀ k ∈ r, k = rd_L1 r 0 := fun k hk => by
        have := dropB hk
        rw [hall k hk, hall _ hrd, Nat.sub_self, List.drop_zero, List.drop_zero] at this
        exact this
      obtain ⟨k, hk, hp⟩ := List.any_eq_true.1 hs
      have hp : 0 < k.length := by simpa using hp
      rcases alikeG_stop atF r (leastL (rd_L1 r 0) r) 0 with e | e
      · obtain ⟨k', hk', hl⟩ := leastL_at hr
        have h3 := hall k hk
        have h4 := hall k' hk'
        unfold alikeF at h0; omega
      · obtain ⟨k', hk', hn⟩ := (differB_true atF r _).1 e
        exact hn (by rw [hsame k' hk'])
end Go.Proofs.Ytiaoppikdgoieaa.Pure
namespace Go.Proofs.Ytiaoppikdgoieaa.Pure
open Go.RowKit Go.Proofs.Ytiaoppikdgoieaa.M Go.Proofs.Ytiaoppikdgoieaa.Hand Go.Proofs.YtiaoppikdgoieaaW.PrintWords Go.Proofs.YtiaoppikdgoieaaW.PrintLast Go.Proofs.YtiaoppikdgoieaaW.PrintMore
set_option linter.unusedVariables false
set_option linter.unusedSimpArgs false
theorem cut_l0 (l : List (List ByteArray)) (a b : Nat) (hl : l.length ≤ 1000000) (h : ∀ x ∈ l, a + b ≤ x.length ∧ x.length ≤ 1000000) (d : Nat) :
    ∀ i k, i ≤ l.length → l.length - i = d → d < k → zeal_cut.l0 k (a : Int) (b : Int) (cutG (l.take i) a b) l (l.length : Int) (i : Int) = some (cutG l a b) := by
  induction d with
  | zero =>
    intro i k hi hd hk
    obtain ⟨k, rfl⟩ : ∃ q, k = q + 1 := ⟨k - 1, by omega⟩
    obtain rfl : i = l.length := by omega
    rw [zeal_cut.l0, if_neg (by omega), List.take_length]
  | succ d ih =>
    intro i k hi hd hk
    obtain ⟨k, rfl⟩ : ∃ q, k = q + 1 := ⟨k - 1, by omega⟩
    have hlt : i < l.length := by omega
    obtain ⟨h1, h2⟩ := h _ (List.getElem_mem hlt)
    have hw : wrap64 ((l[i].length : Int) - (b : Int)) = ((l[i].length - b : Nat) : Int) := by unfold wrap64; omega
    have hc : (cutG (l.take i) a b).length = i := by rw [cutG_len, List.length_take]; omega
    rw [zeal_cut.l0, if_pos (by omega), if_pos (by omega), if_pos (by omega), if_pos (by omega), rdL1 _ _ hlt, hw, if_pos (by omega), if_pos (by omega), if_pos (by omega), wrap_succ hlt (by omega)]
    have e : cutG (l.take i) a b ++ [(l[i].take ((l[i].length - b : Nat) : Int).toNat).drop (a : Int).toNat] = cutG (l.take (i + 1)) a b := by
      rw [Int.toNat_natCast, Int.toNat_natCast, List.take_succ_eq_append_getElem hlt]
      simp only [cutG, List.map_append, List.map_cons, List.map_nil]
    rw [e]
    exact ih (i + 1) k (by omega) (by omega) (by omega)
theorem cut_f (l : List (List ByteArray)) (a b : Nat) (hl : l.length ≤ 1000000) (h : ∀ x ∈ l, a + b ≤ x.length ∧ x.length ≤ 1000000) (k : Nat) (hk : l.length < k) : zeal_cut.f k l (a : Int) (b : Int) = some (cutG l a b) := by
  have := cut_l0 l a b hl h l.length 0 k (by omega) (by omega) hk
  simpa [zeal_cut.f, cutG] using this
/-- A piece made smaller. -/
def trimG (p : S27) : List S27 :=
  if p.f0 = false ∨ p.f3 = [] then normG [p]
  else if someL (cutG p.f3 (alikeF p.f3) 0) = true then
    normG [⟨false, (rd_L1 p.f3 0).take (alikeF p.f3), [], []⟩, ⟨true, [], p.f2, cutG (cutG p.f3 (alikeF p.f3) 0) 0 (alikeB (cutG p.f3 (alikeF p.f3) 0))⟩, ⟨false, (rd_L1 p.f3 0).drop ((rd_L1 p.f3 0).length - alikeB (cutG p.f3 (alikeF p.f3) 0)), [], []⟩]
  else normG [⟨false, (rd_L1 p.f3 0).take (alikeF p.f3), [], []⟩]
theorem trim_f (p : S27) (h1 : p.f1.length ≤ 1000000) (h3 : p.f3.length ≤ 100) (hx : ∀ x ∈ p.f3, x.length ≤ 1000) (k : Nat) (hk : 200 ≤ k) : zeal_Trim.f k p.f0 p.f1 p.f2 p.f3 = some (trimG p) := by
  obtain ⟨k, rfl⟩ : ∃ q, k = q + 1 := ⟨k - 1, by omega⟩
  unfold zeal_Trim.f
  have hn : pick_Normal.f k [(⟨p.f0, p.f1, p.f2, p.f3⟩ : S27)] = some (normG [p]) := pNormal_f _ (by simp) (by simpa [textsN] using h1) _
  cases hf : p.f0 with
  | false =>
    rw [hf] at hn
    rw [if_neg (by decide), zeal_Trim.j0, if_pos rfl, hn, trimG, if_pos (.inl hf)]; rfl
  | true =>
    rw [hf] at hn
    rw [if_pos rfl]
    by_cases hz : p.f3 = []
    · rw [show ((p.f3.length : Int) == 0) = true by rw [hz]; rfl, zeal_Trim.j0, if_pos rfl, hn, trimG, if_pos (.inr hz)]; rfl
    · have hlen : 0 < p.f3.length := List.length_pos_iff.2 hz
      have hrd := rd0_mem hz
      have hF := alikeF_le (l := p.f3)
      obtain ⟨a, ha⟩ : ∃ a, a = alikeF p.f3 := ⟨_, rfl⟩
      obtain ⟨r, hr⟩ : ∃ r, r = cutG p.f3 a 0 := ⟨_, rfl⟩
      have hrl : r.length = p.f3.length := by rw [hr, cutG_len]
      have hrm : ∀ y ∈ r, y.length ≤ 1000 := fun y hy => by
        rw [hr] at hy
        obtain ⟨x, hx', rfl⟩ := cutG_mem.1 hy
        have := hx x hx'
        simp; omega
      have hrn : r ≠ [] := by intro e; rw [e] at hrl; simp at hrl; omega
      have hB := alikeB_le (l := r)
      obtain ⟨b, hb⟩ : ∃ b, b = alikeB r := ⟨_, rfl⟩
      have okf : okA p.f3 := ⟨hlen, by omega, fun x hx' => by have := hx x hx'; omega⟩
      have okr : okA r := ⟨by omega, by omega, fun x hx' => by have := hrm x hx'; omega⟩
      have c1 : zeal_cut.f k p.f3 (a : Int) 0 = some (cutG p.f3 a 0) := cut_f p.f3 a 0 (by omega) (fun x hx' => ⟨by have := hF x hx'; omega, by have := hx x hx'; omega⟩) k (by omega)
      rw [← hr] at c1
      have c2 : zeal_cut.f k r 0 (b : Int) = some (cutG r 0 b) := cut_f r 0 b (by omega) (fun x hx' => ⟨by have := hB x hx'; omega, by have := hrm x hx'; omega⟩) k (by omega)
      have hra := hF _ hrd
      have hrx := hx _ hrd
      have hrb : b ≤ (rd_L1 p.f3 0).length := by
        have h1 := hB _ (rd0_mem hrn)
        have h2 : rd_L1 r 0 = ((rd_L1 p.f3 0).take ((rd_L1 p.f3 0).length - 0)).drop a := by rw [hr]; exact cutG_rd hz a 0
        have h3 : (rd_L1 r 0).length ≤ (rd_L1 p.f3 0).length := by rw [h2]; simp
        omega
      have hw : wrap64 (((rd_L1 p.f3 0).length : Int) - (b : Int)) = (((rd_L1 p.f3 0).length - b : Nat) : Int) := by unfold wrap64; omega
      rw [show ((p.f3.length : Int) == 0) = false from beq_eq_false_iff_ne.mpr (by omega), zeal_Trim.j0, if_neg (by decide), zeal_alikeF.f, if_pos okf, ← ha, Option.bind_some, c1, Option.bind_some, zeal_alikeB.f, if_pos okr, ← hb, Option.bind_some, if_pos (by omega), if_pos (by omega), if_pos (by omega), Option.bind_some, zeal_someL.f, Option.bind_some]
      have hnt : ¬ (p.f0 = false ∨ p.f3 = []) := by
        rintro (h | h)
        · rw [hf] at h; cases h
        · exact hz h
      unfold trimG
      rw [if_neg hnt, ← ha, ← hr, ← hb]
      cases hs : someL r with
      | true =>
        rw [if_pos rfl, if_pos rfl, c2, Option.bind_some, hw, if_pos (by omega), if_pos (by omega), Option.bind_some, if_pos (by simp), pNormal_f _ (by simp) (by simp [textsN]; omega), Option.bind_some, Int.toNat_natCast, Int.toNat_natCast]
        rfl
      | false =>
        rw [if_neg (by decide), if_neg (by decide), pNormal_f _ (by simp) (by simp [textsN]; omega), Option.bind_some, Int.toNat_natCast]
def rawG (l : List S27) : List S27 := (l.map trimG).flatten
def zealG (l : List S27) : List S27 := normG (rawG l)
theorem trimG_len (p : S27) : (trimG p).length ≤ 3 := by
  unfold trimG
  split
  · have := normG_len [p]; simp at this; omega
  · split
    · refine Nat.le_trans (normG_len _) (by simp)
    · refine Nat.le_trans (normG_len _) (by simp)
theorem trimG_texts (p : S27) (hx : ∀ x ∈ p.f3, x.length ≤ 1000) : textsN (trimG p) ≤ p.f1.length + 2000 := by
  have hr : (rd_L1 p.f3 0).length ≤ 1000 := by
    by_cases h : p.f3 = []
    · rw [h]; simp [rd_L1]
    · exact hx _ (rd0_mem h)
  unfold trimG
  split
  · have := normG_texts [p]; simp [textsN] at this ⊢; omega
  · split
    · refine Nat.le_trans (normG_texts _) ?_
      simp [textsN]; omega
    · refine Nat.le_trans (normG_texts _) ?_
      simp [textsN]; omega
theorem rawG_len (l : List S27) : (rawG l).length ≤ 3 * l.length := by
  unfold rawG
  induction l with
  | nil => simp
  | cons p t ih => have := trimG_len p; simp at ih ⊢; omega
theorem rawG_app (a b : List S27) : rawG (a ++ b) = rawG a ++ rawG b := by simp [rawG]
theorem rawG_one (p : S27) : rawG [p] = trimG p := by simp [rawG]
theorem textsN_one (p : S27) : textsN [p] = p.f1.length := by simp [textsN]
theorem rawG_texts (l : List S27) (hx : ∀ p ∈ l, ∀ x ∈ p.f3, x.length ≤ 1000) : textsN (rawG l) ≤ textsN l + 2000 * l.length := by
  induction l with
  | nil => simp [rawG, textsN]
  | cons p t ih =>
    have h1 := trimG_texts p (hx p (List.mem_cons_self ..))
    have h2 := ih (fun q hq => hx q (List.mem_cons_of_mem _ hq))
    have e1 : rawG (p :: t) = trimG p ++ rawG t := by simp [rawG]
    have e2 : textsN (p :: t) = p.f1.length + textsN t := by simp [textsN]
    rw [e1, textsN_app, e2, List.length_cons]; omega
/-- Pieces that are small enough. -/
def OkZ (l : List S27) : Prop := l.length ≤ 100 ∧ textsN l ≤ 300000 ∧ ∀ p ∈ l, p.f3.length ≤ 100 ∧ ∀ x ∈ p.f3, x.length ≤ 1000
theorem text_le {l : List S27} {p : S27} (h : p ∈ l) : p.f1.length ≤ textsN l := by
  induction l with
  | nil => cases h
  | cons q t ih =>
    have e2 : textsN (q :: t) = q.f1.length + textsN t := by simp [textsN]
    rcases List.mem_cons.1 h with h | h
    · subst h; omega
    · have := ih h; omega
theorem zeal_l0 (l : List S27) (h : OkZ l) (d : Nat) : ∀ i k, i ≤ l.length → l.length - i = d → d + 200 < k → zeal_Zeal.l0 k (rawG (l.take i)) l (l.length : Int) (i : Int) = some (zealG l) := by
  obtain ⟨h1, h2, h3⟩ := h
  induction d with
  | zero =>
    intro i k hi hd hk
    obtain ⟨k, rfl⟩ : ∃ q, k = q + 1 := ⟨k - 1, by omega⟩
    obtain rfl : i = l.length := by omega
    have hl := rawG_len l
    have ht := rawG_texts l (fun p hp => (h3 p hp).2)
    rw [zeal_Zeal.l0, if_neg (by omega), List.take_length, pNormal_f _ (by omega) (by omega), Option.bind_some]; rfl
  | succ d ih =>
    intro i k hi hd hk
    obtain ⟨k, rfl⟩ : ∃ q, k = q + 1 := ⟨k - 1, by omega⟩
    have hlt : i < l.length := by omega
    have hm := List.getElem_mem hlt
    have hp := h3 _ hm
    have hl := rawG_len (l.take i)
    have hl2 : (l.take i).length ≤ l.length := by simp; omega
    have ht := trimG_len l[i]
    rw [zeal_Zeal.l0, if_pos (by omega), if_pos (by omega), if_pos (by omega), rdT27 _ _ hlt, trim_f _ (by have := text_le hm; omega) hp.1 hp.2 k (by omega), Option.bind_some, if_pos (by omega), wrap_succ hlt (by omega)]
    have e : rawG (l.take i) ++ trimG l[i] = rawG (l.take (i + 1)) := by
      rw [List.take_succ_eq_append_getElem hlt, rawG_app, rawG_one]
    rw [e]
    exact ih (i + 1) k (by omega) (by omega) (by omega)
theorem zeal_f (l : List S27) (h : OkZ l) (k : Nat) (hk : 400 ≤ k) : zeal_Zeal.f k l = some (zealG l) := by
  have := zeal_l0 l h l.length 0 k (by omega) (by omega) (by have := h.1; omega)
  simpa [zeal_Zeal.f, rawG] using this
end Go.Proofs.Ytiaoppikdgoieaa.Pure
namespace Go.Proofs.Ytiaoppikdgoieaa.Pure
open Go.RowKit Go.Proofs.Ytiaoppikdgoieaa.M Go.Proofs.Ytiaoppikdgoieaa.Hand Go.Proofs.YtiaoppikdgoieaaW.PrintWords Go.Proofs.YtiaoppikdgoieaaW.PrintLast Go.Proofs.YtiaoppikdgoieaaW.PrintMore
set_option linter.unusedVariables false
set_option linter.unusedSimpArgs false
theorem awake10 (k : Nat) (hk : 500 ≤ k) : sennitlaw10_awake.f k = some true := by
  unfold sennitlaw10_awake.f
  have a1 : alikeF [[(⟨#[120]⟩ : ByteArray), ⟨#[97]⟩, ⟨#[121]⟩], [⟨#[120]⟩, ⟨#[98]⟩, ⟨#[121]⟩]] = 1 := by decide
  have a2 : cutG [[(⟨#[120]⟩ : ByteArray), ⟨#[97]⟩, ⟨#[121]⟩], [⟨#[120]⟩, ⟨#[98]⟩, ⟨#[121]⟩]] 1 0 = [[⟨#[97]⟩, ⟨#[121]⟩], [⟨#[98]⟩, ⟨#[121]⟩]] := by simp [cutG]
  have a3 : alikeB [[(⟨#[97]⟩ : ByteArray), ⟨#[121]⟩], [⟨#[98]⟩, ⟨#[121]⟩]] = 1 := by decide
  have a4 : someL [[(⟨#[97]⟩ : ByteArray), ⟨#[121]⟩], [⟨#[98]⟩, ⟨#[121]⟩]] = true := by decide
  have ht : trimG ⟨true, [], [(⟨#[122]⟩ : ByteArray)], [[(⟨#[120]⟩ : ByteArray), ⟨#[97]⟩, ⟨#[121]⟩], [⟨#[120]⟩, ⟨#[98]⟩, ⟨#[121]⟩]]⟩ = [⟨false, [⟨#[120]⟩], [], []⟩, ⟨true, [], [⟨#[122]⟩], [[⟨#[97]⟩], [⟨#[98]⟩]]⟩, ⟨false, [⟨#[121]⟩], [], []⟩] := by
    unfold trimG
    rw [if_neg (show ¬ ((true = false) ∨ [[(⟨#[120]⟩ : ByteArray), ⟨#[97]⟩, ⟨#[121]⟩], [⟨#[120]⟩, ⟨#[98]⟩, ⟨#[121]⟩]] = []) by simp)]
    simp only [a1, a2, a3, a4]
    simp [normG, putG, rd_T27, rd_L1, cutG]
  have h1 := trim_f ⟨true, [], [(⟨#[122]⟩ : ByteArray)], [[(⟨#[120]⟩ : ByteArray), ⟨#[97]⟩, ⟨#[121]⟩], [⟨#[120]⟩, ⟨#[98]⟩, ⟨#[121]⟩]]⟩ (by simp) (by simp) (by simp) k (by omega)
  rw [ht] at h1
  have h2 := zeal_f [⟨false, [(⟨#[97]⟩ : ByteArray)], [], []⟩] ⟨by simp, by simp [textsN], by simp⟩ k (by omega)
  have h3 : (zealG [⟨false, [(⟨#[97]⟩ : ByteArray)], [], []⟩]).length = 1 := by simp [zealG, rawG, trimG, normG, putG]
  rw [h1, Option.bind_some, h2, Option.bind_some, h3]
  simp [rd_T27, rd_L1, rdOf, ByteArray.toList_eq]
theorem cutG_at (l : List (List ByteArray)) (a b i : Nat) (h : i < l.length) : rd_L1 (cutG l a b) (i : Int) = (l[i].take (l[i].length - b)).drop a := by
  rw [rdL1 _ _ (by rw [cutG_len]; exact h)]
  simp [cutG]
theorem trim_choose (i : Nat) (p : S27) (h : p.f0 = true → i + 1 ≤ p.f3.length) : chooseG ((i + 1 : Nat) : Int) (trimG p) = chooseP ((i + 1 : Nat) : Int) p := by
  unfold trimG
  split
  · rw [normG_choose, chooseG_one]
  · next hc =>
    have hf : p.f0 = true := by cases hf : p.f0 with | true => rfl | false => exact absurd (.inl hf) hc
    have hz : p.f3 ≠ [] := fun e => hc (.inr e)
    have hlt := h hf
    have hi : i < p.f3.length := by omega
    have e1 : (((i + 1 : Nat) : Int) - 1) = (i : Int) := by omega
    have hmem := List.getElem_mem hi
    have hc2 : chooseP ((i + 1 : Nat) : Int) p = p.f3[i] := by
      unfold chooseP
      rw [if_neg (by rw [hf]; decide), if_pos (by omega), e1, rdL1 _ _ hi]
    have hT := takeF hmem
    have hFl := alikeF_le _ (rd0_mem hz)
    rw [hc2]
    obtain ⟨a, ha⟩ : ∃ a, a = alikeF p.f3 := ⟨_, rfl⟩
    rw [← ha] at hT ⊢
    have hr : cutG p.f3 a 0 ≠ [] := cutG_ne hz a 0
    have hrm : p.f3[i].drop a ∈ cutG p.f3 a 0 := cutG_mem.2 ⟨_, hmem, by simp⟩
    have hB := dropB hrm
    have hBl := alikeB_le (l := cutG p.f3 a 0) _ (rd0_mem hr)
    have hrd : rd_L1 (cutG p.f3 a 0) 0 = (rd_L1 p.f3 0).drop a := by rw [cutG_rd hz]; simp
    rw [hrd] at hB hBl
    generalize alikeB (cutG p.f3 a 0) = b at hB hBl ⊢
    split
    · rw [normG_choose]
      have hcut : rd_L1 (cutG (cutG p.f3 a 0) 0 b) (i : Int) = (p.f3[i].drop a).take ((p.f3[i].drop a).length - b) := by
        rw [cutG_at _ _ _ _ (by rw [cutG_len]; exact hi)]
        simp [cutG]
      have hlc : (cutG (cutG p.f3 a 0) 0 b).length = p.f3.length := by rw [cutG_len, cutG_len]
      have hd : (rd_L1 p.f3 0).drop ((rd_L1 p.f3 0).length - b) = (p.f3[i].drop a).drop ((p.f3[i].drop a).length - b) := by
        rw [hB, List.drop_drop]
        rw [List.length_drop] at hBl ⊢
        congr 1; omega
      rw [show ∀ x y z : S27, chooseG ((i + 1 : Nat) : Int) [x, y, z] = chooseP ((i + 1 : Nat) : Int) x ++ (chooseP ((i + 1 : Nat) : Int) y ++ chooseP ((i + 1 : Nat) : Int) z) from fun x y z => by simp [chooseG]]
      unfold chooseP
      rw [if_pos rfl, if_neg (by simp), if_pos (by rw [hlc]; omega), if_pos rfl, e1, hcut, hd, List.take_append_drop, ← hT, List.take_append_drop]
    · next hs =>
      rw [normG_choose, chooseG_one]
      unfold chooseP
      rw [if_pos rfl, ← hT]
      have : ¬ 0 < (p.f3[i].drop a).length := fun h3 => hs (List.any_eq_true.2 ⟨_, hrm, by simpa using h3⟩)
      rw [List.length_drop] at this
      exact List.take_of_length_le (by omega)
theorem raw_choose (i : Nat) (l : List S27) (h : ∀ p ∈ l, p.f0 = true → i + 1 ≤ p.f3.length) : chooseG ((i + 1 : Nat) : Int) (rawG l) = chooseG ((i + 1 : Nat) : Int) l := by
  induction l with
  | nil => rfl
  | cons p t ih =>
    have e1 : rawG (p :: t) = trimG p ++ rawG t := by simp [rawG]
    rw [e1, chooseG_app, trim_choose i p (h p (List.mem_cons_self ..)), ih (fun q hq => h q (List.mem_cons_of_mem _ hq)), ← chooseG_one, ← chooseG_app]; rfl
theorem zeal_choose (i : Nat) (l : List S27) (h : ∀ p ∈ l, p.f0 = true → i + 1 ≤ p.f3.length) : chooseG ((i + 1 : Nat) : Int) (zealG l) = chooseG ((i + 1 : Nat) : Int) l := by
  unfold zealG; rw [normG_choose, raw_choose i l h]
/-! ### Twice -/
theorem putG_same (acc : List S27) (x y : S27) (h0 : x.f0 = false) (h1 : y.f0 = false) (h : x.f1 = y.f1) : putG acc x = putG acc y := by
  have e0 : ¬ (x.f0 = true) := by rw [h0]; decide
  have e1 : ¬ (y.f0 = true) := by rw [h1]; decide
  unfold putG; rw [if_neg e0, if_neg e1, h]
theorem putG_two (F : List S27) (q x : S27) (hq : q.f0 = false) (hx : x.f0 = false) (h1 : x.f1 ≠ []) : putG (putG F q) x = putG F ⟨false, q.f1 ++ x.f1, q.f2, q.f3⟩ := by
  have hne : q.f1 ++ x.f1 ≠ [] := by simp [h1]
  by_cases hz : q.f1 = []
  · rw [putG_none F q hq hz]
    exact putG_same _ _ _ hx rfl (by simp [hz])
  · by_cases hl : lastT F
    · obtain ⟨init, r, rfl⟩ : ∃ init r, F = init ++ [r] := ⟨_, _, (List.dropLast_concat_getLast hl.1).symm⟩
      have hr := (lastT_snoc init r).1 hl
      rw [putG_more init r q hq hz hr, putG_more init _ x hx h1 rfl, putG_more init r _ rfl hne hr]
      simp
    · rw [putG_new F q hq hz hl, putG_more F _ x hx h1 rfl, putG_new F _ rfl hne hl]
theorem fold_put (acc B : List S27) (x : S27) : (putG B x).foldl putG acc = putG (B.foldl putG acc) x := by
  refine putG_cases (R := fun B x r => r.foldl putG acc = putG (B.foldl putG acc) x) B x (fun h => ?_) (fun h h1 => ?_) (fun h h1 _ => ?_) (fun init q e hq h h1 => ?_)
  · rw [List.foldl_append, List.foldl_cons, List.foldl_nil, putG_conf _ _ rfl, putG_conf _ _ h]
  · rw [putG_none _ _ h h1]
  · rw [List.foldl_append, List.foldl_cons, List.foldl_nil]
    exact putG_same _ _ _ rfl h rfl
  · rw [List.foldl_append, List.foldl_append, List.foldl_cons, List.foldl_nil, List.foldl_cons, List.foldl_nil, putG_two _ _ _ hq h h1]
theorem fold_fold (acc : List S27) : ∀ (B C : List S27), (B.foldl putG C).foldl putG acc = B.foldl putG (C.foldl putG acc)
  | [], C => rfl
  | x :: t, C => by rw [List.foldl_cons, fold_fold acc t, fold_put, List.foldl_cons]
theorem fold_norm (acc B : List S27) : (normG B).foldl putG acc = B.foldl putG acc := by unfold normG; rw [fold_fold]; rfl
theorem normG_join (A B : List S27) : normG (normG A ++ normG B) = normG (A ++ B) := by
  have e : ∀ X Y : List S27, normG (X ++ Y) = Y.foldl putG (normG X) := fun X Y => by unfold normG; rw [List.foldl_append]
  rw [e, e, fold_norm, normG_twice]
theorem zealG_join (a b : List S27) : normG (zealG a ++ zealG b) = zealG (a ++ b) := by
  unfold zealG; rw [normG_join, rawG_app]
theorem trimG_text (p : S27) (h : p.f0 = false) : trimG p = normG [p] := by unfold trimG; rw [if_pos (.inl h)]
theorem fold_text (l : List S27) (h : ∀ p ∈ l, p.f0 = false) : ∀ acc, (rawG l).foldl putG acc = l.foldl putG acc := by
  induction l with
  | nil => intro acc; rfl
  | cons p t ih =>
    intro acc
    have e1 : rawG (p :: t) = trimG p ++ rawG t := by simp [rawG]
    rw [e1, List.foldl_append, trimG_text p (h p (List.mem_cons_self ..)), fold_norm, ih (fun q hq => h q (List.mem_cons_of_mem _ hq))]; rfl
theorem zealG_clean (l : List S27) (h : ∀ p ∈ l, p.f0 = false) : zealG l = normG l := fold_text l h []
/-- The sides that are left of a conflict's. -/
def sidesG (p : S27) : List (List ByteArray) := cutG (cutG p.f3 (alikeF p.f3) 0) 0 (alikeB (cutG p.f3 (alikeF p.f3) 0))
theorem trimG_all3 {Q : List (List ByteArray) → Prop} (p : S27) (h0 : Q []) (hs : p.f3 ≠ [] → someL (cutG p.f3 (alikeF p.f3) 0) = true → Q (sidesG p)) : ∀ q ∈ trimG p, Q q.f3 := by
  cases hf : p.f0 with
  | false =>
    have e : trimG p = normG [⟨false, p.f1, [], []⟩] := by
      rw [trimG_text p hf]; unfold normG
      exact putG_same [] p ⟨false, p.f1, [], []⟩ hf rfl rfl
    rw [e]
    exact normG_all3 h0 (fun q hq => by rw [List.mem_singleton.1 hq]; exact h0)
  | true =>
    unfold trimG
    by_cases hz : p.f3 = []
    · rw [if_pos (.inr hz)]
      exact normG_all3 h0 (fun q hq => by rw [List.mem_singleton.1 hq, hz]; exact h0)
    · rw [if_neg (by rintro (h | h); · rw [hf] at h; cases h
                     · exact hz h)]
      split
      · next hh =>
        refine normG_all3 h0 (fun q hq => ?_)
        simp only [List.mem_cons, List.not_mem_nil, or_false] at hq
        rcases hq with rfl | rfl | rfl
        · exact h0
        · exact hs hz hh
        · exact h0
      · exact normG_all3 h0 (fun q hq => by rw [List.mem_singleton.1 hq]; exact h0)
theorem rawG_all3 {Q : List (List ByteArray) → Prop} (h0 : Q []) (l : List S27) (hs : ∀ p ∈ l, p.f3 ≠ [] → someL (cutG p.f3 (alikeF p.f3) 0) = true → Q (sidesG p)) : ∀ q ∈ rawG l, Q q.f3 := by
  intro q hq
  obtain ⟨t, ht, hq⟩ := List.mem_flatten.1 hq
  obtain ⟨p, hp, rfl⟩ := List.mem_map.1 ht
  exact trimG_all3 p h0 (hs p hp) q hq
theorem zealG_all3 {Q : List (List ByteArray) → Prop} (h0 : Q []) (l : List S27) (hs : ∀ p ∈ l, p.f3 ≠ [] → someL (cutG p.f3 (alikeF p.f3) 0) = true → Q (sidesG p)) : ∀ q ∈ zealG l, Q q.f3 :=
  normG_all3 h0 (rawG_all3 h0 l hs)
theorem sidesG_done (p : S27) (hz : p.f3 ≠ []) (hs : someL (cutG p.f3 (alikeF p.f3) 0) = true) : DoneS (sidesG p) :=
  sides_done (cutG_ne hz _ _) (rest_zero hz) hs
theorem sidesG_len (p : S27) : (sidesG p).length = p.f3.length := by unfold sidesG; rw [cutG_len, cutG_len]
theorem sidesG_le (p : S27) (M : Nat) (h : ∀ x ∈ p.f3, x.length ≤ M) : ∀ x ∈ sidesG p, x.length ≤ M := by
  intro x hx
  obtain ⟨y, hy, rfl⟩ := cutG_mem.1 hx
  obtain ⟨z, hz, rfl⟩ := cutG_mem.1 hy
  have := h z hz
  simp; omega
theorem trim_done (b : List ByteArray) (s : List (List ByteArray)) (h : DoneS s) : trimG ⟨true, [], b, s⟩ = [⟨true, [], b, s⟩] := by
  unfold trimG
  rcases h with h | ⟨h1, h2, h3⟩
  · rw [if_pos (.inr h)]; simp [normG, putG]
  · have hz : s ≠ [] := by rintro rfl; simp [someL] at h3
    rw [if_neg (show ¬ ((true = false) ∨ s = []) by simp [hz])]
    simp only [h1, cutG_zero, h2, h3]
    simp [normG, putG]
theorem rawG_fix {n : List S27} (h : NormS n) (hd : ∀ q ∈ n, DoneS q.f3) : rawG n = n := by
  induction h with
  | nil => rfl
  | conf h b s ih =>
    rw [rawG_app, rawG_one, ih (fun q hq => hd q (List.mem_append_left _ hq)), trim_done b s (hd ⟨true, [], b, s⟩ (List.mem_append_right _ (List.mem_singleton.2 rfl)))]
  | text h hl t ht ih =>
    rw [rawG_app, rawG_one, ih (fun q hq => hd q (List.mem_append_left _ hq)), trimG_text _ rfl]
    simp [normG, putG, ht]
theorem zealG_done (l : List S27) : ∀ q ∈ zealG l, DoneS q.f3 := zealG_all3 (Q := DoneS) (.inl rfl) l (fun p _ hz hs => sidesG_done p hz hs)
theorem zealG_twice (l : List S27) : zealG (zealG l) = zealG l := by
  have h := rawG_fix (normG_norm (rawG l)) (zealG_done l)
  show normG (rawG (normG (rawG l))) = _
  rw [h, normG_twice]; rfl
theorem okZ_zeal {l : List S27} (h : l.length ≤ 12) (h1 : textsN l ≤ 1000) (h3 : ∀ p ∈ l, p.f3.length ≤ 100 ∧ ∀ x ∈ p.f3, x.length ≤ 800) : OkZ (zealG l) ∧ ∀ p ∈ zealG l, p.f3.length ≤ 100 ∧ ∀ x ∈ p.f3, x.length ≤ 800 := by
  have h4 := zealG_all3 (Q := fun s => s.length ≤ 100 ∧ ∀ x ∈ s, x.length ≤ 800) ⟨by simp, fun x hx => by cases hx⟩ l (fun p hp _ _ => ⟨by rw [sidesG_len]; exact (h3 p hp).1, sidesG_le p 800 (h3 p hp).2⟩)
  have a1 := normG_len (rawG l)
  have a2 := rawG_len l
  have a3 := normG_texts (rawG l)
  have a4 := rawG_texts l (fun p hp x hx => by have := (h3 p hp).2 x hx; omega)
  refine ⟨⟨?_, ?_, fun p hp => ⟨(h4 p hp).1, fun x hx => by have := (h4 p hp).2 x hx; omega⟩⟩, h4⟩
  · show (normG (rawG l)).length ≤ 100; omega
  · show textsN (normG (rawG l)) ≤ 300000; omega
end Go.Proofs.Ytiaoppikdgoieaa.Pure
namespace Go.Proofs.Ytiaoppikdgoieaa.Pure
open Go.RowKit Go.Proofs.Ytiaoppikdgoieaa.M Go.Proofs.Ytiaoppikdgoieaa.Hand Go.Proofs.YtiaoppikdgoieaaW.PrintWords Go.Proofs.YtiaoppikdgoieaaW.PrintLast Go.Proofs.YtiaoppikdgoieaaW.PrintMore
set_option linter.unusedVariables false
def turnL {α : Type} (n : Nat) (l : List α) : List α := l.drop n ++ l.take n
theorem turnL_len {α : Type} (n : Nat) (l : List α) : (turnL n l).length = l.length := by simp [turnL]; omega
theorem turnL_mem {α : Type} (n : Nat) (l : List α) (x : α) : x ∈ turnL n l ↔ x ∈ l := by
  unfold turnL
  rw [List.mem_append]
  conv => rhs; rw [← List.take_append_drop n l]
  rw [List.mem_append, or_comm]
theorem turnL_map {α β : Type} (n : Nat) (l : List α) (f : α → β) : (turnL n l).map f = turnL n (l.map f) := by simp [turnL, List.map_drop, List.map_take]
theorem turnL_at {α : Type} (d : α) (n : Nat) (l : List α) (k : Nat) (hn : n < l.length) (hk : k < l.length) : (turnL n l).getD k d = l.getD ((k + n) % l.length) d := by
  unfold turnL
  simp only [List.getD_eq_getElem?_getD]
  by_cases hc : k < l.length - n
  · rw [List.getElem?_append_left (by simp; omega), List.getElem?_drop, Nat.mod_eq_of_lt (by omega), Nat.add_comm]
  · rw [List.getElem?_append_right (by simp; omega), List.length_drop, List.getElem?_take_of_lt (by omega), show k + n = (k - (l.length - n)) + l.length by omega, Nat.add_mod_right, Nat.mod_eq_of_lt (by omega)]
theorem differB_mem (at_ : List ByteArray → Nat → ByteArray) {l l' : List (List ByteArray)} (h : ∀ x, x ∈ l' ↔ x ∈ l) (hne : l ≠ []) (hne' : l' ≠ []) (j : Nat) : differB at_ l' j = differB at_ l j := by
  have m1 := rd0_mem hne
  have m2 := rd0_mem hne'
  have : (differB at_ l' j = false) ↔ (differB at_ l j = false) := by
    rw [differB_false, differB_false]
    constructor
    · intro h1 k hk
      rw [h1 k ((h k).2 hk), h1 _ ((h _).2 m1)]
    · intro h1 k hk
      rw [h1 k ((h k).1 hk), h1 _ ((h _).1 m2)]
  cases e : differB at_ l' j <;> cases e2 : differB at_ l j <;> simp_all
theorem leastL_mem {l l' : List (List ByteArray)} (h : ∀ x, x ∈ l' ↔ x ∈ l) (hne : l ≠ []) (hne' : l' ≠ []) : leastL (rd_L1 l' 0) l' = leastL (rd_L1 l 0) l := by
  obtain ⟨k, hk, e⟩ := leastL_at hne
  obtain ⟨k', hk', e'⟩ := leastL_at hne'
  have h1 := (leastL_le (rd_L1 l 0) l).2 k' ((h k').1 hk')
  have h2 := (leastL_le (rd_L1 l' 0) l').2 k ((h k).2 hk)
  omega
theorem alikeG_congr (at_ : List ByteArray → Nat → ByteArray) {l l' : List (List ByteArray)} (h : ∀ j, differB at_ l' j = differB at_ l j) : ∀ d n, alikeG at_ l' d n = alikeG at_ l d n := by
  intro d
  induction d with
  | zero => intro n; rfl
  | succ d ih => intro n; rw [alikeG, alikeG, h, ih]
theorem alike_turn (at_ : List ByteArray → Nat → ByteArray) (n : Nat) (l : List (List ByteArray)) (hne : l ≠ []) : alikeG at_ (turnL n l) (leastL (rd_L1 (turnL n l) 0) (turnL n l)) 0 = alikeG at_ l (leastL (rd_L1 l 0) l) 0 := by
  have hne' : turnL n l ≠ [] := fun e => hne (List.length_eq_zero_iff.1 (by have := congrArg List.length e; rw [turnL_len] at this; simpa using this))
  rw [alikeG_congr at_ (fun j => differB_mem at_ (turnL_mem n l) hne hne' j), leastL_mem (turnL_mem n l) hne hne']
theorem cut_turn (n : Nat) (l : List (List ByteArray)) (a b : Nat) : cutG (turnL n l) a b = turnL n (cutG l a b) := by unfold cutG; exact turnL_map n l _
theorem someL_turn (n : Nat) (l : List (List ByteArray)) : someL (turnL n l) = someL l := by
  have : (someL (turnL n l) = true) ↔ (someL l = true) := by
    unfold someL
    rw [List.any_eq_true, List.any_eq_true]
    exact ⟨fun ⟨x, h1, h2⟩ => ⟨x, (turnL_mem n l x).1 h1, h2⟩, fun ⟨x, h1, h2⟩ => ⟨x, (turnL_mem n l x).2 h1, h2⟩⟩
  exact Bool.eq_iff_iff.2 this
def turnP (n : Nat) (c : S27) : S27 := ⟨c.f0, c.f1, c.f2, turnL n c.f3⟩
theorem lastT_turn (n : Nat) (acc : List S27) : lastT (acc.map (turnP n)) ↔ lastT acc := by
  rcases List.eq_nil_or_concat acc with rfl | ⟨init, q, rfl⟩
  · exact Iff.rfl
  · rw [List.concat_eq_append, List.map_append, List.map_cons, List.map_nil, lastT_snoc, lastT_snoc]
    exact Iff.rfl
theorem put_turn (n : Nat) (acc : List S27) (x : S27) : putG (acc.map (turnP n)) (turnP n x) = (putG acc x).map (turnP n) := by
  refine putG_cases (R := fun acc x r => putG (acc.map (turnP n)) (turnP n x) = r.map (turnP n)) acc x (fun h => ?_) (fun h h1 => ?_) (fun h h1 hl => ?_) (fun init q e hq h h1 => ?_)
  · rw [putG_conf _ (turnP n x) h, List.map_append]; rfl
  · rw [putG_none _ (turnP n x) h h1]
  · rw [putG_new _ (turnP n x) h h1 (fun h2 => hl ((lastT_turn n _).1 h2)), List.map_append, List.map_cons, List.map_nil]
    congr 1
    simp [turnP, turnL]
  · rw [List.map_append, List.map_cons, List.map_nil, putG_more _ (turnP n q) (turnP n x) h h1 hq, List.map_append]; rfl
theorem norm_turn (n : Nat) (l : List S27) : normG (l.map (turnP n)) = (normG l).map (turnP n) := by
  have key : ∀ (l acc : List S27), (l.map (turnP n)).foldl putG (acc.map (turnP n)) = (l.foldl putG acc).map (turnP n) := by
    intro l
    induction l with
    | nil => intro acc; rfl
    | cons x t ih => intro acc; rw [List.map_cons, List.foldl_cons, List.foldl_cons, put_turn, ih]
  exact key l []
/-- Sides in another turn: what is left of a conflict has them so. -/
theorem trim_turn (p : S27) (h0 : p.f0 = true) (hz : p.f3 ≠ []) (n : Nat) : trimG (turnP n p) = (trimG p).map (turnP n) := by
  have hz' : turnL n p.f3 ≠ [] := fun e => hz (List.length_eq_zero_iff.1 (by have := congrArg List.length e; rw [turnL_len] at this; simpa using this))
  have hA : alikeF (turnL n p.f3) = alikeF p.f3 := alike_turn atF n p.f3 hz
  have hr : cutG p.f3 (alikeF p.f3) 0 ≠ [] := cutG_ne hz _ _
  have hB : alikeB (turnL n (cutG p.f3 (alikeF p.f3) 0)) = alikeB (cutG p.f3 (alikeF p.f3) 0) := alike_turn atB n _ hr
  have hm : rd_L1 (turnL n p.f3) 0 ∈ p.f3 := (turnL_mem n p.f3 _).1 (rd0_mem hz')
  have t1 := takeF hm
  have t2 : (rd_L1 (turnL n p.f3) 0).drop ((rd_L1 (turnL n p.f3) 0).length - alikeB (cutG p.f3 (alikeF p.f3) 0)) = (rd_L1 p.f3 0).drop ((rd_L1 p.f3 0).length - alikeB (cutG p.f3 (alikeF p.f3) 0)) := by
    have key : ∀ x ∈ p.f3, x.drop (x.length - alikeB (cutG p.f3 (alikeF p.f3) 0)) = (rd_L1 (cutG p.f3 (alikeF p.f3) 0) 0).drop ((rd_L1 (cutG p.f3 (alikeF p.f3) 0) 0).length - alikeB (cutG p.f3 (alikeF p.f3) 0)) := by
      intro x hx
      have hy : x.drop (alikeF p.f3) ∈ cutG p.f3 (alikeF p.f3) 0 := cutG_mem.2 ⟨x, hx, by simp⟩
      have h1 := alikeB_le _ hy
      have h2 := alikeF_le x hx
      rw [List.length_drop] at h1
      rw [← dropB hy, List.drop_drop, List.length_drop]
      congr 1
      omega
    rw [key _ hm, key _ (rd0_mem hz)]
  have n1 : ¬ ((turnP n p).f0 = false ∨ (turnP n p).f3 = []) := by
    rintro (h | h)
    · rw [show (turnP n p).f0 = p.f0 from rfl, h0] at h; cases h
    · exact hz' h
  have n2 : ¬ (p.f0 = false ∨ p.f3 = []) := by
    rintro (h | h)
    · rw [h0] at h; cases h
    · exact hz h
  unfold trimG
  rw [if_neg n1, if_neg n2]
  show (if someL (cutG (turnL n p.f3) (alikeF (turnL n p.f3)) 0) = true then _ else _) = _
  rw [hA, cut_turn, someL_turn]
  split
  · rw [← norm_turn]
    refine congrArg normG ?_
    show [(⟨false, (rd_L1 (turnL n p.f3) 0).take (alikeF (turnL n p.f3)), [], []⟩ : S27), ⟨true, [], p.f2, cutG (cutG (turnL n p.f3) (alikeF (turnL n p.f3)) 0) 0 (alikeB (cutG (turnL n p.f3) (alikeF (turnL n p.f3)) 0))⟩, ⟨false, (rd_L1 (turnL n p.f3) 0).drop ((rd_L1 (turnL n p.f3) 0).length - alikeB (cutG (turnL n p.f3) (alikeF (turnL n p.f3)) 0)), [], []⟩] = _
    rw [hA, cut_turn, hB, t2, t1, cut_turn]
    simp [turnP, turnL]
  · rw [← norm_turn]
    refine congrArg normG ?_
    show [(⟨false, (rd_L1 (turnL n p.f3) 0).take (alikeF (turnL n p.f3)), [], []⟩ : S27)] = _
    rw [hA, t1]
    simp [turnP, turnL]
theorem others_nil (b : List ByteArray) (l : List (List ByteArray)) : (othersG b l []).length = 0 ↔ ∀ x ∈ l, x = b := by
  constructor
  · intro h x hx
    rcases othersG_all b l [] x hx with h1 | h1
    · exact h1
    · rw [List.length_eq_zero_iff.1 h] at h1; cases h1
  · intro h
    rw [List.length_eq_zero_iff]
    refine List.eq_nil_iff_forall_not_mem.2 fun z hz => ?_
    rcases othersG_mem b l [] z hz with h1 | ⟨h1, h2⟩
    · cases h1
    · exact h2 (h z h1)
/-- A conflict stays one just if not all sides are the same. -/
theorem trim_clean (p : S27) (h0 : p.f0 = true) (hz : p.f3 ≠ []) : (!((trimG p).any fun z => z.f0)) = decide (∀ x ∈ p.f3, x = rd_L1 p.f3 0) := by
  have hany : ((trimG p).any fun z => z.f0) = someL (cutG p.f3 (alikeF p.f3) 0) := by
    unfold trimG
    rw [if_neg (by rintro (h | h); · rw [h0] at h; cases h
                   · exact hz h)]
    split
    · next h => rw [normG_any, h]; rfl
    · next h => rw [normG_any, Bool.eq_false_iff.2 h]; rfl
  rw [hany]
  have hiff : someL (cutG p.f3 (alikeF p.f3) 0) = false ↔ ∀ x ∈ p.f3, x = rd_L1 p.f3 0 := by
    constructor
    · intro h x hx
      have hall : ∀ y ∈ p.f3, y.take (alikeF p.f3) = y := fun y hy => by
        rw [List.take_of_length_le]
        rcases Nat.lt_or_ge (alikeF p.f3) y.length with h1 | h1
        · exfalso
          have : someL (cutG p.f3 (alikeF p.f3) 0) = true := List.any_eq_true.2 ⟨y.drop (alikeF p.f3), cutG_mem.2 ⟨y, hy, by simp⟩, by simp; omega⟩
          rw [h] at this; cases this
        · exact h1
      rw [← hall x hx, takeF hx, hall _ (rd0_mem hz)]
    · intro h
      have hA : alikeF p.f3 = (rd_L1 p.f3 0).length := by
        rcases alikeG_stop atF p.f3 (leastL (rd_L1 p.f3 0) p.f3) 0 with e | e
        · obtain ⟨k, hk, hl⟩ := leastL_at hz
          rw [h k hk] at hl
          unfold alikeF
          omega
        · obtain ⟨k, hk, hne⟩ := (differB_true atF p.f3 _).1 e
          exact absurd (by rw [h k hk]) hne
      rw [Bool.eq_false_iff]
      intro hs
      obtain ⟨y, hy, hy2⟩ := List.any_eq_true.1 hs
      obtain ⟨x, hx, rfl⟩ := cutG_mem.1 hy
      rw [hA, h x hx] at hy2
      simp at hy2
  cases hs : someL (cutG p.f3 (alikeF p.f3) 0) with
  | false => rw [decide_eq_true (hiff.1 hs)]; rfl
  | true => rw [decide_eq_false (fun h => by rw [hiff.2 h] at hs; cases hs)]; rfl
end Go.Proofs.Ytiaoppikdgoieaa.Pure
namespace Go.Proofs.Ytiaoppikdgoieaa.Pure
open Go.RowKit Go.Proofs.Ytiaoppikdgoieaa.M Go.Proofs.Ytiaoppikdgoieaa.Hand Go.Proofs.YtiaoppikdgoieaaW.PrintWords Go.Proofs.YtiaoppikdgoieaaW.PrintLast Go.Proofs.YtiaoppikdgoieaaW.PrintMore
set_option linter.unusedVariables false
theorem zt_w1 {i : Nat} (h : i ≤ 1000000) : wrap64 ((i : Int) + 1) = ((i + 1 : Nat) : Int) := by unfold wrap64; omega
theorem zt_wsm {z : Int} (h0 : 0 ≤ z) (h : z ≤ 1000000000) : wrap64 z = z := by unfold wrap64; omega
theorem zt_tmod (k n N : Nat) (h1 : k ≤ 1000) (h2 : n ≤ 1000) : Int.tmod (wrap64 ((k : Int) + (n : Int))) (N : Int) = (((k + n) % N : Nat) : Int) := by
  rw [show wrap64 ((k : Int) + (n : Int)) = ((k + n : Nat) : Int) from zt_wsm (by omega) (by omega), Int.tmod_eq_emod_of_nonneg (by omega)]
  rfl
theorem zt_rd (l : List S27) (i : Nat) (h : i < l.length) : rd_T27 l (i : Int) = l[i] := by simp [rd_T27, List.getD_eq_getElem?_getD, h]
theorem zt_rdT (n : Nat) (l : List S27) (i : Nat) (h : i < l.length) : rd_T27 (l.map (turnP n)) (i : Int) = turnP n l[i] := by simp [rd_T27, List.getD_eq_getElem?_getD, h]
theorem zt_rdS (n : Nat) (s : List (List ByteArray)) (k : Nat) (hn : n < s.length) (hk : k < s.length) : rd_L1 (turnL n s) (k : Int) = rd_L1 s (((k + n) % s.length : Nat) : Int) := by
  have := turnL_at [] n s k hn hk
  unfold rd_L1
  rw [Int.toNat_natCast, Int.toNat_natCast]
  exact this
theorem zt_mem (s : List (List ByteArray)) (k : Nat) (hk : k < s.length) : rd_L1 s (k : Int) ∈ s := by
  have : rd_L1 s (k : Int) = s[k] := by simp [rd_L1, List.getD_eq_getElem?_getD, hk]
  rw [this]; exact List.getElem_mem hk
theorem zt_l1 (n : Nat) (t : List S27) (i : Nat) (hi : i < t.length) (hi2 : i ≤ 1000) (h7 : t[i].f3.length ≤ 100) (hn : 0 < t[i].f3.length → n < t[i].f3.length) (hx : ∀ x ∈ t[i].f3, x.length ≤ 800) (p0 : Bool) (p1 p2 : List ByteArray) (p3 : List (List ByteArray)) (B : Nat)
    (H : ∀ K, B ≤ K → sennitlaw10_ZealTurn.l0 K true (n : Int) t (t.map (turnP n)) ((i + 1 : Nat) : Int) p0 p1 p2 p3 = some true) : ∀ d k K, k + d = t[i].f3.length → B + d + 1000 ≤ K →
    sennitlaw10_ZealTurn.l1 K true (n : Int) t (t.map (turnP n)) (i : Int) (k : Int) p0 p1 p2 p3 = some true := by
  have hr := zt_rd t i hi
  have hrT := zt_rdT n t i hi
  have lT : (turnP n t[i]).f3.length = t[i].f3.length := turnL_len n _
  intro d
  induction d with
  | zero =>
    intro k K hk hK
    obtain ⟨K, rfl⟩ : ∃ q, K = q + 1 := ⟨K - 1, by omega⟩
    rw [sennitlaw10_ZealTurn.l1, if_pos (by omega), if_pos (by omega), hr, if_neg (by omega), zt_w1 (by omega)]
    exact H K (by omega)
  | succ d ih =>
    intro k K hk hK
    obtain ⟨K, rfl⟩ : ∃ q, K = q + 1 := ⟨K - 1, by omega⟩
    have hkN : k < t[i].f3.length := by omega
    have hnN : n < t[i].f3.length := hn (by omega)
    have hmod : (k + n) % t[i].f3.length < t[i].f3.length := Nat.mod_lt _ (by omega)
    have c1 : (i : Int) < ((t.map (turnP n)).length : Int) := by rw [List.length_map]; omega
    have c3 : (i : Int) < (t.length : Int) := by omega
    have c4 : (0 : Int) ≤ (i : Int) := by omega
    have c5 : (0 : Int) ≤ (k : Int) := by omega
    have c6 : ¬ ((t[i].f3.length : Int) = 0) := by omega
    have k6 : k ≤ 1000 := by omega
    have n6 : n ≤ 1000 := by omega
    have k7 : k ≤ 1000000 := by omega
    have c7 : (k : Int) < (t[i].f3.length : Int) := by omega
    have c8 : (0 : Int) ≤ (((k + n) % t[i].f3.length : Nat) : Int) := by omega
    have c9 : (((k + n) % t[i].f3.length : Nat) : Int) < (t[i].f3.length : Int) := by omega
    have hih := ih (k + 1) K (by omega) (by omega)
    have g1 : rd_L1 (turnP n t[i]).f3 (k : Int) = rd_L1 t[i].f3 (((k + n) % t[i].f3.length : Nat) : Int) := zt_rdS n _ k hnN hkN
    have hxl := hx _ (zt_mem _ _ hmod)
    have hm1 : (rd_L1 t[i].f3 (((k + n) % t[i].f3.length : Nat) : Int)).length ≤ 9223372036854775807 := by omega
    have hm2 : (rd_L1 t[i].f3 (((k + n) % t[i].f3.length : Nat) : Int)).length < K := by omega
    clear H ih hK hk hmod
    rw [sennitlaw10_ZealTurn.l1, if_pos c4, if_pos c3, hr, hrT, lT, if_pos c7, if_pos c1, if_pos c5, if_pos c7, if_neg c6, zt_tmod k n _ k6 n6, if_pos c8, if_pos c9, g1, same_f _ _ hm1 _ hm2, decide_eq_true rfl, Option.bind_some, if_pos rfl, zt_w1 k7]
    exact hih
theorem zt_l0 (n : Nat) (t : List S27) (ht : t.length ≤ 3) (hq : ∀ q ∈ t, q.f1.length ≤ 1000000 ∧ q.f3.length ≤ 100 ∧ (0 < q.f3.length → n < q.f3.length) ∧ ∀ x ∈ q.f3, x.length ≤ 800) (p0 : Bool) (p1 p2 : List ByteArray) (p3 : List (List ByteArray)) (hpos : 0 < p3.length) (hE : (!(t.any fun z => z.f0)) = decide (∀ x ∈ p3, x = rd_L1 p3 0)) (hd : ∀ k, 200 ≤ k → sennitref06_Differing.f k (rd_L1 p3 0) p3 = some (othersG (rd_L1 p3 0) p3 [])) : ∀ (d i K : Nat), i + d = t.length → 1002000 * (d + 1) ≤ K →
    sennitlaw10_ZealTurn.l0 K true (n : Int) t (t.map (turnP n)) (i : Int) p0 p1 p2 p3 = some true := by
  intro d
  induction d with
  | zero =>
    intro i K hi hK
    obtain ⟨K, rfl⟩ : ∃ q, K = q + 1 := ⟨K - 1, by omega⟩
    have hO : (((othersG (rd_L1 p3 0) p3 []).length : Int) == 0) = decide (∀ x ∈ p3, x = rd_L1 p3 0) := by
      rw [show (((othersG (rd_L1 p3 0) p3 []).length : Int) == 0) = decide (((othersG (rd_L1 p3 0) p3 []).length : Int) = 0) from rfl]
      refine decide_eq_decide.2 ?_
      rw [← others_nil]
      omega
    rw [sennitlaw10_ZealTurn.l0, if_neg (by omega), if_pos rfl, pick_Clean.f, Option.bind_some, if_pos (by omega), hd K (by omega), Option.bind_some, hE, hO, beq_self_eq_true]
  | succ d ih =>
    intro i K hi hK
    obtain ⟨K, rfl⟩ : ∃ q, K = q + 2 := ⟨K - 2, by omega⟩
    have hlt : i < t.length := by omega
    obtain ⟨q1, q3, qn, qx⟩ := hq _ (List.getElem_mem hlt)
    have hr := zt_rd t i hlt
    have hrT := zt_rdT n t i hlt
    have lT : (turnP n t[i]).f3.length = t[i].f3.length := turnL_len n _
    have e0 : (turnP n t[i]).f0 = t[i].f0 := rfl
    have e1 : (turnP n t[i]).f1 = t[i].f1 := rfl
    have c1 : (i : Int) < ((t.map (turnP n)).length : Int) := by rw [List.length_map]; omega
    rw [sennitlaw10_ZealTurn.l0, if_pos (by omega), if_pos (by omega), if_pos c1, hr, hrT, lT, e0, e1, if_neg (by simp), same_f _ _ (by omega) _ (by omega), decide_eq_true rfl, Option.bind_some, if_pos rfl, sennitlaw10_ZealTurn.j2, if_neg (by simp)]
    exact zt_l1 n t i hlt (by omega) q3 qn qx p0 p1 p2 p3 (1002000 * (d + 1)) (fun K' hK' => ih (i + 1) K' (by omega) hK') t[i].f3.length 0 K (by omega) (by omega)
theorem ZealTurn (p : S27) (o0 : ok_27 p) (a1 : Int) (o1 : (Lit.int .u8 a1).wf = true) : ∃ k, sennitlaw10_ZealTurn.f k p.f0 p.f1 p.f2 p.f3 a1 = some true := by
  have hp : okIn p := okIn_of o0
  obtain ⟨b1, h1, B1⟩ := few07_f [p] (by simp) (fun q hq => by rw [List.mem_singleton.1 hq]; exact hp)
  refine ⟨9000001, ?_⟩
  unfold sennitlaw10_ZealTurn.f
  rw [awake10 _ (by omega), Option.bind_some, show (⟨p.f0, p.f1, p.f2, p.f3⟩ : S27) = p from rfl, h1 _ (by omega), Option.bind_some]
  cases b1 with
  | false => rw [if_neg (by decide), sennitlaw10_ZealTurn.j0, if_pos rfl]
  | true =>
    rw [if_pos rfl]
    cases h0 : p.f0 with
    | false => rw [if_neg (by decide), sennitlaw10_ZealTurn.j0, if_pos rfl]
    | true =>
      rw [if_pos rfl, sennitlaw10_ZealTurn.j0]
      by_cases hz : p.f3 = []
      · rw [if_pos (by rw [hz]; rfl)]
      have hpos : 0 < p.f3.length := List.length_pos_iff.2 hz
      have a3 := (B1 rfl).2 p (List.mem_singleton.2 rfl)
      have q1 : p.f1.length ≤ 1000 := by have := a3.1.1; omega
      have q3 : p.f3.length ≤ 6 := by have := a3.2.2.1; omega
      have qx : ∀ x ∈ p.f3, x.length ≤ 20 := fun x hx => by have := (a3.2.2.2 x hx).1; omega
      have hw : 0 ≤ a1 ∧ a1 ≤ 255 := by
        simp [Lit.wf, IntKind.min, IntKind.max, IntKind.signed, IntKind.bits] at o1
        omega
      obtain ⟨n, hn, hlt⟩ : ∃ n : Nat, Int.tmod (wrap64 a1) (p.f3.length : Int) = (n : Int) ∧ n < p.f3.length := by
        rw [show wrap64 a1 = a1 from zt_wsm (by omega) (by omega), Int.tmod_eq_emod_of_nonneg hw.1]
        refine ⟨(a1 % (p.f3.length : Int)).toNat, ?_, ?_⟩
        · have := Int.emod_nonneg a1 (show (p.f3.length : Int) ≠ 0 by omega)
          omega
        · have := Int.emod_lt_of_pos a1 (show (0 : Int) < (p.f3.length : Int) by omega)
          omega
      have ht := trim_f p (by omega) (by omega) (fun x hx => by have := qx x hx; omega) 9000000 (by omega)
      have ht2 : zeal_Trim.f 9000000 p.f0 p.f1 p.f2 (p.f3.drop n ++ p.f3.take n) = some (trimG (turnP n p)) :=
        trim_f (turnP n p) (show p.f1.length ≤ 1000000 by omega) (show (turnL n p.f3).length ≤ 100 by rw [turnL_len]; omega) (fun x hx => by have := qx x ((turnL_mem n p.f3 x).1 hx); omega) 9000000 (by omega)
      rw [trim_turn p h0 hz n] at ht2
      have hdf : ∀ k, 200 ≤ k → sennitref06_Differing.f k (rd_L1 p.f3 0) p.f3 = some (othersG (rd_L1 p.f3 0) p.f3 []) := fun k hk => diff_f _ _ (fun x hx => by have := qx x hx; omega) (by omega) k hk
      have hq : ∀ q ∈ trimG p, q.f1.length ≤ 1000000 ∧ q.f3.length ≤ 100 ∧ (0 < q.f3.length → n < q.f3.length) ∧ ∀ x ∈ q.f3, x.length ≤ 800 := fun q hq => by
        have e1 := trimG_texts p (fun x hx => by have := qx x hx; omega)
        have e2 := text_le hq
        have e3 := trimG_all3 (Q := fun s => s.length ≤ 100 ∧ (0 < s.length → n < s.length) ∧ ∀ x ∈ s, x.length ≤ 800) p ⟨by simp, fun h => by simp at h, fun x hx => by cases hx⟩ (fun _ _ => by
          have hsl := sidesG_len p
          refine ⟨by omega, fun _ => by omega, sidesG_le p 800 (fun x hx => by have := qx x hx; omega)⟩) q hq
        exact ⟨by omega, e3⟩
      have hl := zt_l0 n (trimG p) (trimG_len p) hq p.f0 p.f1 p.f2 p.f3 hpos (trim_clean p h0 hz) hdf (trimG p).length 0 9000000 (by omega) (by have := trimG_len p; omega)
      rw [h0] at ht ht2 hl
      rw [if_neg (by simp; omega), if_neg (by omega), Option.bind_some, hn, if_pos (by omega), if_pos (by omega), Option.bind_some, Int.toNat_natCast, if_pos (by simp; omega), Option.bind_some, Option.bind_some, List.nil_append, if_pos (by simp; omega), ht, Option.bind_some, ht2, Option.bind_some, List.length_map, if_pos rfl]
      exact hl
end Go.Proofs.Ytiaoppikdgoieaa.Pure
