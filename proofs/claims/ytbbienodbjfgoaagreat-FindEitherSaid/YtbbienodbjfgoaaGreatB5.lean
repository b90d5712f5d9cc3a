/- Texts that the walks of package find lean on: part 5. -/
import Derived.Test.YtbbienodbjfgoaaGreatB4
set_option linter.unusedVariables false
set_option linter.unusedSimpArgs false

/- What is reached, back and on: plain. -/
namespace Go.Lag
open Go Go.RowKit Go.Proofs

inductive Reach (next : Int → List Int) : Int → Int → Prop
  | refl (p : Int) : Reach next p p
  | step {p q r : Int} : q ∈ next p → Reach next q r → Reach next p r
theorem Reach.snoc {next : Int → List Int} {p q r : Int} (h : Reach next p q) (k : r ∈ next q) : Reach next p r := by
  induction h with
  | refl p => exact .step k (.refl r)
  | step h1 _ ih => exact .step h1 (ih k)
theorem Reach.rev {next on : Int → List Int} (h : ∀ p q, q ∈ next p → p ∈ on q) {p q : Int} (hr : Reach next p q) : Reach on q p := by
  induction hr with
  | refl p => exact .refl p
  | step h1 _ ih => exact ih.snoc (h _ _ h1)
theorem Reach.inU {next : Int → List Int} {U : List Int} (hU : ∀ p ∈ U, ∀ q ∈ next p, q ∈ U) {p q : Int} (h : Reach next p q) (hp : p ∈ U) : q ∈ U := by
  induction h with
  | refl p => exact hp
  | step h1 _ ih => exact ih (hU _ hp _ h1)

/-! ### Depth first -/
theorem dfs_sound {next : Int → List Int} : ∀ (n : Nat) (mm : List (Int × Bool)) (p q : Int), visB (dfs next n mm p) q = true → visB mm q = true ∨ Reach next p q
  | 0, mm, p, q, h => .inl h
  | n + 1, mm, p, q, h => by
    unfold dfs at h
    split at h
    · exact .inl h
    · have key : ∀ (ps : List Int) (m : List (Int × Bool)), (∀ z ∈ ps, z ∈ next p) → visB (ps.foldl (fun m q => dfs next n m q) m) q = true → visB m q = true ∨ Reach next p q := by
        intro ps
        induction ps with
        | nil => intro m _ h; exact .inl h
        | cons z ps ih =>
          intro m hz h
          rcases ih _ (fun y hy => hz y (List.mem_cons_of_mem _ hy)) h with h1 | h1
          · rcases dfs_sound n m z q h1 with h2 | h2
            · exact .inl h2
            · exact .inr (.step (hz z (List.mem_cons_self ..)) h2)
          · exact .inr h1
      rcases key (next p) _ (fun _ h => h) h with h1 | h1
      · rw [visB_aset, Bool.or_eq_true, decide_eq_true_eq] at h1
        rcases h1 with rfl | h1
        · exact .inr (.refl p)
        · exact .inl h1
      · exact .inr h1
theorem dfs_full {next : Int → List Int} {U : List Int} (hU : ∀ p ∈ U, ∀ q ∈ next p, q ∈ U) : ∀ (n : Nat) (mm : List (Int × Bool)) (p : Int), p ∈ U → cnt U mm < n →
    visB (dfs next n mm p) p = true ∧ ∀ q, visB (dfs next n mm p) q = true → visB mm q = true ∨ ∀ r ∈ next q, visB (dfs next n mm p) r = true
  | 0, mm, p, _, hn => by omega
  | n + 1, mm, p, hp, hn => by
    unfold dfs
    split
    · rename_i hv; exact ⟨hv, fun q hq => .inl hq⟩
    · rename_i hv
      have hv : visB mm p = false := Bool.eq_false_iff.2 hv
      have hc := cnt_aset hp hv
      have key : ∀ (ps : List Int) (m : List (Int × Bool)), (∀ z ∈ ps, z ∈ U) → cnt U m < n →
          (∀ z ∈ ps, visB (ps.foldl (fun m q => dfs next n m q) m) z = true) ∧ ∀ q, visB (ps.foldl (fun m q => dfs next n m q) m) q = true → visB m q = true ∨ ∀ r ∈ next q, visB (ps.foldl (fun m q => dfs next n m q) m) r = true := by
        intro ps
        induction ps with
        | nil => intro m _ _; exact ⟨by simp, fun q hq => .inl hq⟩
        | cons z ps ih =>
          intro m hz hm
          obtain ⟨i1, i2⟩ := dfs_full hU n m z (hz z (List.mem_cons_self ..)) hm
          obtain ⟨j1, j2⟩ := ih (dfs next n m z) (fun y hy => hz y (List.mem_cons_of_mem _ hy)) (cnt_step hm)
          have mono : ∀ q, visB (dfs next n m z) q = true → visB (ps.foldl (fun m q => dfs next n m q) (dfs next n m z)) q = true := fun q hq => foldl_mono (dfs_mono n) ps _ q hq
          refine ⟨fun y hy => ?_, fun q hq => ?_⟩
          · rcases List.mem_cons.1 hy with rfl | hy
            · exact mono _ i1
            · exact j1 y hy
          · rcases j2 q hq with h1 | h1
            · rcases i2 q h1 with h2 | h2
              · exact .inl h2
              · exact .inr fun r hr => mono r (h2 r hr)
            · exact .inr h1
      obtain ⟨k1, k2⟩ := key (next p) (aset mm p true) (hU p hp) (by omega)
      have hself : visB ((next p).foldl (fun m q => dfs next n m q) (aset mm p true)) p = true := foldl_mono (dfs_mono n) _ _ p (by rw [visB_aset]; simp)
      refine ⟨hself, fun q hq => ?_⟩
      rcases k2 q hq with h1 | h1
      · rw [visB_aset, Bool.or_eq_true, decide_eq_true_eq] at h1
        rcases h1 with rfl | h1
        · exact .inr k1
        · exact .inl h1
      · exact .inr h1
theorem dfs_iff {next : Int → List Int} {U : List Int} (hU : ∀ p ∈ U, ∀ q ∈ next p, q ∈ U) {p : Int} (hp : p ∈ U) {n : Nat} (hn : U.length < n) (q : Int) : visB (dfs next n [] p) q = true ↔ Reach next p q := by
  have h0 : ∀ q, ¬ visB ([] : List (Int × Bool)) q = true := fun q => by simp [visB, aget_nil]
  obtain ⟨h1, h2⟩ := dfs_full hU n [] p hp (by rw [cnt_nil]; exact hn)
  constructor
  · intro h; rcases dfs_sound n [] p q h with h3 | h3
    · exact absurd h3 (h0 q)
    · exact h3
  · intro h
    have : ∀ a b, Reach next a b → visB (dfs next n [] p) a = true → visB (dfs next n [] p) b = true := by
      intro a b hr
      induction hr with
      | refl a => exact id
      | step h3 _ ih =>
        intro ha
        rcases h2 _ ha with h4 | h4
        · exact absurd h4 (h0 _)
        · exact ih (h4 _ h3)
    exact this p q h h1
/-- All that a search of this kind writes down is true. -/
theorem dfs_allT {next : Int → List Int} : ∀ (n : Nat) (mm : List (Int × Bool)) (p : Int), AllT mm → AllT (dfs next n mm p)
  | 0, mm, p, h => h
  | n + 1, mm, p, h => by
    unfold dfs
    split
    · exact h
    · have key : ∀ (ps : List Int) (m : List (Int × Bool)), AllT m → AllT (ps.foldl (fun m q => dfs next n m q) m) := by
        intro ps
        induction ps with
        | nil => intro m h; exact h
        | cons z ps ih => intro m h; exact ih _ (dfs_allT n m z h)
      exact key _ _ (h.aset p)
theorem key_iff {α : Type} {m : List (Int × α)} {q : Int} : q ∈ m.map (·.1) ↔ (aget m q).isSome = true := by
  rw [← ahas_eq]; simp only [ahas, List.any_eq_true, List.mem_map]
  constructor
  · rintro ⟨z, hz, rfl⟩; exact ⟨z, hz, by simp⟩
  · rintro ⟨z, hz, h⟩; exact ⟨z, hz, by simpa using h⟩
theorem dfs_keys_iff {next : Int → List Int} {U : List Int} (hU : ∀ p ∈ U, ∀ q ∈ next p, q ∈ U) {p : Int} (hp : p ∈ U) {n : Nat} (hn : U.length < n) (q : Int) : q ∈ (dfs next n [] p).map (·.1) ↔ Reach next p q := by
  rw [← dfs_iff hU hp hn, key_iff]
  have hT := dfs_allT (next := next) n [] p (fun k b h => by simp [aget_nil] at h)
  constructor
  · intro h
    obtain ⟨b, hb⟩ := Option.isSome_iff_exists.1 h
    simp [visB, hb, hT q b hb]
  · intro h
    cases hq : aget (dfs next n [] p) q with
    | none => simp [visB, hq] at h
    | some b => rfl

/-! ### Back and on are each other's ways back -/
theorem back_on {C : List Rep} (h : Inv C) {p q : Int} (hq : q ∈ backL C p) : p ∈ onL C q := by
  unfold backL at hq
  split at hq
  · cases hq
  · cases hm : aget (makerM C) p with
    | none => simp [hm, usesL, Rep.zero] at hq
    | some x =>
      rw [hm] at hq
      obtain ⟨m1, m2⟩ := maker_mem hm
      have hu : aget (userM C) q = some x := h.user.2 ⟨m1, hq⟩
      simp only [onL, hu, Option.isSome_some, if_true, Option.getD_some]; exact m2
theorem on_back {C : List Rep} (h : Inv C) {p q : Int} (hq : q ∈ onL C p) : p ∈ backL C q := by
  unfold onL at hq
  split at hq
  · rename_i hs
    obtain ⟨x, hx⟩ := Option.isSome_iff_exists.1 hs
    rw [hx] at hq
    obtain ⟨m1, m2⟩ := user_mem hx
    have hm : aget (makerM C) q = some x := h.maker.2 ⟨m1, hq⟩
    have hk : ¬ x.kind = 1 := fun e => by simp [usesL, e] at m2
    simp only [backL, hm, Option.getD_some, if_neg hk]; exact m2
  · cases hq
theorem reach_back_on {C : List Rep} (h : Inv C) {p q : Int} : Reach (backL C) p q ↔ Reach (onL C) q p :=
  ⟨fun hr => hr.rev fun _ _ => back_on h, fun hr => hr.rev fun _ _ => on_back h⟩
theorem used_ids {C : List Rep} (h : Inv C) {p q : Int} (hp : p ∈ onL C q) : q ∈ idsL C := by
  unfold onL at hp
  split at hp
  · rename_i hs
    obtain ⟨x, hx⟩ := Option.isSome_iff_exists.1 hs
    rw [hx] at hp
    obtain ⟨m1, m2⟩ := user_mem hx
    obtain ⟨⟨y, hy, hm, _⟩, _⟩ : (∃ y ∈ C, q ∈ makesL y ∧ True) ∧ True := by
      obtain ⟨A, B, e, ha, _⟩ := h.split m1
      obtain ⟨⟨y, hy, hm, _⟩, _⟩ := ha q (uses_touch (h.rep x m1) m2)
      exact ⟨⟨y, by rw [e]; exact List.mem_append_left _ hy, hm, trivial⟩, trivial⟩
    refine sortL_mem.2 (List.mem_filter.2 ⟨made_mem.2 (maker_some hy hm), ?_⟩)
    have hk : ¬ x.kind = 7 := fun e => by
      rcases makes_kind (x := x) hp with r | r | r <;> omega
    simp [okB, hx, hk]
  · cases hp
theorem made_ids {C : List Rep} (h : Inv C) {p q : Int} (hp : q ∈ onL C p) : q ∈ idsL C := by
  unfold onL at hp
  split at hp
  · rename_i hs
    obtain ⟨x, hx⟩ := Option.isSome_iff_exists.1 hs
    rw [hx] at hp
    obtain ⟨m1, m2⟩ := user_mem hx
    refine sortL_mem.2 (List.mem_filter.2 ⟨made_mem.2 (maker_some m1 hp), ?_⟩)
    cases hu : aget (userM C) q with
    | none => simp [okB, hu]
    | some u =>
      obtain ⟨n1, n2⟩ := user_mem hu
      have hk : ¬ u.kind = 7 := fun e => by
        obtain ⟨A, B, eC, ha, _⟩ := h.split n1
        obtain ⟨⟨y, hy, hm, hy7⟩, _⟩ := ha q (uses_touch (h.rep u n1) n2)
        have hyC : y ∈ C := by rw [eC]; exact List.mem_append_left _ hy
        have : y = x := h.id_eq hyC m1 (makes_id (h.rep y hyC) (h.rep x m1) hm hp)
        subst this
        have := hy7 e
        simp [usesL, this] at m2
      simp [okB, hu, hk]
  · cases hp
end Go.Lag

/- Ways between finds and parcels: origins, remains and chains agree. -/
namespace Go.Lag
open Go Go.RowKit
theorem ckP_yes {C : List Rep} {p id_ : Int} (h : ((aget (userM C) p).isSome && decide (uidN C p = id_)) = true) : ckP C id_ p = makesL ((aget (userM C) p).getD Rep.zero) := by
  simp only [Bool.and_eq_true] at h
  have h2 := of_decide_eq_true h.2
  simp [ckP, h.1, h2, onL]
theorem ckP_no {C : List Rep} {p id_ : Int} (h : ((aget (userM C) p).isSome && decide (uidN C p = id_)) = false) : ckP C id_ p = [] := by simp [ckP, h]
theorem ckL_succ {C : List Rep} {f : Int} {ch : List Int} {i : Nat} {x : Int} {S : List Int} (hx : ch[i]? = some x) (h : S = ckL C f (ch.take i)) : ckStep C S x = ckL C f (ch.take (i + 1)) := by
  rw [h, ckL, ckL, foldl_take_succ hx]
theorem ckE_eq {l : List Rep} {known f p : Int} {ch : List Int} (hE : lookE l known [f, p] = 0) : ckE l known f p ch = decide (p ∈ ckL (countL l known) f ch) := by rw [ckE, if_pos hE]
theorem has_no {xs : List Int} {n : Int} {i : Nat} (hi : ¬ (i : Int) < (xs.length : Int)) (h : ∀ y ∈ xs.take i, (fun a : Int => decide (a = n)) y = false) : ¬ n ∈ xs := by
  rw [take_all hi] at h
  intro hm
  have := h n hm
  simp at this

/-! ### The search reaches all -/
def FCl (next : Int → List Int) (s : FSt) : Prop := ∀ q, (aget s.far q).isSome = true → q ∈ s.row ∨ ∀ z ∈ next q, (aget s.far z).isSome = true
theorem fPush_old {p z q : Int} {s : FSt} (h : (aget s.far q).isSome = true) : (aget (fPush p s z).far q).isSome = true := by
  unfold fPush; split
  · exact h
  · exact aset_some q h
theorem fPush_new {p z : Int} {s : FSt} : (aget (fPush p s z).far z).isSome = true := by
  unfold fPush; split
  · assumption
  · simp [aget_aset]
theorem fPush_row {p z q : Int} {s : FSt} (h : q ∈ s.row) : q ∈ (fPush p s z).row := by
  unfold fPush; split
  · exact h
  · exact List.mem_append_left _ h
theorem fPush_key {p z q : Int} {s : FSt} (h : (aget (fPush p s z).far q).isSome = true) : (aget s.far q).isSome = true ∨ q ∈ (fPush p s z).row := by
  unfold fPush at h ⊢; split
  · rename_i e; rw [if_pos e] at h; exact .inl h
  · rename_i e
    rw [if_neg e] at h
    simp only [aget_aset] at h
    split at h
    · rename_i e2; subst e2; exact .inr (by simp)
    · exact .inl h
theorem fRow_old {p q : Int} : ∀ (zs : List Int) (s : FSt), (aget s.far q).isSome = true → (aget (zs.foldl (fPush p) s).far q).isSome = true
  | [], s, h => h
  | z :: zs, s, h => fRow_old zs _ (fPush_old h)
theorem fRow_row {p q : Int} : ∀ (zs : List Int) (s : FSt), q ∈ s.row → q ∈ (zs.foldl (fPush p) s).row
  | [], s, h => h
  | z :: zs, s, h => fRow_row zs _ (fPush_row h)
theorem fRow_new {p q : Int} : ∀ (zs : List Int) (s : FSt), q ∈ zs → (aget (zs.foldl (fPush p) s).far q).isSome = true
  | z :: zs, s, h => by
    rcases List.mem_cons.1 h with rfl | h
    · exact fRow_old zs _ fPush_new
    · exact fRow_new zs _ h
theorem fRow_key {p q : Int} : ∀ (zs : List Int) (s : FSt), (aget (zs.foldl (fPush p) s).far q).isSome = true → (aget s.far q).isSome = true ∨ q ∈ (zs.foldl (fPush p) s).row
  | [], s, h => .inl h
  | z :: zs, s, h => by
    rcases fRow_key zs _ h with h1 | h1
    · rcases fPush_key h1 with h2 | h2
      · exact .inl h2
      · exact .inr (fRow_row zs _ h2)
    · exact .inr h1
theorem fBfs_cl {next : Int → List Int} {U : List Int} {p0 : Int} (hU : ∀ p ∈ U, ∀ q ∈ next p, q ∈ U) : ∀ (n : Nat) (s : FSt), todoF U s < n → FInv next U p0 s → FCl next s → FCl next (fBfs next n s) ∧ (fBfs next n s).row = []
  | 0, s, h, _, _ => absurd h (Nat.not_lt_zero _)
  | n + 1, s, h, hF, hc => by
    obtain ⟨f, row⟩ := s
    cases row with
    | nil => exact ⟨hc, rfl⟩
    | cons p row =>
      have hp : (aget f p).isSome = true := hF.row p (List.mem_cons_self ..)
      have hpU := hF.inU p hp
      have h1 := fPop_inv hF 1
      have h2 := fBfs_next h (p := p) rfl (hU p hpU)
      refine fBfs_cl hU n _ h2.2 (fRow_inv (hU p hpU) (next p) _ (fun _ h => h) h1 hp).1 fun q hq => ?_
      rcases fRow_key (next p) _ hq with h3 | h3
      · rcases hc q h3 with h4 | h4
        · rcases List.mem_cons.1 h4 with rfl | h4
          · exact .inr fun z hz => fRow_new _ _ hz
          · exact .inl (fRow_row _ _ h4)
        · exact .inr fun z hz => fRow_old _ _ (h4 z hz)
      · exact .inl h3
theorem fStart_cl (next : Int → List Int) (p : Int) : FCl next (fStart p) := fun q hq => by
  simp only [fStart, aget_cons, aget_nil] at hq
  split at hq
  · rename_i e; subst e; exact .inl (by simp [fStart])
  · cases hq
theorem far_fin {C : List Rep} (hI : Inv C) {p : Int} (hp : p ∈ madeL C) : ∃ row, FInv (backL C) (madeL C) p ⟨farL C p, row⟩ ∧ ∀ q, (aget (farL C p) q).isSome = true ↔ Reach (backL C) p q := by
  obtain ⟨r1, r2, hmd, hrk, hend⟩ := hI.good
  have hU := back_in hmd
  have hul : (madeL C).length = (makerM C).length := by simp [madeL]
  have ht := fStart_todo (madeL C) p
  rw [hul] at ht
  have h0 : FInv (backL C) (madeL C) p (fStart p) := fStart_inv hp
  have hF := fBfs_inv hU ((makerM C).length + 2) _ h0
  have hc := fBfs_cl hU ((makerM C).length + 2) _ ht h0 (fStart_cl _ _)
  refine ⟨_, hF, fun q => ⟨fun h => ?_, fun h => ?_⟩⟩
  · obtain ⟨d, hd⟩ := Option.isSome_iff_exists.1 h
    have : ∀ (n : Nat) (q d : Int), d.toNat ≤ n → aget (farL C p) q = some d → Reach (backL C) p q := by
      intro n
      induction n with
      | zero =>
        intro q d hn hd
        rcases hF.from_ q d hd with ⟨rfl, _⟩ | ⟨h1, _⟩
        · exact .refl _
        · omega
      | succ n ih =>
        intro q d hn hd
        rcases hF.from_ q d hd with ⟨rfl, _⟩ | ⟨h1, r, h2, h3⟩
        · exact .refl _
        · exact (ih r (d - 1) (by omega) h2).snoc h3
    exact this d.toNat q d (Nat.le_refl _) hd
  · have key : ∀ a b, Reach (backL C) a b → (aget (farL C p) a).isSome = true → (aget (farL C p) b).isSome = true := by
      intro a b hr
      induction hr with
      | refl a => exact id
      | step h1 _ ih =>
        intro ha
        refine ih ?_
        rcases hc.1 _ ha with h2 | h2
        · rw [hc.2] at h2; cases h2
        · exact h2 _ h1
    exact key _ _ h (by rw [show aget (farL C p) p = some 0 from hF.zero]; rfl)
/-! ### A chain is accepted -/
theorem ckStep_mono {C : List Rep} {S S' : List Int} (h : ∀ q ∈ S, q ∈ S') (id_ : Int) : ∀ q ∈ ckStep C S id_, q ∈ ckStep C S' id_ := fun q hq => by
  rw [mem_ckStep] at hq ⊢
  obtain ⟨p, hp, r⟩ := hq
  exact ⟨p, h p hp, r⟩
theorem step_ck {C : List Rep} {far : List (Int × Int)} {S : List Int} {best q : Int} (h : q ∈ stepL C far S best) : q ∈ ckStep C S best := by
  obtain ⟨p, hp, h1, h2, _⟩ := mem_stepL.1 h
  refine mem_ckStep.2 ⟨p, hp, ⟨?_, h1⟩, h2⟩
  unfold onL at h2; split at h2
  · assumption
  · cases h2
theorem chain_ck {C : List Rep} {far : List (Int × Int)} {p0 : Int} {row : List Int} (hI : Inv C) (hF : FInv (backL C) (madeL C) p0 ⟨far, row⟩) : ∀ (n : Nat) (S S' : List Int) (d : Int), FarOk C far p0 S d → 0 ≤ d → d.toNat < n → (∀ q ∈ S, q ∈ S') →
    p0 ∈ (chainN C far n S).foldl (ckStep C) S'
  | 0, S, S', d, _, _, h, _ => absurd h (Nat.not_lt_zero _)
  | n + 1, S, S', d, hS, h0, hn, hs => by
    by_cases hd : d = 0
    · subst hd
      obtain ⟨q, hq⟩ := List.exists_mem_of_ne_nil _ hS.ne
      have h1 := hS.at_ q hq
      rw [chain_stop hq (by simp [gN, h1])]
      rcases hF.from_ q 0 h1 with ⟨rfl, _⟩ | ⟨h2, _⟩
      · exact hs _ hq
      · omega
    · rw [chain_go hS hd hn, List.foldl_cons, Nat.add_sub_cancel]
      exact chain_ck hI hF n _ _ (d - 1) (far_step hI hF hS hd) (by omega) (by omega) fun q hq => ckStep_mono hs _ q (step_ck hq)
/-! ### Origins and remains are there -/
section
variable {C : List Rep}
theorem ids_made {p : Int} (h : p ∈ idsL C) : p ∈ madeL C := made_mem.2 (ids_mem h)
theorem org_iff (hI : Inv C) {p : Int} (hp : p ∈ idsL C) (q : Int) : q ∈ originsL C p ↔ Reach (backL C) p q ∧ foundL C q = true := by
  obtain ⟨r1, r2, hmd, hrk, hend⟩ := hI.good
  have hul : (madeL C).length = (makerM C).length := by simp [madeL]
  rw [originsL, List.mem_filter, sortL_mem, dfs_keys_iff (back_in hmd) (ids_made hp) (by omega)]
  simp
theorem rem_iff (hI : Inv C) {p : Int} (hp : p ∈ idsL C) (q : Int) : q ∈ remainsL C p ↔ Reach (onL C) p q ∧ ¬ 0 < ((aget (parsL C) q).getD Par.zero).into := by
  have hul : (madeL C).length = (makerM C).length := by simp [madeL]
  rw [remainsL, List.mem_filter, sortL_mem, dfs_keys_iff on_in (ids_made hp) (by omega)]
  simp
theorem found_kind {p : Int} (hp : p ∈ idsL C) : foundL C p = decide ((mkOf C p).kind = 1) := by
  simp [foundL, parsL_get, hp, parOf, parcelP]
theorem into_user {p : Int} (hp : p ∈ idsL C) : ((aget (parsL C) p).getD Par.zero).into = ((aget (userM C) p).getD Rep.zero).id := by
  simp [parsL_get, hp, parOf, parcelP]
theorem org_some (hI : Inv C) {p : Int} (hp : p ∈ idsL C) : ∃ q, Reach (backL C) p q ∧ foundL C q = true := by
  obtain ⟨r1, r2, hmd, hrk, hend⟩ := hI.good
  have : ∀ (n : Nat) (p : Int), r1 p ≤ n → p ∈ idsL C → ∃ q, Reach (backL C) p q ∧ foundL C q = true := by
    intro n
    induction n with
    | zero =>
      intro p hn hp
      by_cases hf : foundL C p = true
      · exact ⟨p, .refl _, hf⟩
      · rw [found_kind hp] at hf
        obtain ⟨x, hx⟩ := Option.isSome_iff_exists.1 (ids_mem hp)
        rw [mkOf_some hx] at hf
        have hk : ¬ x.kind = 1 := by simpa using hf
        obtain ⟨q, hq⟩ := List.exists_mem_of_ne_nil _ (hmd.ne p x hx hk)
        have := (hmd.lt p x hx hk q hq).2
        omega
    | succ n ih =>
      intro p hn hp
      by_cases hf : foundL C p = true
      · exact ⟨p, .refl _, hf⟩
      · rw [found_kind hp] at hf
        obtain ⟨x, hx⟩ := Option.isSome_iff_exists.1 (ids_mem hp)
        rw [mkOf_some hx] at hf
        have hk : ¬ x.kind = 1 := by simpa using hf
        obtain ⟨q, hq⟩ := List.exists_mem_of_ne_nil _ (hmd.ne p x hx hk)
        have hlt := (hmd.lt p x hx hk q hq).2
        have hb : q ∈ backL C p := by simp [backL, hx, hk, hq]
        obtain ⟨z, h1, h2⟩ := ih q (by omega) (used_ids hI (back_on hI hb))
        exact ⟨z, .step hb h1, h2⟩
  exact this _ p (Nat.le_refl _) hp
theorem makes_ne {x : Rep} (h : reportB x = true) {p : Int} (hp : p ∈ usesL x) (hk : ¬ x.kind = 7) : makesL x ≠ [] := by
  have hx : 0 < makesN x := by
    simp only [reportB, Bool.and_eq_true] at h
    have hf := h.1.1.1
    unfold usesL at hp
    by_cases k2 : x.kind = 2
    · simp [fieldsB, k2] at hf
      have := inB_le hf.2
      simp [makesN, k2]; omega
    · by_cases k3 : x.kind = 3
      · simp [makesN, k3]
      · simp [k2, k3, hk] at hp
  intro e
  have h1 : 10 * x.id ∈ makesL x := makes_iff.2 ⟨by omega, by omega⟩
  rw [e] at h1; cases h1
theorem rem_some (hI : Inv C) {p : Int} (hp : p ∈ idsL C) : ∃ q, Reach (onL C) p q ∧ ¬ 0 < ((aget (parsL C) q).getD Par.zero).into := by
  obtain ⟨r1, r2, hmd, hrk, hend⟩ := hI.good
  have : ∀ (n : Nat) (p : Int), C.length - r1 p ≤ n → p ∈ idsL C → ∃ q, Reach (onL C) p q ∧ ¬ 0 < ((aget (parsL C) q).getD Par.zero).into := by
    have step : ∀ p ∈ idsL C, 0 < ((aget (parsL C) p).getD Par.zero).into → ∃ q ∈ onL C p, r1 p < r1 q := by
      intro p hp h0
      rw [into_user hp] at h0
      cases hu : aget (userM C) p with
      | none => simp [hu, Rep.zero] at h0
      | some u =>
        obtain ⟨m1, m2⟩ := user_mem hu
        have hok := (List.mem_filter.1 (sortL_mem.1 hp)).2
        have hk : ¬ u.kind = 7 := by simpa [okB, hu] using hok
        obtain ⟨q, hq⟩ := List.exists_mem_of_ne_nil _ (makes_ne (hI.rep u m1) m2 hk)
        have hm : aget (makerM C) q = some u := hI.maker.2 ⟨m1, hq⟩
        have hk1 : ¬ u.kind = 1 := fun e => by simp [usesL, e] at m2
        exact ⟨q, by simp [onL, hu, hq], (hmd.lt q u hm hk1 p m2).2⟩
    intro n
    induction n with
    | zero =>
      intro p hn hp
      by_cases h0 : 0 < ((aget (parsL C) p).getD Par.zero).into
      · obtain ⟨q, hq, hlt⟩ := step p hp h0
        have := hrk q
        omega
      · exact ⟨p, .refl _, h0⟩
    | succ n ih =>
      intro p hn hp
      by_cases h0 : 0 < ((aget (parsL C) p).getD Par.zero).into
      · obtain ⟨q, hq, hlt⟩ := step p hp h0
        have := hrk q
        obtain ⟨z, h1, h2⟩ := ih q (by omega) (made_ids hI hq)
        exact ⟨z, .step hq h1, h2⟩
      · exact ⟨p, .refl _, h0⟩
  exact this _ p (Nat.le_refl _) hp
end
/-! ### The law -/
section
variable {l : List Rep} {known f p : Int}
theorem look_two (hf : lookE l known [f] = 0) (hp : lookE l known [p] = 0) : lookE l known [f, p] = 0 := by
  unfold lookE at hf hp ⊢
  by_cases hc : (checkE l).2 = 0
  · simp only [hc, not_true, if_false, List.all_cons, List.all_nil, Bool.and_true] at hf hp ⊢
    split at hf
    · rename_i h1
      split at hp
      · rename_i h2; rw [h1, h2]; simp
      · cases hp
    · cases hf
  · simp [hc] at hf
theorem ways_ne (hf : lookE l known [f] = 0) (hp : lookE l known [p] = 0) : originsL (countL l known) p ≠ [] ∧ remainsL (countL l known) f ≠ [] := by
  obtain ⟨hc, h1⟩ := look_mem hf
  have h2 := (look_mem hp).2 p (by simp)
  have h1 := h1 f (by simp)
  have hI := (checked hc).inv known
  obtain ⟨a, ha⟩ := org_some hI h2
  obtain ⟨b, hb⟩ := rem_some hI h1
  exact ⟨List.ne_nil_of_mem ((org_iff hI h2 a).2 ha), List.ne_nil_of_mem ((rem_iff hI h1 b).2 hb)⟩
theorem ways_e (hf : lookE l known [f] = 0) (hp : lookE l known [p] = 0) : (chainE l known f p).2 = if (aget (farL (countL l known) p) f).isSome = true then 0 else 5 := by
  have h2 := look_two hf hp
  unfold chainE
  rw [if_neg (by rw [h2]; simp)]
  split <;> rfl
theorem ways_ck (hf : lookE l known [f] = 0) (hp : lookE l known [p] = 0) (h : (chainE l known f p).2 = 0) : ckE l known f p (chainE l known f p).1 = true := by
  have h2 := look_two hf hp
  rw [ways_e hf hp] at h
  have hs : (aget (farL (countL l known) p) f).isSome = true := by
    split at h
    · assumption
    · omega
  have hI := (checked (look_mem hf).1).inv known
  obtain ⟨row, hF, _⟩ := far_fin hI (ids_made ((look_mem hp).2 p (by simp)))
  rw [ckE_eq h2]
  unfold chainE
  rw [if_neg (by rw [h2]; simp), if_pos hs]
  obtain ⟨d, hd⟩ := Option.isSome_iff_exists.1 hs
  have hg : gN (farL (countL l known) p) f = d := by simp [gN, hd]
  have h0 := hF.lt f d hd
  refine decide_eq_true (chain_ck hI hF _ [f] [f] d ⟨by simp, fun q hq => by simp at hq; subst hq; exact hd⟩ h0.1 (by rw [hg]; omega) fun _ h => h)
theorem ways_eq (hf : lookE l known [f] = 0) (hp : lookE l known [p] = 0) (hx : (parL (countL l known) f).found = true) (hy : (parL (countL l known) p).into = 0) :
    decide (f ∈ originsL (countL l known) p) = decide (p ∈ remainsL (countL l known) f) ∧ decide (f ∈ originsL (countL l known) p) = decide ((chainE l known f p).2 = 0) := by
  obtain ⟨hc, h1⟩ := look_mem hf
  have h2 := (look_mem hp).2 p (by simp)
  have h1 := h1 f (by simp)
  have hI := (checked hc).inv known
  obtain ⟨row, hF, hr⟩ := far_fin hI (ids_made h2)
  have e1 := org_iff hI h2 f
  have e2 := rem_iff hI h1 p
  have hx : foundL (countL l known) f = true := hx
  have hy : ((aget (parsL (countL l known)) p).getD Par.zero).into = 0 := hy
  rw [hx] at e1
  rw [hy, ← reach_back_on hI] at e2
  rw [ways_e hf hp]
  constructor
  · rw [decide_eq_decide, e1, e2]; simp
  · rw [decide_eq_decide, e1, ← hr f]
    split <;> simp_all
end
end Go.Lag
namespace Go.Lag
section
variable {P : Program} {l : Env} {H : List Assn} {ty t u : TypeId} {x y : Operand} {a b : Bool}
/-- A comparison whose answer is known. -/
theorem EqTr [h : TBool P t] (he : a = b) (hx : ev l x = some (.bool a) := by rfl) (hy : ev l y = some (.bool b) := by rfl) : YldH P (.binOp .eql t x y u) ty l H (.bool true) := by
  have h1 := EqB (P := P) (t := t) (u := u) (ty := ty) (H := H) hx hy
  rwa [he, beq_self_eq_true] at h1
end
end Go.Lag

namespace Go.Lag
open Go Go.RowKit Go.Proofs
set_option maxRecDepth 100000 in
set_option maxHeartbeats 4000000 in
theorem checkChain_sp {Z : Hp} {l : List Rep} {lv : Value} (hl : SlZ (EZ Z) Z lv l := by assumption) {known : Int} (hn : l.length ≤ 1000 := by assumption) (hg : (checkE l).2 = 0 → GoodL (countL l known) := by first | assumption | exact good_of) {f p : Int} {ch : List Int} {cv : Value} (hch : SlZ (EI .i64) Z cv ch := by assumption) : Sp Tryz.prog 32 [lv, .int .i64 known, .int .i64 f, .int .i64 p, cv] [.zm Z] fun v H' => v = .tuple #[.bool (ckE l known f p ch), .int .i64 (lookE l known [f, p])] ∧ H' = [] := by
 refine Sp.of 85 Tryz.func32 rfl rfl rfl ?_
 intro F
 have hcl0 := hch.len_le
 refine Sr ?_
 refine Y As ?_
 refine Y As ?_
 refine Nq ?_
 refine Sr ?_
 refine Y Mv ?_
 refine Y Mv ?_
 refine Y Mv ?_
 refine Y Mv ?_
 refine D Bs ?_
 rintro _ _ ⟨b28, rfl, rfl⟩
 refine ToRwI [f, p] ?_
 refine FzI fun Zp hzp1 hzp2 => ?_
 have hl2 := hl.up hzp1
 refine D (Cf (hs := looks_sp (hl := hl2) (hps := hzp2))) ?_
 rintro _ _ ⟨_, ⟨Z29, bv29, hZ29, rfl, rfl, hb29, hc29⟩, rfl⟩
 refine Y Mv ?_
 refine Y Xc ?_
 refine Y Xc ?_
 refine Y As ?_
 refine Y As ?_
 refine Nq ?_
 refine Sq ?_
 refine Sr ?_
 refine Y Mv ?_
 refine Y Ne_ ?_
 refine Nq ?_
 refine Cn (fun h2 => ?_) fun h2 => ?_
 ·
  refine Sr ?_
  refine Y Mv ?_
  refine Y As ?_
  refine Y As ?_
  refine Nq ?_
  refine Rt ?_
  refine Rh ?_
  refine Rv2 [] ?_
  exact ⟨by rw [ckE, if_neg h2], rfl⟩
 ·
  refine Sk ?_
  refine Pq ?_
  refine Sr ?_
  have hE := h2
  obtain ⟨b, s, iv, pb, rfl, hB⟩ := hb29 hE
  obtain ⟨hc0, hin⟩ := look_mem hE
  have hI := (checked hc0).inv known
  obtain ⟨r1, r2, hmd, hrk, hend⟩ := hI.good
  have hr := checked_rep hc0
  have hsm : ∀ x ∈ (countL l known), Small x := fun y hy => (report_small (hr y (count_mem hy))).1
  have hml := maker_len hsm
  have hcl := count_len l known
  have hul : (madeL (countL l known)).length = (makerM (countL l known)).length := by simp [madeL]
  have hid := ids_len (countL l known)
  obtain ⟨lv9, mb9, ub9, hb9, hS⟩ := hB.st
  have hba := hB.at_
  have hbp := hB.ps
  have hbi := hB.ids
  have hat := hS.at_
  have hmk := hS.mm
  have hus := hS.us
  have hch9 := (hch.mono hzp1).mono hZ29
  refine D (Mm (EB)) ?_
  rintro _ _ ⟨m35, rfl, rfl⟩
  refine Y Mv ?_
  refine Dn (In true) ?_
  rintro _ _ rfl
  refine Y Mv ?_
  refine Y As ?_
  refine Nq ?_
  refine Sq ?_
  refine Sr ?_
  refine Y Mv ?_
  refine Y Ln ?_
  refine Y Mv ?_
  refine Nq ?_
  refine Bk ?_
  refine Lp (fun n_ l_ H_ => ∃ (i : Nat) (S : List Int) (mh : Nat) (mm : List (Int × Bool)), n_ = ch.length - i ∧ l_ = [(3, .int .i64 p), (12, ptr b 0), (14, .map (some mh)), (38, cv), (39, .int .i64 (ch.length : Int)), (40, .int .i64 (i : Int))] ∧ H_ = .mp EB mh mm :: .zm Z29 :: F ∧ (i ≤ ch.length) ∧ (HereOk mm S) ∧ (S = ckL (countL l known) f (ch.take i))) ⟨0, [f], m35, _, rfl, rfl, rfl, (by omega), (HereOk.one f), (by simp [ckL])⟩ ⟨rfl, rfl, rfl, rfl, rfl, rfl, trivial⟩ ?_
  rintro _ _ _ ⟨i, S, mh, mm, rfl, rfl, rfl, hi, hH, hS⟩
  refine NdW mh (fun hnd => ?_)
  refine Sr ?_
  refine Y Lt ?_
  refine Nq ?_
  refine Sq ?_
  refine Cp (fun h4 => ?_) fun h4 => ?_
  ·
   refine Sk ?_
   refine Pq ?_
   refine Sq ?_
   refine Bk ?_
   refine Sr ?_
   obtain ⟨x42, b42, o42, hx42, he42, hc42⟩ := SlZ.atI hch9 i (by omega)
   refine Y (IxY rfl rfl (by omega) he42) ?_
   refine Y Ld ?_
   refine Y As ?_
   refine Nq ?_
   refine Sr ?_
   refine D (Mm (EB)) ?_
   rintro _ _ ⟨m44, rfl, rfl⟩
   refine Y As ?_
   refine Nq ?_
   refine Sq ?_
   refine Sr ?_
   refine Y Mv ?_
   refine D Ra ?_
   rintro _ _ ⟨c46, rfl, rfl⟩
   refine Nq ?_
   refine Bk ?_
   refine Lp (fun n_ l_ H_ => ∃ (vis : List (Int × Bool)) (m2 : List (Int × Bool)), n_ = mm.length - vis.length ∧ l_ = [(3, .int .i64 p), (12, ptr b 0), (14, .map (some mh)), (16, .int .i64 x42), (17, .map (some m44)), (38, cv), (39, .int .i64 (ch.length : Int)), (40, .int .i64 (i : Int)), (46, ptr c46 0)] ∧ H_ = .mi EB mh c46 mm vis :: .mp EB m44 m2 :: .zm Z29 :: F ∧ (vis.Nodup) ∧ (∀ q ∈ vis, q ∈ mm) ∧ (HereOk m2 (ckStep (countL l known) (vis.map (·.1)) x42))) ⟨[], [], rfl, rfl, rfl, (by simp), (by simp), HereOk.nil⟩ ⟨rfl, rfl, rfl, rfl, rfl, rfl, rfl, rfl, rfl, trivial⟩ ?_
   rintro _ _ _ ⟨vis, m2, rfl, rfl, rfl, hvn, hvs, hM⟩
   refine Sr ?_
   refine D Nx ?_
   rintro _ _ (⟨hp47, rfl, rfl⟩ | ⟨p47, u47, hm47, hn47, hu47, rfl, rfl⟩)
   ·
    refine Y Xc ?_
    refine Nq ?_
    refine Sq ?_
    refine CtF rfl ?_
    refine Ex ?_
    refine Xt ?_
    refine Xt ?_
    refine Xb ?_
    refine Pq ?_
    refine Rg ?_
    refine MiR ?_
    have hpe2 := hH.perm hnd hp47
    have hM2 : HereOk m2 (ckStep (countL l known) S x42) := hM.ext (fun q => ckStep_ext hpe2 x42 q)
    refine Y Mv ?_
    refine Y As ?_
    refine Nl ?_
    refine Pb ?_
    refine Pq ?_
    refine Rg ?_
    refine Y Ad ?_
    refine Y Mv ?_
    refine Nl ?_
    refine Re ⟨(i + 1), (ckStep (countL l known) S x42), m44, m2, rfl, rfl, rfl, (by omega), hM2, (ckL_succ hx42 hS)⟩ (by omega) ⟨rfl, rfl, rfl, rfl, rfl, rfl, trivial⟩
   ·
    refine Y Xc ?_
    refine Nq ?_
    refine Sq ?_
    refine CtT rfl ?_
    refine Sk ?_
    refine Pq ?_
    refine Bk ?_
    refine Sr ?_
    refine D EnO ?_
    rintro _ _ ⟨u49, rfl, rfl⟩
    refine Y Xc ?_
    refine Y As ?_
    refine Nq ?_
    refine Sr ?_
    refine Y Mv ?_
    refine Y Nc ?_
    refine Y Fa ?_
    refine Y Ld ?_
    refine Y Nc ?_
    refine Y Fa ?_
    refine Y Ld ?_
    refine Y Mv ?_
    obtain ⟨pv60, hp60, hl60⟩ := lookR hus p47.1
    refine Y (LkZ2 hl60) ?_
    refine Y Mv ?_
    refine Y Xc ?_
    refine Y Xc ?_
    refine Dal fun b19 => ?_
    refine Dsw ?_
    refine Y As ?_
    refine Nq ?_
    refine Sr ?_
    refine Y Mv ?_
    refine Y Mv ?_
    refine Ga 4 1 true 68 (fun h6 => by
     refine Yg h6 Fa ?_
     refine Yg h6 Ld ?_
     refine Yg h6 Mv ?_
     refine Yg h6 Eq_ ?_
     exact Gg) ?_
    refine Y PkA ?_
    refine Nq ?_
    refine Ct (fun h9 => ?_) fun h9 => ?_
    ·
     refine Sr ?_
     have hck := h9
     have hus1 : (aget (userM (countL l known)) p47.1).isSome = true := (Bool.and_eq_true_iff.1 hck).1
     refine Y LdN ?_
     refine D (Cf (hs := makes_sp (hs := user_small hsm hus1))) ?_
     rintro v71 _ ⟨_, rfl, rfl⟩
     refine Fz fun Z71 hz71 => ?_
     have hzl := hz71.len_le
     refine Y Ln ?_
     refine Y Mv ?_
     refine Nq ?_
     refine Bk ?_
     refine Lp (fun n_ l_ H_ => ∃ (j : Nat) (m3 : List (Int × Bool)), n_ = (makesL ((aget (userM (countL l known)) p47.1).getD Rep.zero)).length - j ∧ l_ = [(3, .int .i64 p), (12, ptr b 0), (14, .map (some mh)), (16, .int .i64 x42), (17, .map (some m44)), (38, cv), (39, .int .i64 (ch.length : Int)), (40, .int .i64 (i : Int)), (46, ptr c46 0), (71, v71), (72, .int .i64 ((makesL ((aget (userM (countL l known)) p47.1).getD Rep.zero)).length : Int)), (73, .int .i64 (j : Int))] ∧ H_ = .mi EB mh c46 mm (vis ++ [p47]) :: .mp EB m44 m3 :: .zm Z71 :: .zm Z29 :: F ∧ (j ≤ (makesL ((aget (userM (countL l known)) p47.1).getD Rep.zero)).length) ∧ (HereOk m3 (ckStep (countL l known) (vis.map (·.1)) x42 ++ (makesL ((aget (userM (countL l known)) p47.1).getD Rep.zero)).take j))) ⟨0, m2, rfl, rfl, rfl, (by omega), (by simpa using hM)⟩ ⟨rfl, rfl, rfl, rfl, rfl, rfl, rfl, rfl, rfl, rfl, rfl, rfl, trivial⟩ ?_
     rintro _ _ _ ⟨j, m3, rfl, rfl, rfl, hj, hM3⟩
     refine Sr ?_
     refine Y Lt ?_
     refine Nq ?_
     refine Sq ?_
     refine Cp (fun h11 => ?_) fun h11 => ?_
     ·
      refine Sk ?_
      refine Pq ?_
      refine Sq ?_
      refine Bk ?_
      refine Sr ?_
      obtain ⟨x75, b75, o75, hx75, he75, hc75⟩ := SlZ.atI hz71 j (by omega)
      refine Y (IxY rfl rfl (by omega) he75) ?_
      refine Y Ld ?_
      refine Y As ?_
      refine Nq ?_
      refine Rg ?_
      refine Y Mv ?_
      refine Y Mv ?_
      refine Dn (Mu true) ?_
      rintro _ _ rfl
      refine Nl ?_
      refine Pb ?_
      refine Pq ?_
      refine Rg ?_
      refine Y Ad ?_
      refine Y Mv ?_
      refine Nl ?_
      refine Re ⟨(j + 1), (aset m3 x75 true), rfl, rfl, rfl, (by omega), (by rw [take_get hx75, ← List.append_assoc]; exact hM3.put x75)⟩ (by omega) ⟨rfl, rfl, rfl, rfl, rfl, rfl, rfl, rfl, rfl, rfl, rfl, rfl, trivial⟩
     ·
      refine Ex ?_
      refine Xt ?_
      refine Xt ?_
      refine Xb ?_
      refine Pb ?_
      refine Re ⟨(vis ++ [p47]), m3, rfl, rfl, rfl, (vis_nd hvn hn47), (vis_sub hvs hm47), (by rw [List.map_append]; exact (ckStep_snoc _ _ p47.1 _) ▸ (by rw [ckP_yes hck, ← take_all (l := makesL ((aget (userM (countL l known)) p47.1).getD Rep.zero)) (by assumption)]; exact hM3))⟩ (by have h1 := vis_lt hvn hvs hm47 hn47; simp only [List.length_append, List.length_cons, List.length_nil]; omega) ⟨rfl, rfl, rfl, rfl, rfl, rfl, rfl, rfl, rfl, trivial⟩
    ·
     refine Sk ?_
     refine Pb ?_
     refine Re ⟨(vis ++ [p47]), m2, rfl, rfl, rfl, (vis_nd hvn hn47), (vis_sub hvs hm47), (by rw [List.map_append]; exact (ckStep_snoc _ _ p47.1 _) ▸ (by rw [ckP_no h9, List.append_nil]; exact hM))⟩ (by have h1 := vis_lt hvn hvs hm47 hn47; simp only [List.length_append, List.length_cons, List.length_nil]; omega) ⟨rfl, rfl, rfl, rfl, rfl, rfl, rfl, rfl, rfl, trivial⟩
  ·
   refine Ex ?_
   refine Xt ?_
   refine Xt ?_
   refine Xb ?_
   refine Pq ?_
   refine Sr ?_
   refine Y Mv ?_
   refine Y Mv ?_
   refine Y LkB ?_
   refine Y As ?_
   refine Y As ?_
   refine Nq ?_
   refine Rt ?_
   refine Rv2 [] ?_
   exact ⟨by rw [ckE_eq hE, hE, hH.vis, hS, take_all (by assumption)], rfl⟩

set_option maxRecDepth 100000 in
set_option maxHeartbeats 4000000 in
theorem has_sp {Z : Hp} {xs : List Int} {sv : Value} (hx : SlZ (EI .i64) Z sv xs := by assumption) {n : Int} : SpV Tryz.prog 48 [sv, .int .i64 n] [.zm Z] (.bool (decide (n ∈ xs))) := by
 refine Sp.of 18 Tryz.func48 rfl rfl rfl ?_
 intro F
 have hlen := hx.len_le
 refine Sr ?_
 refine Y As ?_
 refine Nq ?_
 refine Sq ?_
 refine Sr ?_
 refine Y As ?_
 refine Nq ?_
 refine Bk ?_
 refine Lp (fun n_ l_ H_ => ∃ (i : Nat), n_ = xs.length - i ∧ l_ = [(0, sv), (1, .int .i64 n), (5, .int .i64 (i : Int))] ∧ H_ = .zm Z :: F ∧ (i ≤ xs.length) ∧ (∀ y ∈ xs.take i, (fun a : Int => decide (a = n)) y = false)) ⟨0, rfl, rfl, rfl, (by omega), (by simp)⟩ ⟨rfl, rfl, rfl, trivial⟩ ?_
 rintro _ _ _ ⟨i, rfl, rfl, rfl, hi, hno⟩
 refine Sq ?_
 refine Sr ?_
 refine Y Mv ?_
 refine Y Mv ?_
 refine Y Ln ?_
 refine Y Lt ?_
 refine Nq ?_
 refine Cp (fun h2 => ?_) fun h2 => ?_
 ·
  refine Sk ?_
  refine Pq ?_
  refine Sq ?_
  refine Bk ?_
  refine Sr ?_
  refine Y Mv ?_
  refine Y Mv ?_
  obtain ⟨x14, b14, o14, hx14, he14, hc14⟩ := SlZ.atI hx i (by omega)
  refine Y (IxY rfl rfl (by omega) he14) ?_
  refine Y Ld ?_
  refine Y Mv ?_
  refine Y Eq_ ?_
  refine Nq ?_
  refine Cp (fun h4 => ?_) fun h4 => ?_
  ·
   refine Sr ?_
   refine Y As ?_
   refine Nq ?_
   refine Rt ?_
   refine Rb ?_
   refine Rh ?_
   refine Rh ?_
   refine Rb ?_
   refine Rh ?_
   refine Rv [] ?_
   exact ⟨congrArg Value.bool (decide_eq_true (h4 ▸ mem_get hx14)).symm, rfl⟩
  ·
   refine Sk ?_
   refine Pb ?_
   refine Pq ?_
   refine Rg ?_
   refine Y Mv ?_
   refine Y Ad ?_
   refine Y As ?_
   refine Nl ?_
   refine Re ⟨(i + 1), rfl, rfl, rfl, (by omega), (any_take_succ hx14 hno (decide_eq_false h4))⟩ (by omega) ⟨rfl, rfl, rfl, trivial⟩
 ·
  refine Ex ?_
  refine Xt ?_
  refine Xt ?_
  refine Xb ?_
  refine Pq ?_
  refine Sr ?_
  refine Y As ?_
  refine Nq ?_
  refine Rt ?_
  refine Rv [] ?_
  exact ⟨congrArg Value.bool (decide_eq_false (has_no (by assumption) hno)).symm, rfl⟩

end Go.Lag

/- What the law on ways asks of origins, remains and chains. -/
namespace Go.Lag
open Go Go.RowKit Go.Proofs
section
variable {Z : Hp} {l : List Rep} {lv : Value} {known f p : Int}
theorem origins_w (hl : SlZ (EZ Z) Z lv l) (hn : l.length ≤ 1000) (hp : lookE l known [p] = 0) : Sp Tryz.prog 20 [lv, .int .i64 known, .int .i64 p] [.zm Z] fun v H' => ∃ sv, v = .tuple #[sv, .int .i64 0] ∧ H' = [.rw (EI .i64) 3 sv (originsL (countL l known) p)] :=
  (origins_sp (hl := hl) (hn := hn)).mono fun v H' ⟨sv, h1, h2⟩ => ⟨sv, by rw [h1, hp], by rw [h2, if_pos hp]⟩
theorem remains_w (hl : SlZ (EZ Z) Z lv l) (hn : l.length ≤ 1000) (hp : lookE l known [p] = 0) : Sp Tryz.prog 22 [lv, .int .i64 known, .int .i64 p] [.zm Z] fun v H' => ∃ sv, v = .tuple #[sv, .int .i64 0] ∧ H' = [.rw (EI .i64) 3 sv (remainsL (countL l known) p)] :=
  (remains_sp (hl := hl) (hn := hn)).mono fun v H' ⟨sv, h1, h2⟩ => ⟨sv, by rw [h1, hp], by rw [h2, if_pos hp]⟩
end
end Go.Lag

namespace Go.Lag
open Go Go.RowKit Go.Proofs
set_option maxRecDepth 100000 in
set_option maxHeartbeats 4000000 in
theorem findWays_sp {Z : Hp} {l : List Rep} {lv : Value} (hl : SlZ (EZ Z) Z lv l) {known f p : Int} : SpV Tryz.prog 8 [lv, .int .i64 known, .int .i64 f, .int .i64 p] [.zm Z] (.bool true) := by
 refine Sp.of 136 Tryz.func8 rfl rfl rfl ?_
 intro F
 refine Sr ?_
 refine Y As ?_
 refine Nq ?_
 refine Sq ?_
 refine Sr ?_
 refine Y Mv ?_
 refine Cv (hs := few_sp) (h := ?_)
 refine Y Nt ?_
 refine Nq ?_
 refine Ct (fun h2 => ?_) fun h2 => ?_
 ·
  have h3 := nb_i h2
  refine Sr ?_
  refine Cv (hs := sane_sp) (h := ?_)
  refine Y As ?_
  refine Nq ?_
  refine Rt ?_
  refine Rh ?_
  refine Rv [] ?_
  exact ⟨rfl, rfl⟩
 ·
  have h4 := nb_g h2
  refine Sk ?_
  refine Pq ?_
  refine Sr ?_
  have hn : l.length ≤ 1000 := Nat.le_trans (few_len (by omega) h4) (by omega)
  refine Y Mv ?_
  refine Y Mv ?_
  refine Y Mv ?_
  refine D (Cf (hs := parcelOf_sp (hl := hl) (hn := hn) (p := f))) ?_
  rintro _ _ ⟨_, ⟨rfl, rfl⟩, rfl⟩
  refine Y Mv ?_
  refine Y Xc ?_
  refine Y Xc ?_
  refine Dal fun b9 => ?_
  refine Dsw ?_
  refine Y As ?_
  refine Nq ?_
  refine Sr ?_
  refine Y Mv ?_
  refine Y Mv ?_
  refine Y Mv ?_
  refine D (Cf (hs := parcelOf_sp (hl := hl) (hn := hn) (p := p))) ?_
  rintro _ _ ⟨_, ⟨rfl, rfl⟩, rfl⟩
  refine Y Mv ?_
  refine Y Xc ?_
  refine Y Xc ?_
  refine Dal fun b11 => ?_
  refine Dsw ?_
  refine Y As ?_
  refine Nq ?_
  refine Sq ?_
  refine Sr ?_
  refine Y Mv ?_
  refine Y Ne_ ?_
  refine Y Mv ?_
  refine Ga 2 2 false 43 (fun h6 => by
   refine Yg h6 Mv ?_
   refine Yg h6 Ne_ ?_
   exact Gg) ?_
  refine Y PkO ?_
  refine Nq ?_
  refine Ct (fun h9 => ?_) fun h9 => ?_
  ·
   refine Sr ?_
   refine Cv (hs := sane_sp) (h := ?_)
   refine Y As ?_
   refine Nq ?_
   refine Rt ?_
   refine Rh ?_
   refine Rv [] ?_
   exact ⟨rfl, rfl⟩
  ·
   refine Sk ?_
   refine Pq ?_
   refine Sr ?_
   have hfp := h9
   simp only [Bool.or_eq_false_iff, Bool.not_eq_false', decide_eq_true_eq] at hfp
   obtain ⟨hfk, hpk⟩ := hfp
   rw [if_pos hfk, if_pos hpk]
   refine Y Mv ?_
   refine Y Mv ?_
   refine Y Mv ?_
   refine D (Cf (hs := origins_w hl hn hpk)) ?_
   rintro _ _ ⟨_, ⟨sv50, rfl, rfl⟩, rfl⟩
   refine Fz fun Zo hzo => ?_
   refine Y Mv ?_
   refine Y Xc ?_
   refine Y Xc ?_
   refine Y As ?_
   refine Y As ?_
   refine Nq ?_
   refine Sr ?_
   refine Y Mv ?_
   refine Y Mv ?_
   refine Y Mv ?_
   refine D (Cf (hs := remains_w hl hn hfk)) ?_
   rintro _ _ ⟨_, ⟨sv57, rfl, rfl⟩, rfl⟩
   refine Fz fun Zr hzr => ?_
   refine Y Mv ?_
   refine Y Xc ?_
   refine Y Xc ?_
   refine Y As ?_
   refine Y As ?_
   refine Nq ?_
   refine Sr ?_
   refine Y Mv ?_
   refine Y Mv ?_
   refine Y Mv ?_
   refine Y Mv ?_
   refine D (Cf (hs := chain_sp (hl := hl) (hn := hn) (f := f) (p := p))) ?_
   rintro _ _ ⟨_, ⟨sv65, rfl, rfl⟩, rfl⟩
   refine FzI (Z := Z) fun Zc hzc hsc => ?_
   have hlc := hl.up hzc
   have hne := ways_ne hfk hpk
   have hlo : ¬ ((originsL (countL l known) p).length : Int) = 0 := fun e => hne.1 (List.length_eq_zero_iff.1 (by omega))
   have hlr : ¬ ((remainsL (countL l known) f).length : Int) = 0 := fun e => hne.2 (List.length_eq_zero_iff.1 (by omega))
   have he05 : (chainE l known f p).2 = 0 ∨ (chainE l known f p).2 = 5 := by rw [ways_e hfk hpk]; split <;> simp
   refine Y Mv ?_
   refine Y Xc ?_
   refine Y Xc ?_
   refine Y As ?_
   refine Y As ?_
   refine Nq ?_
   refine Sq ?_
   refine Sr ?_
   refine Y Mv ?_
   refine Y Ne_ ?_
   refine Y Mv ?_
   refine Ga 2 2 false 72 (fun h11 => by
    refine Yg h11 Mv ?_
    refine Yg h11 Ne_ ?_
    exact Gg) ?_
   refine Y PkO ?_
   refine Y Mv ?_
   refine Ga 3 6 false 77 (fun h14 => by
    refine Yg h14 Mv ?_
    refine Yg h14 Ln ?_
    refine Yg h14 Eq_ ?_
    exact Gg) ?_
   refine Y PkO ?_
   refine Y Mv ?_
   refine Ga 3 11 false 82 (fun h17 => by
    refine Yg h17 Mv ?_
    refine Yg h17 Ln ?_
    refine Yg h17 Eq_ ?_
    exact Gg) ?_
   refine Y PkO ?_
   refine Y Mv ?_
   refine GcB 83 (fun h20 => ?_) fun h20 => ?_
   ·
    refine Gf h20 ?_
    refine Gf h20 ?_
    refine Gf h20 ?_
    refine Gu ?_
    refine Gu ?_
    refine Gf h20 ?_
    refine Y (PkT (hb := h20)) ?_
    refine Nq ?_
    refine CtT rfl ?_
    first | (simp [hlo, hlr] at h20; done) | (rcases he05 with q_ | q_ <;> simp_all)
   ·
    refine Gt h20 ?_
    refine Y Mv ?_
    refine Gt h20 ?_
    refine Y Ne_ ?_
    refine Gt h20 ?_
    refine Y Mv ?_
    refine GcB 86 (fun h21 => ?_) fun h21 => ?_
    ·
     refine Gt h21 ?_
     refine Y Mv ?_
     refine Gt h21 ?_
     refine Y Ne_ ?_
     refine Gt h20 ?_
     refine Y (PkT (hb := h21)) ?_
     refine Y (PkF (hb := h20)) ?_
     refine Nq ?_
     refine Cn (fun h23 => ?_) fun h23 => ?_
     ·
      first | (simp [hlo, hlr] at h23; done) | (rcases he05 with q_ | q_ <;> simp_all)
     ·
      refine Sk ?_
      refine Pq ?_
      refine Sq ?_
      refine Sr ?_
      refine Y Mv ?_
      refine Y Eq_ ?_
      refine Nq ?_
      refine Cp (fun h25 => ?_) fun h25 => ?_
      ·
       refine Sr ?_
       refine Y Mv ?_
       refine Y Mv ?_
       refine Y Mv ?_
       refine Y Mv ?_
       refine Y Mv ?_
       refine D (Cf (hs := checkChain_sp (hl := hlc) (hn := hn) (hch := hsc) (f := f) (p := p))) ?_
       rintro _ _ ⟨_, ⟨rfl, rfl⟩, rfl⟩
       refine Y Mv ?_
       refine Y Xc ?_
       refine Y Xc ?_
       refine Y As ?_
       refine Y As ?_
       refine Nq ?_
       refine Sr ?_
       refine Y Mv ?_
       refine Y Nt ?_
       refine Y Mv ?_
       refine Ga 2 2 false 107 (fun h26 => by
        refine Yg h26 Mv ?_
        refine Yg h26 Ne_ ?_
        exact Gg) ?_
       refine Y PkO ?_
       refine Nq ?_
       refine Ct (fun h29 => ?_) fun h29 => ?_
       ·
        have q_ := ways_ck hfk hpk h25
        simp [q_, look_two hfk hpk] at h29
       ·
        refine Sk ?_
        refine Pq ?_
        refine Sq ?_
        refine Sr ?_
        refine Y Fa ?_
        refine Y Ld ?_
        refine Y Nt ?_
        refine Y Mv ?_
        refine GcB 112 (fun h31 => ?_) fun h31 => ?_
        ·
         refine Gf h31 ?_
         refine Gf h31 ?_
         refine Gf h31 ?_
         refine Y (PkT (hb := h31)) ?_
         refine Nq ?_
         refine CtT rfl ?_
         refine Sr ?_
         refine Cv (hs := sane_sp) (h := ?_)
         refine Y As ?_
         refine Nq ?_
         refine Rt ?_
         refine Rh ?_
         refine Rv [] ?_
         exact ⟨rfl, rfl⟩
        ·
         refine Gt h31 ?_
         refine Y Fa ?_
         refine Gt h31 ?_
         refine Y Ld ?_
         refine Gt h31 ?_
         refine Y Ne_ ?_
         refine Y (PkF (hb := h31)) ?_
         refine Nq ?_
         refine Cn (fun h33 => ?_) fun h33 => ?_
         ·
          refine Sr ?_
          refine Cv (hs := sane_sp) (h := ?_)
          refine Y As ?_
          refine Nq ?_
          refine Rt ?_
          refine Rh ?_
          refine Rv [] ?_
          exact ⟨rfl, rfl⟩
         ·
          refine Sk ?_
          refine Pq ?_
          refine Sr ?_
          have hxf : (parL (countL l known) f).found = true := by simpa using h31
          have hyi : (parL (countL l known) p).into = 0 := by simpa using h33
          have hw := ways_eq hfk hpk hxf hyi
          refine Cv (hs := sane_sp) (h := ?_)
          refine Y Mv ?_
          refine Gt rfl ?_
          refine Y Mv ?_
          refine Gt rfl ?_
          refine Y Mv ?_
          refine Gt rfl ?_
          refine Cv (hs := has_sp (hx := hzo)) (h := ?_)
          refine Gt rfl ?_
          refine Y Mv ?_
          refine Gt rfl ?_
          refine Y Mv ?_
          refine Gt rfl ?_
          refine Cv (hs := has_sp (hx := hzr)) (h := ?_)
          refine Gt rfl ?_
          refine Y (EqTr hw.1) ?_
          refine Y (PkT (hb := rfl)) ?_
          refine Y Mv ?_
          refine Gt rfl ?_
          refine Y Mv ?_
          refine Gt rfl ?_
          refine Y Mv ?_
          refine Gt rfl ?_
          refine Cv (hs := has_sp (hx := hzo)) (h := ?_)
          refine Gt rfl ?_
          refine Y Mv ?_
          refine Gt rfl ?_
          refine Y Eq_ ?_
          refine Gt rfl ?_
          refine Y (EqTr hw.2) ?_
          refine Y (PkT (hb := rfl)) ?_
          refine Y As ?_
          refine Nq ?_
          refine Rt ?_
          refine Rv [] ?_
          exact ⟨rfl, rfl⟩
      ·
       refine Sk ?_
       refine Pq ?_
       refine Sq ?_
       refine Sr ?_
       refine Y Fa ?_
       refine Y Ld ?_
       refine Y Nt ?_
       refine Y Mv ?_
       refine GcB 112 (fun h39 => ?_) fun h39 => ?_
       ·
        refine Gf h39 ?_
        refine Gf h39 ?_
        refine Gf h39 ?_
        refine Y (PkT (hb := h39)) ?_
        refine Nq ?_
        refine CtT rfl ?_
        refine Sr ?_
        refine Cv (hs := sane_sp) (h := ?_)
        refine Y As ?_
        refine Nq ?_
        refine Rt ?_
        refine Rh ?_
        refine Rv [] ?_
        exact ⟨rfl, rfl⟩
       ·
        refine Gt h39 ?_
        refine Y Fa ?_
        refine Gt h39 ?_
        refine Y Ld ?_
        refine Gt h39 ?_
        refine Y Ne_ ?_
        refine Y (PkF (hb := h39)) ?_
        refine Nq ?_
        refine Cn (fun h41 => ?_) fun h41 => ?_
        ·
         refine Sr ?_
         refine Cv (hs := sane_sp) (h := ?_)
         refine Y As ?_
         refine Nq ?_
         refine Rt ?_
         refine Rh ?_
         refine Rv [] ?_
         exact ⟨rfl, rfl⟩
        ·
         refine Sk ?_
         refine Pq ?_
         refine Sr ?_
         have hxf : (parL (countL l known) f).found = true := by simpa using h39
         have hyi : (parL (countL l known) p).into = 0 := by simpa using h41
         have hw := ways_eq hfk hpk hxf hyi
         refine Cv (hs := sane_sp) (h := ?_)
         refine Y Mv ?_
         refine Gt rfl ?_
         refine Y Mv ?_
         refine Gt rfl ?_
         refine Y Mv ?_
         refine Gt rfl ?_
         refine Cv (hs := has_sp (hx := hzo)) (h := ?_)
         refine Gt rfl ?_
         refine Y Mv ?_
         refine Gt rfl ?_
         refine Y Mv ?_
         refine Gt rfl ?_
         refine Cv (hs := has_sp (hx := hzr)) (h := ?_)
         refine Gt rfl ?_
         refine Y (EqTr hw.1) ?_
         refine Y (PkT (hb := rfl)) ?_
         refine Y Mv ?_
         refine Gt rfl ?_
         refine Y Mv ?_
         refine Gt rfl ?_
         refine Y Mv ?_
         refine Gt rfl ?_
         refine Cv (hs := has_sp (hx := hzo)) (h := ?_)
         refine Gt rfl ?_
         refine Y Mv ?_
         refine Gt rfl ?_
         refine Y Eq_ ?_
         refine Gt rfl ?_
         refine Y (EqTr hw.2) ?_
         refine Y (PkT (hb := rfl)) ?_
         refine Y As ?_
         refine Nq ?_
         refine Rt ?_
         refine Rv [] ?_
         exact ⟨rfl, rfl⟩
    ·
     refine Gf h21 ?_
     refine Gf h21 ?_
     refine Gt h20 ?_
     refine Y (PkF (hb := h21)) ?_
     refine Y (PkF (hb := h20)) ?_
     refine Nq ?_
     refine CtF rfl ?_
     refine Sk ?_
     refine Pq ?_
     refine Sq ?_
     refine Sr ?_
     refine Y Mv ?_
     refine Y Eq_ ?_
     refine Nq ?_
     refine Cp (fun h47 => ?_) fun h47 => ?_
     ·
      refine Sr ?_
      refine Y Mv ?_
      refine Y Mv ?_
      refine Y Mv ?_
      refine Y Mv ?_
      refine Y Mv ?_
      refine D (Cf (hs := checkChain_sp (hl := hlc) (hn := hn) (hch := hsc) (f := f) (p := p))) ?_
      rintro _ _ ⟨_, ⟨rfl, rfl⟩, rfl⟩
      refine Y Mv ?_
      refine Y Xc ?_
      refine Y Xc ?_
      refine Y As ?_
      refine Y As ?_
      refine Nq ?_
      refine Sr ?_
      refine Y Mv ?_
      refine Y Nt ?_
      refine Y Mv ?_
      refine Ga 2 2 false 107 (fun h48 => by
       refine Yg h48 Mv ?_
       refine Yg h48 Ne_ ?_
       exact Gg) ?_
      refine Y PkO ?_
      refine Nq ?_
      refine Ct (fun h51 => ?_) fun h51 => ?_
      ·
       have q_ := ways_ck hfk hpk h47
       simp [q_, look_two hfk hpk] at h51
      ·
       refine Sk ?_
       refine Pq ?_
       refine Sq ?_
       refine Sr ?_
       refine Y Fa ?_
       refine Y Ld ?_
       refine Y Nt ?_
       refine Y Mv ?_
       refine GcB 112 (fun h53 => ?_) fun h53 => ?_
       ·
        refine Gf h53 ?_
        refine Gf h53 ?_
        refine Gf h53 ?_
        refine Y (PkT (hb := h53)) ?_
        refine Nq ?_
        refine CtT rfl ?_
        refine Sr ?_
        refine Cv (hs := sane_sp) (h := ?_)
        refine Y As ?_
        refine Nq ?_
        refine Rt ?_
        refine Rh ?_
        refine Rv [] ?_
        exact ⟨rfl, rfl⟩
       ·
        refine Gt h53 ?_
        refine Y Fa ?_
        refine Gt h53 ?_
        refine Y Ld ?_
        refine Gt h53 ?_
        refine Y Ne_ ?_
        refine Y (PkF (hb := h53)) ?_
        refine Nq ?_
        refine Cn (fun h55 => ?_) fun h55 => ?_
        ·
         refine Sr ?_
         refine Cv (hs := sane_sp) (h := ?_)
         refine Y As ?_
         refine Nq ?_
         refine Rt ?_
         refine Rh ?_
         refine Rv [] ?_
         exact ⟨rfl, rfl⟩
        ·
         refine Sk ?_
         refine Pq ?_
         refine Sr ?_
         have hxf : (parL (countL l known) f).found = true := by simpa using h53
         have hyi : (parL (countL l known) p).into = 0 := by simpa using h55
         have hw := ways_eq hfk hpk hxf hyi
         refine Cv (hs := sane_sp) (h := ?_)
         refine Y Mv ?_
         refine Gt rfl ?_
         refine Y Mv ?_
         refine Gt rfl ?_
         refine Y Mv ?_
         refine Gt rfl ?_
         refine Cv (hs := has_sp (hx := hzo)) (h := ?_)
         refine Gt rfl ?_
         refine Y Mv ?_
         refine Gt rfl ?_
         refine Y Mv ?_
         refine Gt rfl ?_
         refine Cv (hs := has_sp (hx := hzr)) (h := ?_)
         refine Gt rfl ?_
         refine Y (EqTr hw.1) ?_
         refine Y (PkT (hb := rfl)) ?_
         refine Y Mv ?_
         refine Gt rfl ?_
         refine Y Mv ?_
         refine Gt rfl ?_
         refine Y Mv ?_
         refine Gt rfl ?_
         refine Cv (hs := has_sp (hx := hzo)) (h := ?_)
         refine Gt rfl ?_
         refine Y Mv ?_
         refine Gt rfl ?_
         refine Y Eq_ ?_
         refine Gt rfl ?_
         refine Y (EqTr hw.2) ?_
         refine Y (PkT (hb := rfl)) ?_
         refine Y As ?_
         refine Nq ?_
         refine Rt ?_
         refine Rv [] ?_
         exact ⟨rfl, rfl⟩
     ·
      refine Sk ?_
      refine Pq ?_
      refine Sq ?_
      refine Sr ?_
      refine Y Fa ?_
      refine Y Ld ?_
      refine Y Nt ?_
      refine Y Mv ?_
      refine GcB 112 (fun h61 => ?_) fun h61 => ?_
      ·
       refine Gf h61 ?_
       refine Gf h61 ?_
       refine Gf h61 ?_
       refine Y (PkT (hb := h61)) ?_
       refine Nq ?_
       refine CtT rfl ?_
       refine Sr ?_
       refine Cv (hs := sane_sp) (h := ?_)
       refine Y As ?_
       refine Nq ?_
       refine Rt ?_
       refine Rh ?_
       refine Rv [] ?_
       exact ⟨rfl, rfl⟩
      ·
       refine Gt h61 ?_
       refine Y Fa ?_
       refine Gt h61 ?_
       refine Y Ld ?_
       refine Gt h61 ?_
       refine Y Ne_ ?_
       refine Y (PkF (hb := h61)) ?_
       refine Nq ?_
       refine Cn (fun h63 => ?_) fun h63 => ?_
       ·
        refine Sr ?_
        refine Cv (hs := sane_sp) (h := ?_)
        refine Y As ?_
        refine Nq ?_
        refine Rt ?_
        refine Rh ?_
        refine Rv [] ?_
        exact ⟨rfl, rfl⟩
       ·
        refine Sk ?_
        refine Pq ?_
        refine Sr ?_
        have hxf : (parL (countL l known) f).found = true := by simpa using h61
        have hyi : (parL (countL l known) p).into = 0 := by simpa using h63
        have hw := ways_eq hfk hpk hxf hyi
        refine Cv (hs := sane_sp) (h := ?_)
        refine Y Mv ?_
        refine Gt rfl ?_
        refine Y Mv ?_
        refine Gt rfl ?_
        refine Y Mv ?_
        refine Gt rfl ?_
        refine Cv (hs := has_sp (hx := hzo)) (h := ?_)
        refine Gt rfl ?_
        refine Y Mv ?_
        refine Gt rfl ?_
        refine Y Mv ?_
        refine Gt rfl ?_
        refine Cv (hs := has_sp (hx := hzr)) (h := ?_)
        refine Gt rfl ?_
        refine Y (EqTr hw.1) ?_
        refine Y (PkT (hb := rfl)) ?_
        refine Y Mv ?_
        refine Gt rfl ?_
        refine Y Mv ?_
        refine Gt rfl ?_
        refine Y Mv ?_
        refine Gt rfl ?_
        refine Cv (hs := has_sp (hx := hzo)) (h := ?_)
        refine Gt rfl ?_
        refine Y Mv ?_
        refine Gt rfl ?_
        refine Y Eq_ ?_
        refine Gt rfl ?_
        refine Y (EqTr hw.2) ?_
        refine Y (PkT (hb := rfl)) ?_
        refine Y As ?_
        refine Nq ?_
        refine Rt ?_
        refine Rv [] ?_
        exact ⟨rfl, rfl⟩

end Go.Lag
