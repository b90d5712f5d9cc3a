/- Texts that the walks of package find lean on: part 7. -/
import Derived.Lib.SmallJoins
import Derived.Test.YtbbienodbjfgoaaGreatB6
set_option linter.unusedVariables false
set_option linter.unusedSimpArgs false

/- Conflicts as1 they are checked; elements of arrays. -/
namespace Go.Lag
open Go Go.RowKit Go.Proofs
class TArr (P : Program) (t : TypeId) (n : outParam Nat) (e : outParam TypeId) : Prop where h : P.underlying t = some (.array n e)
instance : TArr Tryz.prog 230 2 3 := ⟨Tryz.underlying230⟩
section
variable {P : Program} {l : Env} {H : List Assn} {ty t e : TypeId} {x y : Operand} {k : IntKind} {j : Int} {n b o sz : Nat}
/-- The address of an array's element. -/
theorem IxA {q : Nat} [hT : TArr P t n e] [hs : TSize P e sz] (hx : ev l x = some (ptr b o) := by rfl) (hy : ev l y = some (.int k j) := by rfl) (h0 : 0 ≤ j ∧ j < (n : Int) := by decide) (hq : o + j.toNat * sz = q := by rfl) :
    YldH P (.indexAddr t x y) ty l H (ptr b q) := fun w _ => fun ρ hρ => by
  have ha : Addr.add ⟨b, o, none⟩ (j.toNat * sz) = ⟨b, q, none⟩ := by
    unfold Addr.add; split
    · rename_i hz; rw [hz, Nat.add_zero] at hq; rw [hq]
    · rw [hq]
  simp [execOp, bare, hρ _ _ hx, hρ _ _ hy, Instr.indexAt, asIntOf, run_underlying hT.h, h0.1, h0.2, run_sizeOf hs.h, ptr, Instr.sureAddr, ha]
end
section
variable {r : Option Nat} {P : Program} {m : Nat} {ds : List Deferred} {Q : Exit → Act → World → Prop} {l : Env} {H H0 : List Assn} {K : Value → List Assn → Prop}
theorem opA_goN {os : List Oper} {T : Nat → Bool} {S : World → Prop} {fuel : Nat} {listed : Array Bool} {i : Nat} {op : Op} {ty : TypeId} {pos : String} {af : Array Edge} {w : World}
    (hi : os[i]? = some ⟨none, op, ty, pos, af, none⟩)
    (h : Does r P op ty l w fun _ w' => (T i = false → S w') ∧ Any r P m ds os.toArray Q T S fuel (listed.setIfInBounds i true) l w') :
    AnyOp r P m ds os.toArray Q T S fuel listed i l w := fun a ha => by
  have hi' : os.toArray[i]? = some ⟨none, op, ty, pos, af, none⟩ := by simpa using hi
  unfold opA
  simp only [hi', wanted_none, if_true]
  exact Does.okA (o := ⟨none, op, ty, pos, af, none⟩) ha (h.mono fun v w' hv => ⟨hv.1, hv.2 _ ha⟩)
/-- In a region that draws its order: an operation without a result comes first. -/
theorem Ogn {os : List Oper} {T : Nat → Bool} {fuel : Nat} {listed : Array Bool} {i : Nat} {op : Op} {ty : TypeId} {pos : String} {af : Array Edge} (hi : os[i]? = some ⟨none, op, ty, pos, af, none⟩) (hy : DoesH r P op ty l H K) (h : ∀ v H', K v H' → (T i = false → SubH H0 H') ∧ AnyH r P m ds os.toArray Q T H0 fuel (listed.setIfInBounds i true) l H') :
    OpH r P m ds os.toArray Q T H0 fuel listed i l H := fun w hw =>
  opA_goN hi ((hy w hw).mono fun v w' ⟨H', hk, hh⟩ => ⟨fun hT => ((h v H' hk).1 hT).holds hh, (h v H' hk).2 w' hh⟩)
end
def cL (s : Int) (side : List Int) (A : List Arc) : Int := A.foldl (fun n a => if acrossN a side = s then n + a.low else n) 0
def cH (s : Int) (side : List Int) (A : List Arc) : Int := A.foldl (fun n a => if acrossN a side = s then n + a.high else n) 0
theorem cL_snoc {s : Int} {side : List Int} {A : List Arc} {a : Arc} : cL s side (A ++ [a]) = if acrossN a side = s then cL s side A + a.low else cL s side A := by simp [cL]
theorem cH_snoc {s : Int} {side : List Int} {A : List Arc} {a : Arc} : cH s side (A ++ [a]) = if acrossN a side = s then cH s side A + a.high else cH s side A := by simp [cH]
theorem c_bnd {s : Int} {side : List Int} {A : List Arc} (h : ABnd A) : (0 ≤ cL s side A ∧ cL s side A ≤ 100000000 * (A.length : Int)) ∧ 0 ≤ cH s side A ∧ cH s side A ≤ 100000000 * (A.length : Int) := by
  have key : ∀ (n : Nat) (A : List Arc), A.length = n → ABnd A → (0 ≤ cL s side A ∧ cL s side A ≤ 100000000 * (A.length : Int)) ∧ 0 ≤ cH s side A ∧ cH s side A ≤ 100000000 * (A.length : Int) := by
    intro n
    induction n with
    | zero => intro A hl _; have : A = [] := List.eq_nil_of_length_eq_zero hl; subst this; simp [cL, cH]
    | succ n ih =>
      intro A hl hA
      have hne : A ≠ [] := fun e => by subst e; cases hl
      obtain ⟨B, a, rfl⟩ : ∃ B a, A = B ++ [a] := ⟨A.dropLast, A.getLast hne, (List.dropLast_concat_getLast hne).symm⟩
      have h1 := ih B (by simpa using hl) fun z hz => hA z (List.mem_append_left _ hz)
      have h2 := hA a (by simp)
      rw [cL_snoc, cH_snoc]
      simp only [List.length_append, List.length_cons, List.length_nil]
      split <;> omega
  exact key A.length A rfl h
/-- What CheckConflict answers. -/
def ccB (C : List Rep) (cp : Int) (side : List Int) : Bool :=
  if ¬ cp = 0 then ((aget (parsL C) cp).isSome && decide (side.length = 0)) && decide ((parL C cp).high < (parL C cp).low)
  else if isSideL C side = false then false
  else decide (cH (-1) side (arcsL C) < cL 1 side (arcsL C)) || decide (cH 1 side (arcsL C) < cL (-1) side (arcsL C))
def ccE (l : List Rep) (known cp : Int) (side : List Int) : Bool := if lookE l known [] = 0 then ccB (countL l known) cp side else false
/-- If a conflict is accepted, no weights are. -/
theorem cross_cw {side : List Int} : ∀ {A : List Arc} {x : List Int}, x.length = A.length → (∀ (j : Nat) (a : Arc) (f : Int), A[j]? = some a → x[j]? = some f → a.low ≤ f ∧ f ≤ a.high) →
    cL 1 side A - cH (-1) side A ≤ crossS (fun v => hasB side v) A x ∧ crossS (fun v => hasB side v) A x ≤ cH 1 side A - cL (-1) side A := by
  intro A x
  have key : ∀ (n : Nat) (A : List Arc) (x : List Int), A.length = n → x.length = A.length → (∀ (j : Nat) (a : Arc) (f : Int), A[j]? = some a → x[j]? = some f → a.low ≤ f ∧ f ≤ a.high) →
      (cL 1 side A - cH (-1) side A ≤ crossS (fun v => hasB side v) A x ∧ crossS (fun v => hasB side v) A x ≤ cH 1 side A - cL (-1) side A) := by
    intro n
    induction n with
    | zero => intro A x hl hx _; have : A = [] := List.eq_nil_of_length_eq_zero hl; subst this; simp [cL, cH, crossS]
    | succ n ih =>
      intro A x hl hx hf
      have hne : A ≠ [] := fun e => by subst e; cases hl
      have hnx : x ≠ [] := fun e => by subst e; rw [hl] at hx; cases hx
      obtain ⟨B, a, rfl⟩ : ∃ B a, A = B ++ [a] := ⟨A.dropLast, A.getLast hne, (List.dropLast_concat_getLast hne).symm⟩
      obtain ⟨z, f, rfl⟩ : ∃ z f, x = z ++ [f] := ⟨x.dropLast, x.getLast hnx, (List.dropLast_concat_getLast hnx).symm⟩
      have hlz : z.length = B.length := by simpa using hx
      have h1 := ih B z (by simpa using hl) hlz fun j b g hb hg => hf j b g (by rw [List.getElem?_append_left (List.getElem?_eq_some_iff.1 hb).1]; exact hb) (by rw [List.getElem?_append_left (List.getElem?_eq_some_iff.1 hg).1]; exact hg)
      have h2 := hf B.length a f (by simp) (by rw [← hlz]; simp)
      have hsn : crossS (fun v => hasB side v) (B ++ [a]) (z ++ [f]) = crossS (fun v => hasB side v) B z + (ind (hasB side a.to) f - ind (hasB side a.from_) f) := by
        have : ∀ (B : List Arc) (z : List Int), z.length = B.length → crossS (fun v => hasB side v) (B ++ [a]) (z ++ [f]) = crossS (fun v => hasB side v) B z + (ind (hasB side a.to) f - ind (hasB side a.from_) f) := by
          intro B
          induction B with
          | nil => intro z hz; have : z = [] := List.eq_nil_of_length_eq_zero hz; subst this; simp [crossS]
          | cons b B ih => 
            intro z hz
            cases z with
            | nil => cases hz
            | cons g z =>
              have := ih z (by simpa using hz)
              simp only [List.cons_append, crossS, this]; omega
        exact this B z hlz
      rw [hsn, cL_snoc, cH_snoc, cL_snoc, cH_snoc]
      simp only [acrossN, ind]
      by_cases ht : hasB side a.to = true <;> by_cases hr : hasB side a.from_ = true <;> simp [ht, hr] <;> omega
  exact key A.length A x rfl
theorem cc_no {C : List Rep} (hI : Inv C) {cp : Int} {side x : List Int} (hc : ccB C cp side = true) : ¬ CwOk (arcsL C) x := fun h => by
  unfold ccB at hc
  by_cases h0 : cp = 0
  · simp only [h0, not_true, if_false] at hc
    split at hc
    · cases hc
    · have hb : Bal (arcsL C) x := ⟨h.len, fun v => by
        by_cases hv : v = 0
        · subst hv; exact net_zero (nodes_nodup hI) (arc_nodes hI) h.net
        · exact h.net v hv⟩
      have h1 := cross_cw (side := side) h.len h.fit
      rw [hb.cross (nodes_nodup hI) (arc_nodes hI)] at h1
      simp only [Bool.or_eq_true, decide_eq_true_eq] at hc
      omega
  · simp only [h0, not_false_eq_true, if_true, Bool.and_eq_true, decide_eq_true_eq] at hc
    obtain ⟨⟨hs, _⟩, hlt⟩ := hc
    have hp : cp ∈ idsL C := by
      rw [parsL_get] at hs; split at hs
      · assumption
      · cases hs
    have ha : arcL C cp ∈ arcsL C := List.mem_map.2 ⟨cp, hp, rfl⟩
    obtain ⟨j, hj, e⟩ := List.getElem_of_mem ha
    have hl := h.len
    have := h.fit j (arcsL C)[j] x[j] (by simp) (by simp)
    rw [e] at this
    simp only [arcL] at this
    omega
end Go.Lag

/- Either there are balanced weights, or a conflict is found and accepted. -/
namespace Go.Lag
open Go Go.RowKit Go.Proofs
theorem crossS_snoc (S : Int → Bool) (a : Arc) (f : Int) : ∀ (B : List Arc) (z : List Int), z.length = B.length → crossS S (B ++ [a]) (z ++ [f]) = crossS S B z + (ind (S a.to) f - ind (S a.from_) f)
  | [], z, hz => by have : z = [] := List.eq_nil_of_length_eq_zero hz; subst this; simp [crossS]
  | b :: B, [], hz => by cases hz
  | b :: B, g :: z, hz => by
    have := crossS_snoc S a f B z (by simpa using hz)
    simp only [List.cons_append, crossS, this]; omega
theorem cross_tight {side : List Int} {S : Int → Bool} {s0 : Bool} : ∀ (n : Nat) (A : List Arc) (x : List Int), A.length = n → x.length = A.length →
    (∀ (j : Nat) (a : Arc) (f : Int), A[j]? = some a → x[j]? = some f → ((S a.from_ = true → S a.to = false → f = a.high) ∧ (S a.to = true → S a.from_ = false → f = a.low))) →
    (∀ a ∈ A, hasB side a.to = !(S a.to == s0) ∧ hasB side a.from_ = !(S a.from_ == s0)) →
    crossS S A x = if s0 = true then cL (-1) side A - cH 1 side A else cL 1 side A - cH (-1) side A := by
  intro n
  induction n with
  | zero => intro A x hl hx _ _; have : A = [] := List.eq_nil_of_length_eq_zero hl; subst this; simp [cL, cH, crossS]
  | succ n ih =>
    intro A x hl hx hf hE
    have hne : A ≠ [] := fun e => by subst e; cases hl
    have hnx : x ≠ [] := fun e => by subst e; rw [hl] at hx; cases hx
    obtain ⟨B, a, rfl⟩ : ∃ B a, A = B ++ [a] := ⟨A.dropLast, A.getLast hne, (List.dropLast_concat_getLast hne).symm⟩
    obtain ⟨z, f, rfl⟩ : ∃ z f, x = z ++ [f] := ⟨x.dropLast, x.getLast hnx, (List.dropLast_concat_getLast hnx).symm⟩
    have hlz : z.length = B.length := by simpa using hx
    have h1 := ih B z (by simpa using hl) hlz (fun j b g hb hg => hf j b g (by rw [List.getElem?_append_left (List.getElem?_eq_some_iff.1 hb).1]; exact hb) (by rw [List.getElem?_append_left (List.getElem?_eq_some_iff.1 hg).1]; exact hg)) fun b hb => hE b (List.mem_append_left _ hb)
    obtain ⟨h2, h3⟩ := hf B.length a f (by simp) (by rw [← hlz]; simp)
    obtain ⟨e1, e2⟩ := hE a (by simp)
    rw [crossS_snoc S a f B z hlz, cL_snoc, cH_snoc, cL_snoc, cH_snoc, h1]
    simp only [acrossN, ind, e1, e2]
    clear ih hf hE hl hx h1 hne hnx
    rcases Bool.eq_false_or_eq_true (S a.to) with ht | ht <;> rcases Bool.eq_false_or_eq_true (S a.from_) with hr | hr <;> cases s0 <;> simp [ht, hr] at h2 h3 ⊢ <;> omega
theorem sumN_nn {S : Int → Bool} {g : Int → Int} : ∀ {vs : List Int}, (∀ w ∈ vs, S w = true → 0 ≤ g w) → 0 ≤ sumN S g vs
  | [], _ => Int.le_refl _
  | w :: vs, h => by
    have h1 := sumN_nn (vs := vs) fun z hz => h z (List.mem_cons_of_mem _ hz)
    have h2 := h w (List.mem_cons_self ..)
    simp only [sumN, ind]; split
    · rename_i e; have := h2 e; omega
    · omega
theorem sumN_pos {S : Int → Bool} {g : Int → Int} {v : Int} : ∀ {vs : List Int}, (∀ w ∈ vs, S w = true → 0 ≤ g w) → v ∈ vs → S v = true → 0 < g v → 0 < sumN S g vs
  | w :: vs, h, hv, hs, hg => by
    have h1 := sumN_nn (vs := vs) fun z hz => h z (List.mem_cons_of_mem _ hz)
    rcases List.mem_cons.1 hv with rfl | hv
    · simp only [sumN, ind, hs, if_true]; omega
    · have h2 := sumN_pos (fun z hz => h z (List.mem_cons_of_mem _ hz)) hv hs hg
      have h3 := h w (List.mem_cons_self ..)
      simp only [sumN, ind]; split
      · rename_i e; have := h3 e; omega
      · omega
section
variable {C : List Rep}
theorem side_has (hI : Inv C) {mm : List (Int × Bool)} {u : Int} (hu : u = 0 ∨ ∃ x ∈ C, moveB x = true ∧ u = x.id) : hasB (sideL C mm) u = !(visB mm u == visB mm 0) := by
  rw [hasB_eq]
  rcases hu with rfl | ⟨x, hx, hm, rfl⟩
  · have : ¬ (0 : Int) ∈ sideL C mm := fun h => by
      obtain ⟨y, hy, e⟩ := List.mem_map.1 (sortL_mem.1 h)
      have := rep_id (hI.rep y (List.mem_filter.1 hy).1); omega
    simp [this]
  · have : x.id ∈ sideL C mm ↔ acrossB mm x = true := by
      rw [sideL, sortL_mem, List.mem_map]
      constructor
      · rintro ⟨y, hy, e⟩
        obtain ⟨h1, h2⟩ := List.mem_filter.1 hy
        have := hI.id_eq h1 hx e; subst this; exact h2
      · intro h; exact ⟨x, List.mem_filter.2 ⟨hx, h⟩, rfl⟩
    have e : decide (x.id ∈ sideL C mm) = acrossB mm x := by rw [Bool.eq_iff_iff]; simp [this]
    rw [e]; simp [acrossB, hm, visB]
theorem side_ok (hI : Inv C) (mm : List (Int × Bool)) : isSideL C (sideL C mm) = true := by
  have hp : (sideL C mm).Perm ((C.filter (acrossB mm)).map (·.id)) := List.mergeSort_perm _ _
  have hnd : (sideL C mm).Nodup := by
    refine hp.nodup_iff.2 ?_
    have h1 : (C.filter (acrossB mm)).Pairwise fun x y => ¬ x.id = y.id := hI.ids.sublist List.filter_sublist
    exact List.pairwise_map.2 h1
  have hs : (sideL C mm).Pairwise (fun x y => x ≤ y) := sortL_sorted _
  unfold isSideL; rw [List.all_eq_true]
  intro i hi
  simp only [List.mem_range] at hi
  have e : (sideL C mm)[i]?.getD 0 = (sideL C mm)[i] := by simp [hi]
  obtain ⟨y, hy, ey⟩ := List.mem_map.1 (hp.mem_iff.1 (List.getElem_mem hi))
  obtain ⟨h1, h2⟩ := List.mem_filter.1 hy
  have hm : moveB y = true := by simp only [acrossB, Bool.and_eq_true] at h2; exact h2.1
  simp only [okAt, Bool.and_eq_true, Bool.or_eq_true, decide_eq_true_eq, e]
  refine ⟨List.any_eq_true.2 ⟨y, h1, by simp [ey, hm]⟩, ?_⟩
  by_cases h0 : i = 0
  · exact .inl h0
  · have e' : (sideL C mm)[i - 1]?.getD 0 = (sideL C mm)[i - 1]'(by omega) := by simp [show i - 1 < (sideL C mm).length by omega]
    have q1 := List.pairwise_iff_getElem.1 hs (i - 1) i (by omega) hi (by omega)
    have q2 := List.pairwise_iff_getElem.1 hnd (i - 1) i (by omega) hi (by omega)
    rw [e']
    exact .inr (by omega)
theorem ends_move (hI : Inv C) : ∀ a ∈ arcsL C, (a.to = 0 ∨ ∃ x ∈ C, moveB x = true ∧ a.to = x.id) ∧ (a.from_ = 0 ∨ ∃ x ∈ C, moveB x = true ∧ a.from_ = x.id) := by
  intro a ha
  obtain ⟨p, hp, rfl⟩ := List.mem_map.1 ha
  obtain ⟨h1, h2⟩ := arc_ends hI hp
  refine ⟨?_, ?_⟩
  · rcases h2 with ⟨h, _⟩ | ⟨x, hx, _, hm, e⟩
    · exact .inl h
    · exact .inr ⟨x, hx, hm, e⟩
  · rcases h1 with ⟨h, _⟩ | ⟨_, x, hx, _, hm, e⟩
    · exact .inl h
    · exact .inr ⟨x, hx, hm, e⟩
/-- The side of a search that was closed is a conflict. -/
theorem conf_side (hI : Inv C) (hA : ABnd (arcsL C)) (hC : C.length ≤ 1000) (hno : (arcsL C).find? (fun a => decide (a.high < a.low)) = none) {seen : List (Int × Bool)} (h : balAll (arcsL C) (nodesL C) ((arcsL C).map (·.low), mu0 (arcsL C)) = .inr seen) : ccB C 0 (sideL C seen) = true := by
  have hno' : ∀ a ∈ arcsL C, ¬ a.high < a.low := fun a ha => by simpa using List.find?_eq_none.1 hno a ha
  obtain ⟨v, hv, st, hb, hN, hpos, hpn, rfl⟩ := balAll_inr _ _ (low_start hA (arcs_len hI hC) hno') (NOk.start _) h
  obtain ⟨hvv, hcl⟩ := path_none hpn
  generalize hS : (pathTo (arcsL C) st.1 (-1) v (lacks st.2)).2.seen = seen at *
  have h0 : 0 < crossS (fun w => visB seen w) (arcsL C) st.1 := by
    rw [cross_sum (nodes_nodup hI) _ _ (arc_nodes hI)]
    refine sumN_pos (fun w _ hw => ?_) hv hvv ?_
    · have h1 := (hcl w hw).1
      simp only [lacks, decide_eq_false_iff_not] at h1
      have := hN.2 w
      omega
    · rw [← hN.2 v]; exact hpos
  have hT := cross_tight (side := sideL C seen) (S := fun w => visB seen w) (s0 := visB seen 0) (arcsL C).length (arcsL C) st.1 rfl hN.1 (fun j a f ha hf => by
    have hj := (List.getElem?_eq_some_iff.1 ha).1
    have hbd := hb.fl.2 j hj
    have ea : aAt (arcsL C) (j : Int) = a := by simp [aAt, ha]
    have ef : fAt st.1 (j : Int) = f := by simp [fAt, hf]
    rw [ea, ef] at hbd
    constructor
    · intro h1 h2
      have := ((hcl _ h1).2 j hj (by omega)).1
      rw [ea, ef] at this
      by_cases hlt : f < a.high
      · have := this rfl hlt; simp only [h2] at this; cases this
      · omega
    · intro h1 h2
      have := ((hcl _ h1).2 j hj (by omega)).2
      rw [ea, ef] at this
      by_cases hlt : a.low < f
      · have := this rfl hlt; simp only [h2] at this; cases this
      · omega) fun a ha => ⟨side_has hI (ends_move hI a ha).1, side_has hI (ends_move hI a ha).2⟩
  rw [hT] at h0
  unfold ccB
  simp only [not_true, if_false, side_ok hI, Bool.true_eq_false, Bool.or_eq_true, decide_eq_true_eq]
  split at h0
  · exact .inr (by omega)
  · exact .inl (by omega)
theorem conf_arc (hI : Inv C) {a : Arc} (h : (arcsL C).find? (fun a => decide (a.high < a.low)) = some a) : ccB C a.parcel [] = true := by
  have h1 := List.find?_some h
  have h2 := List.mem_of_find?_eq_some h
  obtain ⟨p, hp, rfl⟩ := List.mem_map.1 h2
  have h3 : (parL C p).high < (parL C p).low := of_decide_eq_true h1
  obtain ⟨x, hx⟩ := Option.isSome_iff_exists.1 (ids_mem hp)
  obtain ⟨m1, m2⟩ := maker_mem hx
  have h4 := rep_id (hI.rep x m1)
  have h5 := makes_iff.1 m2
  have h6 : ¬ p = 0 := by omega
  show ccB C p [] = true
  simp [ccB, h6, parsL_get, hp, h3]
theorem bal_cc (hI : Inv C) (hA : ABnd (arcsL C)) (hC : C.length ≤ 1000) (h : balOf C = none) : ∃ cp side, ccB C cp side = true := by
  cases hf : (arcsL C).find? (fun a => decide (a.high < a.low)) with
  | some a => exact ⟨_, _, conf_arc hI hf⟩
  | none =>
    cases hb : balAll (arcsL C) (nodesL C) ((arcsL C).map (·.low), mu0 (arcsL C)) with
    | inr seen => exact ⟨_, _, conf_side hI hA hC hf hb⟩
    | inl st => rw [balOf_some hf hb] at h; cases h
theorem cw_bal (hI : Inv C) (hA : ABnd (arcsL C)) (hC : C.length ≤ 1000) {x : List Int} (h : CwOk (arcsL C) x) : ∃ st, balOf C = some st := by
  cases hb : balOf C with
  | some st => exact ⟨st, rfl⟩
  | none =>
    obtain ⟨cp, side, hc⟩ := bal_cc hI hA hC hb
    exact absurd h (cc_no hI hc)
theorem bal_no (hI : Inv C) (hA : ABnd (arcsL C)) (hC : C.length ≤ 1000) {st : BSta} (h : balOf C = some st) {cp : Int} {side : List Int} : ccB C cp side = false := by
  cases hc : ccB C cp side with
  | false => rfl
  | true =>
    obtain ⟨h1, h2⟩ := balOf_ok hI hA hC h
    exact absurd (cw_of h1 h2) (cc_no hI hc)
end
end Go.Lag

/- The end of a parcel where the reports do not contradict each other. -/
namespace Go.Lag
open Go Go.RowKit Go.Proofs
theorem bound_w {Z : Hp} {l : List Rep} {lv : Value} (hl : SlZ (EZ Z) Z lv l) {known : Int} (hn : l.length ≤ 1000) {p : Int} {up : Bool} (hp : lookE l known [p] = 0) {st : BSta} (hb : balOf (countL l known) = some st) :
    Sp Tryz.prog 34 [lv, .int .i64 known, .int .i64 p, .bool up] [.zm Z] fun v H' => ∃ e fv sv, v = .tuple #[.int .i64 e, fv, sv, .int .i64 0] ∧ H' = [.rw (EI .i64) 3 fv (boundN (countL l known) p up st.1).1, .rw (EI .i64) 3 sv (seenSide (countL l known) (boundN (countL l known) p up st.1).2)] :=
  (Bound_sp (hl := hl) (hn := hn) (p := p) (up := up)).mono fun v H' h => by
    rcases h with ⟨h, _⟩ | ⟨_, h, _⟩ | ⟨_, st', fv, sv, h, _, rfl, rfl⟩
    · exact absurd hp h
    · rw [hb] at h; cases h
    · rw [hb] at h; injection h with h; subst h; exact ⟨_, fv, sv, rfl, rfl⟩
theorem par0 {l : List Rep} {known : Int} {i : Nat} {x : Par} (he : lookE l known [] = 0) (hx : ((idsL (countL l known)).map (parL (countL l known)))[i]? = some x) : x.id ∈ idsL (countL l known) ∧ lookE l known [x.id] = 0 := by
  rw [List.getElem?_map] at hx
  obtain ⟨p, hp, rfl⟩ := Option.map_eq_some_iff.1 hx
  have hpi := List.mem_of_getElem? hp
  rw [par_id hpi]
  refine ⟨hpi, ?_⟩
  have hc := (look_mem he).1
  unfold lookE
  simp [hc, parsL_get, hpi]
end Go.Lag

namespace Go.Lag
open Go Go.RowKit Go.Proofs
set_option maxRecDepth 100000 in
set_option maxHeartbeats 4000000 in
theorem checkConflict_sp {Z : Hp} {l : List Rep} {lv : Value} (hl : SlZ (EZ Z) Z lv l := by assumption) {known : Int} (hn : l.length ≤ 1000 := by assumption) (hg : (checkE l).2 = 0 → GoodL (countL l known) := by first | assumption | exact good_of) (hab : (checkE l).2 = 0 → ABnd (arcsL (countL l known)) := by first | assumption | exact ab_of) {cp : Int} {side : List Int} {sv : Value} (hsd : SlZ (EI .i64) Z sv side := by assumption) : Sp Tryz.prog 61 [lv, .int .i64 known, .agg #[.int .i64 cp, sv]] [.zm Z] fun v H' => v = .tuple #[.bool (ccE l known cp side), .int .i64 (lookE l known [])] ∧ H' = [] := by
 refine Sp.ofM 105 Tryz.func61 rfl rfl rfl ?_
 intro F
 have hsl := hsd.len_le
 refine Sr ?_
 refine Dbx (fun b5 => ?_)
 refine Y As ?_
 refine Y As ?_
 refine Nq ?_
 refine Sr ?_
 refine Y Mv ?_
 refine Y Mv ?_
 have hpn : SlZ (EI .i64) Z (.slice none 0 0) [] := SlZ.nil _ _
 refine D (Cf (hs := looks_sp (hl := hl) (hps := hpn))) ?_
 rintro _ _ ⟨_, ⟨Z18, bv18, hZ18, rfl, rfl, hb18, hc18⟩, rfl⟩
 refine Y Mv ?_
 refine Y Xc ?_
 refine Y Xc ?_
 refine Y As ?_
 refine Y As ?_
 refine Nq ?_
 refine Sq ?_
 refine Sr ?_
 refine Y Mv ?_
 refine Y Ne_ ?_
 refine Nq ?_
 refine Cn (fun h2 => ?_) fun h2 => ?_
 ·
  refine Sr ?_
  refine Y Mv ?_
  refine Y As ?_
  refine Y As ?_
  refine Nq ?_
  refine Rt ?_
  refine Rh ?_
  refine RvM0 (xs := [.tmp 6, .tmp 7]) [] (ResH.tmp (ResH.tmp ResH.nil)) ?_
  rw [ccE, if_neg h2]
  exact ⟨rfl, rfl⟩
 ·
  refine Sk ?_
  refine Pq ?_
  refine Sq ?_
  refine Sr ?_
  have hE := h2
  obtain ⟨b, s, iv, pb, rfl, hB⟩ := hb18 hE
  obtain ⟨hc0, hin⟩ := look_mem hE
  have hr := checked_rep hc0
  have hsm : ∀ x ∈ countL l known, Small x := fun y hy => (report_small (hr y (count_mem hy))).1
  have hml := maker_len hsm
  have hcl := count_len l known
  have hid := ids_len (countL l known)
  have hln : (countL l known).length ≤ 1000 := by omega
  have hil : (idsL (countL l known)).length ≤ 1000000 := by omega
  have hAb := hab hc0
  have hAn : (arcsL (countL l known)).length ≤ 1000000 := by simpa [arcsL] using hil
  have hsd9 := hsd.mono hZ18
  have hba := hB.at_
  have hbp := hB.ps
  refine Y Fa ?_
  refine Y Ld ?_
  refine Y Ne_ ?_
  refine Nq ?_
  refine Cn (fun h4 => ?_) fun h4 => ?_
  ·
   refine Drq (fun i => false) [.cl b5 [.int .i64 cp, sv] 35, .zm Z18] (by repeat (first | exact SubH.refl | exact SubH.nil | refine SubH.cons (by repeat (first | exact Pick.head | apply Pick.tail)) ?_ | refine SubH.skip ?_)) ?_
   refine Tk 0 [] rfl Mv ?_
   refine Tk 1 [] rfl Nc ?_
   refine Tk 2 [] rfl Fa ?_
   refine Tk 3 [] rfl Ld ?_
   refine Tk 4 [] rfl Fa ?_
   refine Tk 5 [] rfl Ld ?_
   refine Tk 6 [] rfl LkP2 ?_
   refine Tk 7 [] rfl Mv ?_
   refine Tk 8 [] rfl Xc ?_
   refine Tk 9 [] rfl Xc ?_
   refine Gx 10 rfl Al ?_
   rintro _ _ ⟨b10, rfl, rfl⟩
   refine ⟨fun _ => (by repeat (first | exact SubH.refl | exact SubH.nil | refine SubH.cons (by repeat (first | exact Pick.head | apply Pick.tail)) ?_ | refine SubH.skip ?_)), ?_⟩
   refine Gxn 11 rfl St ?_
   rintro _ _ rfl
   refine ⟨fun _ => (by repeat (first | exact SubH.refl | exact SubH.nil | refine SubH.cons (by repeat (first | exact Pick.head | apply Pick.tail)) ?_ | refine SubH.skip ?_)), ?_⟩
   refine Tk 12 [] rfl As ?_
   refine Anq ?_
   refine Sr ?_
   refine Y Mv ?_
   refine Y Mv ?_
   refine GcB 38 (fun h6 => ?_) fun h6 => ?_
   ·
    refine Gt h6 ?_
    refine Y Fa ?_
    refine Gt h6 ?_
    refine Y Ld ?_
    refine Gt h6 ?_
    refine Y Ln ?_
    refine Gt h6 ?_
    refine Y Eq_ ?_
    refine Y (PkT (hb := h6)) ?_
    refine Y Mv ?_
    refine GcB 44 (fun h8 => ?_) fun h8 => ?_
    ·
     refine Gt h8 ?_
     refine Y Fa ?_
     refine Gt h8 ?_
     refine Y Fa ?_
     refine Gt h8 ?_
     refine Y Ld ?_
     refine Gt h8 ?_
     refine Y Fa ?_
     refine Gt h8 ?_
     refine Y Fa ?_
     refine Gt h8 ?_
     refine Y Ld ?_
     refine Gt h8 ?_
     refine Y Gr ?_
     refine Y (PkT (hb := h8)) ?_
     refine Y As ?_
     refine Y As ?_
     refine Nq ?_
     refine Rt ?_
     refine Rh ?_
     refine RvM0 (xs := [.tmp 6, .tmp 7]) [] (ResH.tmp (ResH.tmp ResH.nil)) ?_
     have hsz : side = [] := by simpa using h8
     refine ⟨?_, rfl⟩
     rw [hE]
     refine congrArg (fun b => Value.tuple #[Value.bool b, Value.int .i64 0]) ?_
     simp [ccE, ccB, hE, parL, hsz, *]
     all_goals first | rfl | congr
    ·
     refine Gf h8 ?_
     refine Gf h8 ?_
     refine Gf h8 ?_
     refine Gf h8 ?_
     refine Gf h8 ?_
     refine Gf h8 ?_
     refine Gf h8 ?_
     refine Y (PkF (hb := h8)) ?_
     refine Y As ?_
     refine Y As ?_
     refine Nq ?_
     refine Rt ?_
     refine Rh ?_
     refine RvM0 (xs := [.tmp 6, .tmp 7]) [] (ResH.tmp (ResH.tmp ResH.nil)) ?_
     have hsz : ¬ side = [] := by simpa using h8
     refine ⟨?_, rfl⟩
     rw [hE]
     refine congrArg (fun b => Value.tuple #[Value.bool b, Value.int .i64 0]) ?_
     simp [ccE, ccB, hE, parL, hsz, *]
     all_goals first | rfl | congr
   ·
    refine Gf h6 ?_
    refine Gf h6 ?_
    refine Gf h6 ?_
    refine Gf h6 ?_
    refine Y (PkF (hb := h6)) ?_
    refine Y Mv ?_
    refine Gf rfl ?_
    refine Gf rfl ?_
    refine Gf rfl ?_
    refine Gf rfl ?_
    refine Gf rfl ?_
    refine Gf rfl ?_
    refine Gf rfl ?_
    refine Y (PkF (hb := rfl)) ?_
    refine Y As ?_
    refine Y As ?_
    refine Nq ?_
    refine Rt ?_
    refine Rh ?_
    refine RvM0 (xs := [.tmp 6, .tmp 7]) [] (ResH.tmp (ResH.tmp ResH.nil)) ?_
    refine ⟨?_, rfl⟩
    rw [hE]
    refine congrArg (fun b => Value.tuple #[Value.bool b, Value.int .i64 0]) ?_
    simp [ccE, ccB, hE, parL, *]
    all_goals first | rfl | congr
  ·
   refine Sk ?_
   refine Pq ?_
   refine Sq ?_
   refine Sr ?_
   refine Y Mv ?_
   refine Y Fa ?_
   refine Y Ld ?_
   refine Cv (hs := isSide_sp (side := side)) (h := ?_)
   refine Y Nt ?_
   refine Nq ?_
   refine Ct (fun h11 => ?_) fun h11 => ?_
   ·
    have h12 := nb_i h11
    refine Sr ?_
    refine Y As ?_
    refine Y As ?_
    refine Nq ?_
    refine Rt ?_
    refine Rh ?_
    refine RvM0 (xs := [.tmp 6, .tmp 7]) [] (ResH.tmp (ResH.tmp ResH.nil)) ?_
    refine ⟨?_, rfl⟩
    rw [hE]
    refine congrArg (fun b => Value.tuple #[Value.bool b, Value.int .i64 0]) ?_
    simp [ccE, ccB, hE, parL, *]
    all_goals first | rfl | congr
   ·
    have h13 := nb_g h11
    refine Sk ?_
    refine Pq ?_
    refine Sr ?_
    refine Dal fun b12 => ?_
    refine Dal fun b13 => ?_
    refine Nq ?_
    refine Sq ?_
    refine Sr ?_
    refine Y Mv ?_
    refine D (Cf (hs := arcs_sp)) ?_
    rintro _ _ ⟨_, ⟨b59, rfl, rfl⟩, rfl⟩
    refine Nq ?_
    refine Bk ?_
    refine Rf (p := 60) (arcs1_seq (b1 := b59)) (fun pre H_ => H_ = .cl b12 [.int .i64 (cL 1 side pre), .int .i64 (cL (-1) side pre)] 230 :: .cl b13 [.int .i64 (cH 1 side pre), .int .i64 (cH (-1) side pre)] 230 :: .cl b5 [.int .i64 cp, sv] 35 :: .zm Z18 :: F) (fun _ _ => False) (.cl b12 [.int .i64 (cL 1 side []), .int .i64 (cL (-1) side [])] 230 :: .cl b13 [.int .i64 (cH 1 side []), .int .i64 (cH (-1) side [])] 230 :: .cl b5 [.int .i64 cp, sv] 35 :: .zm Z18 :: F) rfl ?_ ?_ (fun _ _ _ h => h.elim)
    ·
     intro F2 L D rc pre y v H1 hJ hE_ hpre
     subst hJ
     subst hE_
     obtain ⟨xs_, rfl, hpx⟩ := hpre
     have hym : y ∈ (arcsL (countL l known)) := hpx.subset (by simp)
     have hyb := hAb y hym
     have hpn1 := hpx.length_le
     have hpA : ABnd pre := fun a ha => hAb a (hpx.subset (by simp [ha]))
     have c1 := c_bnd (s := 1) (side := side) hpA
     have c2 := c_bnd (s := -1) (side := side) hpA
     simp only [List.length_append, List.length_cons, List.length_nil] at hpn1
     refine Rg ?_
     refine Dal fun b14 => ?_
     refine Dsw ?_
     refine Nl ?_
     refine Bg2 ?_
     refine Bk ?_
     refine Sr ?_
     refine Y LdN ?_
     refine Y Fa ?_
     refine Y Ld ?_
     refine Cv (hs := across_sp (side := side)) (h := ?_)
     refine Nq ?_
     refine Bk ?_
     refine Sr ?_
     refine Y Eq_ ?_
     refine Y As ?_
     refine Nq ?_
     refine Cp (fun h15 => ?_) fun h15 => ?_
     ·
      refine Sr ?_
      refine Y (IxA (q := 0)) ?_
      refine Y Ld ?_
      refine Y Fa ?_
      refine Y Ld ?_
      refine Y Ad ?_
      refine Y (IxA (q := 0)) ?_
      refine Dst ?_
      refine Nq ?_
      refine Rg ?_
      refine Y (IxA (q := 0)) ?_
      refine Y Ld ?_
      refine Y Fa ?_
      refine Y Ld ?_
      refine Y Ad ?_
      refine Y (IxA (q := 0)) ?_
      refine Dst ?_
      refine Nl ?_
      refine Pb ?_
      refine Pb ?_
      refine Fe (.cl b12 [.int .i64 (cL 1 side pre + y.low), .int .i64 (cL (-1) side pre)] 230 :: .cl b13 [.int .i64 (cH 1 side pre + y.high), .int .i64 (cH (-1) side pre)] 230 :: .cl b5 [.int .i64 cp, sv] 35 :: .zm Z18 :: F) (by rw [cL_snoc, cL_snoc, cH_snoc, cH_snoc, h15]; rfl)
     ·
      refine Sr ?_
      refine Y Eq_ ?_
      refine Y As ?_
      refine Nq ?_
      refine Cp (fun h17 => ?_) fun h17 => ?_
      ·
       refine Sr ?_
       refine Y (IxA (q := 1)) ?_
       refine Y Ld ?_
       refine Y Fa ?_
       refine Y Ld ?_
       refine Y Ad ?_
       refine Y (IxA (q := 1)) ?_
       refine Dst ?_
       refine Nq ?_
       refine Rg ?_
       refine Y (IxA (q := 1)) ?_
       refine Y Ld ?_
       refine Y Fa ?_
       refine Y Ld ?_
       refine Y Ad ?_
       refine Y (IxA (q := 1)) ?_
       refine Dst ?_
       refine Nl ?_
       refine Pb ?_
       refine Pb ?_
       refine Fe (.cl b12 [.int .i64 (cL 1 side pre), .int .i64 (cL (-1) side pre + y.low)] 230 :: .cl b13 [.int .i64 (cH 1 side pre), .int .i64 (cH (-1) side pre + y.high)] 230 :: .cl b5 [.int .i64 cp, sv] 35 :: .zm Z18 :: F) (by rw [cL_snoc, cL_snoc, cH_snoc, cH_snoc, h17]; rfl)
      ·
       refine Sk ?_
       refine Pb ?_
       refine Pb ?_
       refine Fe (.cl b12 [.int .i64 (cL 1 side pre), .int .i64 (cL (-1) side pre)] 230 :: .cl b13 [.int .i64 (cH 1 side pre), .int .i64 (cH (-1) side pre)] 230 :: .cl b5 [.int .i64 cp, sv] 35 :: .zm Z18 :: F) (by rw [cL_snoc, cL_snoc, cH_snoc, cH_snoc, if_neg h15, if_neg h17, if_neg h15, if_neg h17])
    ·
     intro D xs H1 hS hJ
     subst hS hJ
     refine Pb ?_
     refine Pq ?_
     refine Sr ?_
     refine Y (IxA (q := 0)) ?_
     refine Y Ld ?_
     refine Y (IxA (q := 1)) ?_
     refine Y Ld ?_
     refine Y Gr ?_
     refine Y Mv ?_
     refine GcB 98 (fun h19 => ?_) fun h19 => ?_
     ·
      refine Gf h19 ?_
      refine Gf h19 ?_
      refine Gf h19 ?_
      refine Gf h19 ?_
      refine Gf h19 ?_
      refine Y (PkT (hb := h19)) ?_
      refine Y As ?_
      refine Y As ?_
      refine Nq ?_
      refine Rt ?_
      refine RvM1 (xs := [.tmp 6, .tmp 7]) [] (by repeat (first | exact Pick.head | apply Pick.tail)) (ResH.tmp (ResH.tmp ResH.nil)) ?_
      refine ⟨?_, rfl⟩
      rw [hE]
      refine congrArg (fun b => Value.tuple #[Value.bool b, Value.int .i64 0]) ?_
      simp [ccE, ccB, hE, parL, *]
      all_goals first | rfl | congr
     ·
      refine Gt h19 ?_
      refine Y (IxA (q := 1)) ?_
      refine Gt h19 ?_
      refine Y Ld ?_
      refine Gt h19 ?_
      refine Y (IxA (q := 0)) ?_
      refine Gt h19 ?_
      refine Y Ld ?_
      refine Gt h19 ?_
      refine Y Gr ?_
      refine Y (PkF (hb := h19)) ?_
      refine Y As ?_
      refine Y As ?_
      refine Nq ?_
      refine Rt ?_
      refine RvM1 (xs := [.tmp 6, .tmp 7]) [] (by repeat (first | exact Pick.head | apply Pick.tail)) (ResH.tmp (ResH.tmp ResH.nil)) ?_
      refine ⟨?_, rfl⟩
      rw [hE]
      refine congrArg (fun b => Value.tuple #[Value.bool b, Value.int .i64 0]) ?_
      simp [ccE, ccB, hE, parL, *]
      all_goals first | rfl | congr

end Go.Lag

namespace Go.Lag
open Go Go.RowKit Go.Proofs
set_option maxRecDepth 100000 in
set_option maxHeartbeats 4000000 in
theorem findEither_sp {Z : Hp} {l : List Rep} {lv : Value} (hl : SlZ (EZ Z) Z lv l) {known : Int} {x : List Int} {xv : Value} (hx : SlZ (EI .i64) Z xv x) {cp : Int} {side : List Int} {sv : Value} (hsd : SlZ (EI .i64) Z sv side) : SpV Tryz.prog 17 [lv, .int .i64 known, xv, .agg #[.int .i64 cp, sv]] [.zm Z] (.bool true) := by
 refine Sp.of 154 Tryz.func17 rfl rfl rfl ?_
 intro F
 have hxl := hx.len_le
 have hsl := hsd.len_le
 refine Sr ?_
 refine Dbx (fun b7 => ?_)
 refine Y As ?_
 refine Nq ?_
 refine Sq ?_
 refine Sr ?_
 refine Y Mv ?_
 refine Cv (hs := few_sp) (h := ?_)
 refine Y Nt ?_
 refine Y Mv ?_
 refine Ga 3 3 false 32 (fun h2 => by
  refine Yg h2 Mv ?_
  refine Yg h2 Ln ?_
  refine Yg h2 Gr ?_
  exact Gg) ?_
 refine Y PkO ?_
 refine Y Mv ?_
 refine GcB 34 (fun h5 => ?_) fun h5 => ?_
 ·
  refine Gf h5 ?_
  refine Gf h5 ?_
  refine Gf h5 ?_
  refine Gf h5 ?_
  refine Y (PkT (hb := h5)) ?_
  refine Nq ?_
  refine CtT rfl ?_
  refine Sr ?_
  refine Cv (hs := sane_sp) (h := ?_)
  refine Y As ?_
  refine Nq ?_
  refine Rt ?_
  refine Rh ?_
  refine Rv [] ?_
  exact ⟨rfl, rfl⟩
 ·
  refine Gt h5 ?_
  refine Y Fa ?_
  refine Gt h5 ?_
  refine Y Ld ?_
  refine Gt h5 ?_
  refine Y Ln ?_
  refine Gt h5 ?_
  refine Y Gr ?_
  refine Y (PkF (hb := h5)) ?_
  refine Nq ?_
  refine Cp (fun h7 => ?_) fun h7 => ?_
  ·
   refine Sr ?_
   refine Cv (hs := sane_sp) (h := ?_)
   refine Y As ?_
   refine Nq ?_
   refine Rt ?_
   refine Rh ?_
   refine Rv [] ?_
   exact ⟨rfl, rfl⟩
  ·
   refine Sk ?_
   refine Pq ?_
   refine Sr ?_
   have hfw := h5
   simp only [Bool.or_eq_false_iff, Bool.not_eq_false'] at hfw
   have hn : l.length ≤ 1000 := Nat.le_trans (few_len (by omega) hfw.1) (by omega)
   refine Y Mv ?_
   refine Y Mv ?_
   refine D (Cf (hs := conflict_sp (hl := hl) (hn := hn))) ?_
   rintro _ _ ⟨_, (⟨hlp, rfl, rfl⟩ | ⟨he0, ca, hfa, rfl, rfl⟩ | ⟨he0, hfn, dv, seen, hba, rfl, rfl⟩ | ⟨he0, cst, hfn, hba, hok, rfl, rfl⟩), rfl⟩
   ·
    have hld := hl
    have hxd := hx
    have hcd := hsd
    refine Y Mv ?_
    refine Y Xc ?_
    refine Y Xc ?_
    refine Y Xc ?_
    refine Dal fun b9 => ?_
    refine Dsw ?_
    refine Y As ?_
    refine Y As ?_
    refine Nq ?_
    refine Sr ?_
    refine Y Mv ?_
    refine Y Mv ?_
    refine D (Cf (hs := parcels_sp (hl := hld) (hn := hn))) ?_
    rintro _ _ ⟨_, ⟨pv51, rfl, rfl⟩, rfl⟩
    refine Fz fun Z51 hz51 => ?_
    refine Y Mv ?_
    refine Y Xc ?_
    refine Y Xc ?_
    refine Y As ?_
    refine Y As ?_
    refine Nq ?_
    refine Sq ?_
    refine Sr ?_
    refine Y Mv ?_
    refine Y (NeK (a := lookE l known []) (b := 0) (v := true) (by simp [hlp])) ?_
    refine Nq ?_
    refine CtT rfl ?_
    refine Sr ?_
    refine Cv (hs := sane_sp) (h := ?_)
    refine Y Mv ?_
    refine Gt rfl ?_
    refine Y Mv ?_
    refine Gt rfl ?_
    refine Y Mv ?_
    refine Gt rfl ?_
    refine Y (EqK (a := lookE l known []) (b := lookE l known []) (v := true) (by simp)) ?_
    refine Y (PkT (hb := rfl)) ?_
    refine Y Mv ?_
    refine Gt rfl ?_
    refine Y Mv ?_
    refine Gt rfl ?_
    refine Y Nt ?_
    refine Y (PkT (hb := rfl)) ?_
    refine Y As ?_
    refine Nq ?_
    refine Rt ?_
    refine Rh ?_
    refine Rv [] ?_
    exact ⟨rfl, rfl⟩
   ·
    have hld := hl
    have hxd := hx
    have hcd := hsd
    refine Y Mv ?_
    refine Y Xc ?_
    refine Y Xc ?_
    refine Y Xc ?_
    refine Dal fun b9 => ?_
    refine Dsw ?_
    refine Y As ?_
    refine Y As ?_
    refine Nq ?_
    refine Sr ?_
    refine Y Mv ?_
    refine Y Mv ?_
    refine D (Cf (hs := parcels_sp (hl := hld) (hn := hn))) ?_
    rintro _ _ ⟨_, ⟨pv51, rfl, rfl⟩, rfl⟩
    refine Fz fun Z51 hz51 => ?_
    refine Y Mv ?_
    refine Y Xc ?_
    refine Y Xc ?_
    refine Y As ?_
    refine Y As ?_
    refine Nq ?_
    refine Sq ?_
    refine Sr ?_
    refine Y Mv ?_
    refine Y (NeK (a := 0) (b := 0) (v := false) (by decide)) ?_
    refine Nq ?_
    refine CtF rfl ?_
    refine Sk ?_
    refine Pq ?_
    refine Sr ?_
    have hc0 := (look_mem he0).1
    have hI := (checked hc0).inv known
    have hAb : ABnd (arcsL (countL l known)) := ab_of hc0
    have hr := checked_rep hc0
    have hsm : ∀ x ∈ (countL l known), Small x := fun y hy => (report_small (hr y (count_mem hy))).1
    have hml := maker_len hsm
    have hcl := count_len l known
    have hid := ids_len (countL l known)
    have hpl : ((idsL (countL l known)).map (parL (countL l known))).length ≤ 1000000 := by rw [List.length_map]; omega
    have hcn : (countL l known).length ≤ 1000 := by omega
    rw [if_pos he0] at hz51
    refine Y Mv ?_
    refine Y Mv ?_
    refine Y Mv ?_
    refine D (Cf (hs := checkWeights_sp (hl := hld) (hn := hn) (hx := hxd))) ?_
    rintro _ _ ⟨_, ⟨ok, rfl, hokx, rfl⟩, rfl⟩
    refine Y Mv ?_
    refine Y Xc ?_
    refine Y Xc ?_
    refine Y As ?_
    refine Y As ?_
    refine Nq ?_
    refine Sr ?_
    refine Y Mv ?_
    refine Y Mv ?_
    refine Y LdN ?_
    refine D (Cf (hs := checkConflict_sp (hl := hld) (hn := hn) (cp := cp) (side := side) (hsd := hcd))) ?_
    rintro _ _ ⟨_, ⟨rfl, rfl⟩, rfl⟩
    refine Y Mv ?_
    refine Y Xc ?_
    refine Y Xc ?_
    refine Y As ?_
    refine Y As ?_
    refine Nq ?_
    refine Sq ?_
    refine Sr ?_
    have hok0 : ok = false := by cases ok with | false => rfl | true => exact absurd (hokx.1 rfl).2 (cc_no hI (conf_arc hI hfa))
    subst hok0
    refine Y Mv ?_
    refine Y (NeK (a := lookE l known []) (b := 0) (v := false) (by simp [he0])) ?_
    refine Y Mv ?_
    refine Gt rfl ?_
    refine Y Mv ?_
    refine Gt rfl ?_
    refine Y (NeK (a := lookE l known []) (b := 0) (v := false) (by simp [he0])) ?_
    refine Y (PkF (hb := rfl)) ?_
    refine Y Mv ?_
    refine Gt rfl ?_
    refine Y Mv ?_
    refine Gt rfl ?_
    refine Y (NeK (a := lookE l known []) (b := 0) (v := false) (by simp [he0])) ?_
    refine Y (PkF (hb := rfl)) ?_
    refine Y Mv ?_
    refine Gt rfl ?_
    refine Y Mv ?_
    refine Gt rfl ?_
    refine Y Mv ?_
    refine Gf rfl ?_
    refine Gt rfl ?_
    refine Y (PkF (hb := rfl)) ?_
    refine Y (PkF (hb := rfl)) ?_
    refine Y Mv ?_
    refine Gt rfl ?_
    refine Y Mv ?_
    refine Gt rfl ?_
    refine Y Mv ?_
    refine GcB 98 (fun h8 => ?_) fun h8 => ?_
    ·
     refine Gt h8 ?_
     refine Y Mv ?_
     refine Gt h8 ?_
     refine Y Nt ?_
     refine Gt rfl ?_
     refine Y (PkT (hb := h8)) ?_
     refine Y (PkF (hb := rfl)) ?_
     refine Nq ?_
     refine CtF rfl ?_
     refine Sk ?_
     refine Pq ?_
     refine Sq ?_
     refine Sr ?_
     refine Y Mv ?_
     refine Nq ?_
     refine CtT rfl ?_
     refine Sr ?_
     refine Y Mv ?_
     refine Y Mv ?_
     refine Y LdN ?_
     refine D (Cf (hs := checkConflict_sp (hl := hld) (hn := hn) (cp := ca.parcel) (side := []) (hsd := SlZ.nil _ _))) ?_
     rintro _ _ ⟨_, ⟨rfl, rfl⟩, rfl⟩
     refine Y Mv ?_
     refine Y Xc ?_
     refine Y Xc ?_
     refine Y As ?_
     refine Y As ?_
     refine Nq ?_
     refine Sr ?_
     have hccd : ccE l known ca.parcel [] = true := by rw [ccE, if_pos he0]; exact conf_arc hI hfa
     rw [hccd]
     refine Cv (hs := sane_sp) (h := ?_)
     refine Y Mv ?_
     refine Gt rfl ?_
     refine Y Mv ?_
     refine Y (PkT (hb := rfl)) ?_
     refine Y Mv ?_
     refine Gt rfl ?_
     refine Y Mv ?_
     refine Gt rfl ?_
     refine Y (EqK (a := lookE l known []) (b := 0) (v := true) (by simp [he0])) ?_
     refine Y (PkT (hb := rfl)) ?_
     refine Y As ?_
     refine Nq ?_
     refine Rt ?_
     refine Rh ?_
     refine Rv [] ?_
     exact ⟨rfl, rfl⟩
    ·
     refine Gf h8 ?_
     refine Gf h8 ?_
     refine Gt rfl ?_
     refine Y (PkF (hb := h8)) ?_
     refine Y (PkF (hb := rfl)) ?_
     refine Nq ?_
     refine CtF rfl ?_
     refine Sk ?_
     refine Pq ?_
     refine Sq ?_
     refine Sr ?_
     refine Y Mv ?_
     refine Nq ?_
     refine CtT rfl ?_
     refine Sr ?_
     refine Y Mv ?_
     refine Y Mv ?_
     refine Y LdN ?_
     refine D (Cf (hs := checkConflict_sp (hl := hld) (hn := hn) (cp := ca.parcel) (side := []) (hsd := SlZ.nil _ _))) ?_
     rintro _ _ ⟨_, ⟨rfl, rfl⟩, rfl⟩
     refine Y Mv ?_
     refine Y Xc ?_
     refine Y Xc ?_
     refine Y As ?_
     refine Y As ?_
     refine Nq ?_
     refine Sr ?_
     have hccd : ccE l known ca.parcel [] = true := by rw [ccE, if_pos he0]; exact conf_arc hI hfa
     rw [hccd]
     refine Cv (hs := sane_sp) (h := ?_)
     refine Y Mv ?_
     refine Gt rfl ?_
     refine Y Mv ?_
     refine Y (PkT (hb := rfl)) ?_
     refine Y Mv ?_
     refine Gt rfl ?_
     refine Y Mv ?_
     refine Gt rfl ?_
     refine Y (EqK (a := lookE l known []) (b := 0) (v := true) (by simp [he0])) ?_
     refine Y (PkT (hb := rfl)) ?_
     refine Y As ?_
     refine Nq ?_
     refine Rt ?_
     refine Rh ?_
     refine Rv [] ?_
     exact ⟨rfl, rfl⟩
   ·
    refine FzI (Z := Z) fun Zd hzd hsd2 => ?_
    have hld := hl.up hzd
    have hxd := hx.mono hzd
    have hcd := hsd.mono hzd
    have hform := hsd2
    obtain ⟨A9, c9, hdv, _⟩ := hform
    subst hdv
    refine Y Mv ?_
    refine Y Xc ?_
    refine Y Xc ?_
    refine Y Xc ?_
    refine Dal fun b9 => ?_
    refine Dsw ?_
    refine Y As ?_
    refine Y As ?_
    refine Nq ?_
    refine Sr ?_
    refine Y Mv ?_
    refine Y Mv ?_
    refine D (Cf (hs := parcels_sp (hl := hld) (hn := hn))) ?_
    rintro _ _ ⟨_, ⟨pv51, rfl, rfl⟩, rfl⟩
    refine Fz fun Z51 hz51 => ?_
    refine Y Mv ?_
    refine Y Xc ?_
    refine Y Xc ?_
    refine Y As ?_
    refine Y As ?_
    refine Nq ?_
    refine Sq ?_
    refine Sr ?_
    refine Y Mv ?_
    refine Y (NeK (a := 0) (b := 0) (v := false) (by decide)) ?_
    refine Nq ?_
    refine CtF rfl ?_
    refine Sk ?_
    refine Pq ?_
    refine Sr ?_
    have hc0 := (look_mem he0).1
    have hI := (checked hc0).inv known
    have hAb : ABnd (arcsL (countL l known)) := ab_of hc0
    have hr := checked_rep hc0
    have hsm : ∀ x ∈ (countL l known), Small x := fun y hy => (report_small (hr y (count_mem hy))).1
    have hml := maker_len hsm
    have hcl := count_len l known
    have hid := ids_len (countL l known)
    have hpl : ((idsL (countL l known)).map (parL (countL l known))).length ≤ 1000000 := by rw [List.length_map]; omega
    have hcn : (countL l known).length ≤ 1000 := by omega
    rw [if_pos he0] at hz51
    refine Y Mv ?_
    refine Y Mv ?_
    refine Y Mv ?_
    refine D (Cf (hs := checkWeights_sp (hl := hld) (hn := hn) (hx := hxd))) ?_
    rintro _ _ ⟨_, ⟨ok, rfl, hokx, rfl⟩, rfl⟩
    refine Y Mv ?_
    refine Y Xc ?_
    refine Y Xc ?_
    refine Y As ?_
    refine Y As ?_
    refine Nq ?_
    refine Sr ?_
    refine Y Mv ?_
    refine Y Mv ?_
    refine Y LdN ?_
    refine D (Cf (hs := checkConflict_sp (hl := hld) (hn := hn) (cp := cp) (side := side) (hsd := hcd))) ?_
    rintro _ _ ⟨_, ⟨rfl, rfl⟩, rfl⟩
    refine Y Mv ?_
    refine Y Xc ?_
    refine Y Xc ?_
    refine Y As ?_
    refine Y As ?_
    refine Nq ?_
    refine Sq ?_
    refine Sr ?_
    have hok0 : ok = false := by cases ok with | false => rfl | true => exact absurd (hokx.1 rfl).2 (cc_no hI (conf_side hI hAb hcn hfn hba))
    subst hok0
    refine Y Mv ?_
    refine Y (NeK (a := lookE l known []) (b := 0) (v := false) (by simp [he0])) ?_
    refine Y Mv ?_
    refine Gt rfl ?_
    refine Y Mv ?_
    refine Gt rfl ?_
    refine Y (NeK (a := lookE l known []) (b := 0) (v := false) (by simp [he0])) ?_
    refine Y (PkF (hb := rfl)) ?_
    refine Y Mv ?_
    refine Gt rfl ?_
    refine Y Mv ?_
    refine Gt rfl ?_
    refine Y (NeK (a := lookE l known []) (b := 0) (v := false) (by simp [he0])) ?_
    refine Y (PkF (hb := rfl)) ?_
    refine Y Mv ?_
    refine Gt rfl ?_
    refine Y Mv ?_
    refine Gt rfl ?_
    refine Y Mv ?_
    refine Gf rfl ?_
    refine Gt rfl ?_
    refine Y (PkF (hb := rfl)) ?_
    refine Y (PkF (hb := rfl)) ?_
    refine Y Mv ?_
    refine Gt rfl ?_
    refine Y Mv ?_
    refine Gt rfl ?_
    refine Y Mv ?_
    refine GcB 98 (fun h9 => ?_) fun h9 => ?_
    ·
     refine Gt h9 ?_
     refine Y Mv ?_
     refine Gt h9 ?_
     refine Y Nt ?_
     refine Gt rfl ?_
     refine Y (PkT (hb := h9)) ?_
     refine Y (PkF (hb := rfl)) ?_
     refine Nq ?_
     refine CtF rfl ?_
     refine Sk ?_
     refine Pq ?_
     refine Sq ?_
     refine Sr ?_
     refine Y Mv ?_
     refine Nq ?_
     refine CtT rfl ?_
     refine Sr ?_
     refine Y Mv ?_
     refine Y Mv ?_
     refine Y LdN ?_
     refine D (Cf (hs := checkConflict_sp (hl := hld) (hn := hn) (cp := 0) (side := (sideL (countL l known) seen)) (hsd := hsd2))) ?_
     rintro _ _ ⟨_, ⟨rfl, rfl⟩, rfl⟩
     refine Y Mv ?_
     refine Y Xc ?_
     refine Y Xc ?_
     refine Y As ?_
     refine Y As ?_
     refine Nq ?_
     refine Sr ?_
     have hccd : ccE l known 0 (sideL (countL l known) seen) = true := by rw [ccE, if_pos he0]; exact conf_side hI hAb hcn hfn hba
     rw [hccd]
     refine Cv (hs := sane_sp) (h := ?_)
     refine Y Mv ?_
     refine Gt rfl ?_
     refine Y Mv ?_
     refine Y (PkT (hb := rfl)) ?_
     refine Y Mv ?_
     refine Gt rfl ?_
     refine Y Mv ?_
     refine Gt rfl ?_
     refine Y (EqK (a := lookE l known []) (b := 0) (v := true) (by simp [he0])) ?_
     refine Y (PkT (hb := rfl)) ?_
     refine Y As ?_
     refine Nq ?_
     refine Rt ?_
     refine Rh ?_
     refine Rv [] ?_
     exact ⟨rfl, rfl⟩
    ·
     refine Gf h9 ?_
     refine Gf h9 ?_
     refine Gt rfl ?_
     refine Y (PkF (hb := h9)) ?_
     refine Y (PkF (hb := rfl)) ?_
     refine Nq ?_
     refine CtF rfl ?_
     refine Sk ?_
     refine Pq ?_
     refine Sq ?_
     refine Sr ?_
     refine Y Mv ?_
     refine Nq ?_
     refine CtT rfl ?_
     refine Sr ?_
     refine Y Mv ?_
     refine Y Mv ?_
     refine Y LdN ?_
     refine D (Cf (hs := checkConflict_sp (hl := hld) (hn := hn) (cp := 0) (side := (sideL (countL l known) seen)) (hsd := hsd2))) ?_
     rintro _ _ ⟨_, ⟨rfl, rfl⟩, rfl⟩
     refine Y Mv ?_
     refine Y Xc ?_
     refine Y Xc ?_
     refine Y As ?_
     refine Y As ?_
     refine Nq ?_
     refine Sr ?_
     have hccd : ccE l known 0 (sideL (countL l known) seen) = true := by rw [ccE, if_pos he0]; exact conf_side hI hAb hcn hfn hba
     rw [hccd]
     refine Cv (hs := sane_sp) (h := ?_)
     refine Y Mv ?_
     refine Gt rfl ?_
     refine Y Mv ?_
     refine Y (PkT (hb := rfl)) ?_
     refine Y Mv ?_
     refine Gt rfl ?_
     refine Y Mv ?_
     refine Gt rfl ?_
     refine Y (EqK (a := lookE l known []) (b := 0) (v := true) (by simp [he0])) ?_
     refine Y (PkT (hb := rfl)) ?_
     refine Y As ?_
     refine Nq ?_
     refine Rt ?_
     refine Rh ?_
     refine Rv [] ?_
     exact ⟨rfl, rfl⟩
   ·
    have hld := hl
    have hxd := hx
    have hcd := hsd
    refine Y Mv ?_
    refine Y Xc ?_
    refine Y Xc ?_
    refine Y Xc ?_
    refine Dal fun b9 => ?_
    refine Dsw ?_
    refine Y As ?_
    refine Y As ?_
    refine Nq ?_
    refine Sr ?_
    refine Y Mv ?_
    refine Y Mv ?_
    refine D (Cf (hs := parcels_sp (hl := hld) (hn := hn))) ?_
    rintro _ _ ⟨_, ⟨pv51, rfl, rfl⟩, rfl⟩
    refine Fz fun Z51 hz51 => ?_
    refine Y Mv ?_
    refine Y Xc ?_
    refine Y Xc ?_
    refine Y As ?_
    refine Y As ?_
    refine Nq ?_
    refine Sq ?_
    refine Sr ?_
    refine Y Mv ?_
    refine Y (NeK (a := 0) (b := 0) (v := false) (by decide)) ?_
    refine Nq ?_
    refine CtF rfl ?_
    refine Sk ?_
    refine Pq ?_
    refine Sr ?_
    have hc0 := (look_mem he0).1
    have hI := (checked hc0).inv known
    have hAb : ABnd (arcsL (countL l known)) := ab_of hc0
    have hr := checked_rep hc0
    have hsm : ∀ x ∈ (countL l known), Small x := fun y hy => (report_small (hr y (count_mem hy))).1
    have hml := maker_len hsm
    have hcl := count_len l known
    have hid := ids_len (countL l known)
    have hpl : ((idsL (countL l known)).map (parL (countL l known))).length ≤ 1000000 := by rw [List.length_map]; omega
    have hcn : (countL l known).length ≤ 1000 := by omega
    rw [if_pos he0] at hz51
    have hbs := balOf_some hfn hba
    refine Y Mv ?_
    refine Y Mv ?_
    refine Y Mv ?_
    refine D (Cf (hs := checkWeights_sp (hl := hld) (hn := hn) (hx := hxd))) ?_
    rintro _ _ ⟨_, ⟨ok, rfl, hokx, rfl⟩, rfl⟩
    refine Y Mv ?_
    refine Y Xc ?_
    refine Y Xc ?_
    refine Y As ?_
    refine Y As ?_
    refine Nq ?_
    refine Sr ?_
    refine Y Mv ?_
    refine Y Mv ?_
    refine Y LdN ?_
    refine D (Cf (hs := checkConflict_sp (hl := hld) (hn := hn) (cp := cp) (side := side) (hsd := hcd))) ?_
    rintro _ _ ⟨_, ⟨rfl, rfl⟩, rfl⟩
    refine Y Mv ?_
    refine Y Xc ?_
    refine Y Xc ?_
    refine Y As ?_
    refine Y As ?_
    refine Nq ?_
    refine Sq ?_
    refine Sr ?_
    have hcc0 : ccE l known cp side = false := by rw [ccE, if_pos he0]; exact bal_no hI hAb hcn hbs
    rw [hcc0]
    refine Y Mv ?_
    refine Y (NeK (a := lookE l known []) (b := 0) (v := false) (by simp [he0])) ?_
    refine Y Mv ?_
    refine Gt rfl ?_
    refine Y Mv ?_
    refine Gt rfl ?_
    refine Y (NeK (a := lookE l known []) (b := 0) (v := false) (by simp [he0])) ?_
    refine Y (PkF (hb := rfl)) ?_
    refine Y Mv ?_
    refine Gt rfl ?_
    refine Y Mv ?_
    refine Gt rfl ?_
    refine Y (NeK (a := lookE l known []) (b := 0) (v := false) (by simp [he0])) ?_
    refine Y (PkF (hb := rfl)) ?_
    refine Y Mv ?_
    refine Gt rfl ?_
    refine Y Mv ?_
    refine Gt rfl ?_
    refine Y Mv ?_
    refine GcB 92 (fun h10 => ?_) fun h10 => ?_
    ·
     refine Gt h10 ?_
     refine Y Mv ?_
     refine Gt rfl ?_
     refine Y (PkT (hb := h10)) ?_
     refine Y (PkF (hb := rfl)) ?_
     refine Y Mv ?_
     refine Gt rfl ?_
     refine Y Mv ?_
     refine Gt rfl ?_
     refine Y Mv ?_
     refine Gf rfl ?_
     refine Gf rfl ?_
     refine Gt rfl ?_
     refine Y (PkF (hb := rfl)) ?_
     refine Y (PkF (hb := rfl)) ?_
     refine Nq ?_
     refine CtF rfl ?_
     refine Sk ?_
     refine Pq ?_
     refine Sq ?_
     refine Sr ?_
     refine Y Mv ?_
     refine Nq ?_
     refine CtF rfl ?_
     refine Sk ?_
     refine Pq ?_
     refine Sq ?_
     refine Sr ?_
     refine Y Mv ?_
     refine Y Ln ?_
     refine Y Eq_ ?_
     refine Nq ?_
     refine Cp (fun h12 => ?_) fun h12 => ?_
     ·
      refine Sr ?_
      refine Cv (hs := sane_sp) (h := ?_)
      refine Y As ?_
      refine Nq ?_
      refine Rt ?_
      refine Rh ?_
      refine Rv [] ?_
      exact ⟨rfl, rfl⟩
     ·
      refine Sk ?_
      refine Pq ?_
      refine Sr ?_
      refine Y Mv ?_
      refine Y Mv ?_
      refine Y Mv ?_
      obtain ⟨x127, b127, o127, hx127, he127, hc127⟩ := SlZ.atF (fun x => parCells x) (fun _ _ h => h) hz51 0 (by omega)
      refine Y (IxY rfl rfl (by omega) he127) ?_
      refine Y Fa ?_
      refine Y Ld ?_
      obtain ⟨hpi, hlpi⟩ := par0 he0 hx127
      have hcb := bound_cw (up := true) hI hAb hcn hpi hbs
      refine D (Cf (hs := bound_w hld hn hlpi hbs)) ?_
      rintro _ _ ⟨_, ⟨e130, fv, sw, rfl, rfl⟩, rfl⟩
      refine FzI (Z := Z) fun Zy hzy hsy => ?_
      have hly := hld.up hzy
      refine Fz fun Zw hzw => ?_
      refine Y Mv ?_
      refine Y Xc ?_
      refine Y Xc ?_
      refine Y Xc ?_
      refine Y Xc ?_
      refine Y As ?_
      refine Y As ?_
      refine Y As ?_
      refine Y As ?_
      refine Nq ?_
      refine Sr ?_
      refine Y Mv ?_
      refine Y Mv ?_
      refine Y Mv ?_
      refine D (Cf (hs := checkWeights_sp (hl := hly) (hn := hn) (hx := hsy))) ?_
      rintro _ _ ⟨_, ⟨ok2, rfl, hok2, rfl⟩, rfl⟩
      refine Y Mv ?_
      refine Y Xc ?_
      refine Y Xc ?_
      refine Y As ?_
      refine Y As ?_
      refine Nq ?_
      refine Sr ?_
      have hk2 : ok2 = true := hok2.2 ⟨he0, hcb⟩
      subst hk2
      refine Cv (hs := sane_sp) (h := ?_)
      refine Y Mv ?_
      refine Gt rfl ?_
      refine Y Mv ?_
      refine Gt rfl ?_
      refine Y (EqK (a := 0) (b := 0) (v := true) (by decide)) ?_
      refine Y (PkT (hb := rfl)) ?_
      refine Y Mv ?_
      refine Gt rfl ?_
      refine Y Mv ?_
      refine Gt rfl ?_
      refine Y (EqK (a := lookE l known []) (b := 0) (v := true) (by simp [he0])) ?_
      refine Y (PkT (hb := rfl)) ?_
      refine Y Mv ?_
      refine Gt rfl ?_
      refine Y Mv ?_
      refine Y (PkT (hb := rfl)) ?_
      refine Y As ?_
      refine Nq ?_
      refine Rt ?_
      refine Rv [] ?_
      exact ⟨rfl, rfl⟩
    ·
     refine Gf h10 ?_
     refine Gt rfl ?_
     refine Y (PkF (hb := h10)) ?_
     refine Y (PkF (hb := rfl)) ?_
     refine Y Mv ?_
     refine Gt rfl ?_
     refine Y Mv ?_
     refine Gt rfl ?_
     refine Y Mv ?_
     refine Gf rfl ?_
     refine Gf rfl ?_
     refine Gt rfl ?_
     refine Y (PkF (hb := rfl)) ?_
     refine Y (PkF (hb := rfl)) ?_
     refine Nq ?_
     refine CtF rfl ?_
     refine Sk ?_
     refine Pq ?_
     refine Sq ?_
     refine Sr ?_
     refine Y Mv ?_
     refine Nq ?_
     refine CtF rfl ?_
     refine Sk ?_
     refine Pq ?_
     refine Sq ?_
     refine Sr ?_
     refine Y Mv ?_
     refine Y Ln ?_
     refine Y Eq_ ?_
     refine Nq ?_
     refine Cp (fun h14 => ?_) fun h14 => ?_
     ·
      refine Sr ?_
      refine Cv (hs := sane_sp) (h := ?_)
      refine Y As ?_
      refine Nq ?_
      refine Rt ?_
      refine Rh ?_
      refine Rv [] ?_
      exact ⟨rfl, rfl⟩
     ·
      refine Sk ?_
      refine Pq ?_
      refine Sr ?_
      refine Y Mv ?_
      refine Y Mv ?_
      refine Y Mv ?_
      obtain ⟨x127, b127, o127, hx127, he127, hc127⟩ := SlZ.atF (fun x => parCells x) (fun _ _ h => h) hz51 0 (by omega)
      refine Y (IxY rfl rfl (by omega) he127) ?_
      refine Y Fa ?_
      refine Y Ld ?_
      obtain ⟨hpi, hlpi⟩ := par0 he0 hx127
      have hcb := bound_cw (up := true) hI hAb hcn hpi hbs
      refine D (Cf (hs := bound_w hld hn hlpi hbs)) ?_
      rintro _ _ ⟨_, ⟨e130, fv, sw, rfl, rfl⟩, rfl⟩
      refine FzI (Z := Z) fun Zy hzy hsy => ?_
      have hly := hld.up hzy
      refine Fz fun Zw hzw => ?_
      refine Y Mv ?_
      refine Y Xc ?_
      refine Y Xc ?_
      refine Y Xc ?_
      refine Y Xc ?_
      refine Y As ?_
      refine Y As ?_
      refine Y As ?_
      refine Y As ?_
      refine Nq ?_
      refine Sr ?_
      refine Y Mv ?_
      refine Y Mv ?_
      refine Y Mv ?_
      refine D (Cf (hs := checkWeights_sp (hl := hly) (hn := hn) (hx := hsy))) ?_
      rintro _ _ ⟨_, ⟨ok2, rfl, hok2, rfl⟩, rfl⟩
      refine Y Mv ?_
      refine Y Xc ?_
      refine Y Xc ?_
      refine Y As ?_
      refine Y As ?_
      refine Nq ?_
      refine Sr ?_
      have hk2 : ok2 = true := hok2.2 ⟨he0, hcb⟩
      subst hk2
      refine Cv (hs := sane_sp) (h := ?_)
      refine Y Mv ?_
      refine Gt rfl ?_
      refine Y Mv ?_
      refine Gt rfl ?_
      refine Y (EqK (a := 0) (b := 0) (v := true) (by decide)) ?_
      refine Y (PkT (hb := rfl)) ?_
      refine Y Mv ?_
      refine Gt rfl ?_
      refine Y Mv ?_
      refine Gt rfl ?_
      refine Y (EqK (a := lookE l known []) (b := 0) (v := true) (by simp [he0])) ?_
      refine Y (PkT (hb := rfl)) ?_
      refine Y Mv ?_
      refine Gt rfl ?_
      refine Y Mv ?_
      refine Y (PkT (hb := rfl)) ?_
      refine Y As ?_
      refine Nq ?_
      refine Rt ?_
      refine Rv [] ?_
      exact ⟨rfl, rfl⟩

end Go.Lag

/- A conflict as1 an argument. -/
namespace Go.Lag
open Go Go.RowKit Go.Proofs
set_option maxRecDepth 100000 in
theorem conf_zm {H : Type} {enc : TypeId × Value → H} {w : World} {spare : Nat → Bool} {held : Bool} {r : Go.Reach} {b0 : Nat} {v : Value} {d : DataW H} {p : List MemPlace} (hv : Value.okWide Tryz.prog w r b0 35 v) (h : DataW.Trod enc Tryz.prog w 0 spare held 35 v d p) :
    ∃ cp sv side, v = .agg #[.int .i64 cp, sv] ∧ SlZ (EI .i64) (hpOf w) sv side := by
  obtain ⟨v0, v1, y0, y1, n, rfl, _, _, h0, h1⟩ := Go.Joins.open_agg2 Tryz.underlying35 (by kernel_rfl) (by kernel_rfl) hv h
  obtain ⟨k, e, _⟩ := DataW.trod_int Tryz.underlying3 h0
  obtain ⟨side, hs⟩ := ints_zm h1
  simp at e
  subst e
  exact ⟨k, v1, side, rfl, hs⟩
end Go.Lag
