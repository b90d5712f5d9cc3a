/- Texts that the walks of package find lean on: part 6. -/
import Derived.Test.YtbbienodbjfgoaaGreatB5
set_option linter.unusedVariables false
set_option linter.unusedSimpArgs false

/- Balanced weights as1 they are checked: what each node gets and gives; nothing is lost. -/
namespace Go.Lag
open Go Go.RowKit
section
variable {r : Option Nat} {P : Program} {m : Nat} {l : Env} {H R : List Assn} {ty t : TypeId} {x y : Operand} {b : Nat} {mm : List (Int × Int)}
/-- The pair at which the iterator over a map of numbers stands. -/
theorem EnI {c : Nat} {vis : List (Int × Int)} {p : Int × Int} (hx : ev l x = some (ptr c 0) := by rfl)
    (hp : Assn.mi EN b c mm (vis ++ [p]) ∈ H := by repeat (first | exact List.Mem.head _ | refine List.Mem.tail _ ?_)) :
    DoesH r P (.entry x) ty l H fun v H' => ∃ u, v = .tuple #[.int .i64 p.1, u] ∧ u = .int .i64 p.2 ∧ H = H' := fun w hw => by
  obtain ⟨o, it, h1, h2, h3, h4⟩ := hw.all _ hp
  obtain ⟨v, q1, q2⟩ := y_entry (ty := ty) hx h3 h1 h2 h4
  exact q2.does ⟨_, ⟨v, rfl, q1, rfl⟩, hw⟩
end
def cw1 (m : List (Int × Int)) (a : Arc) (f : Int) : List (Int × Int) := aset (aset m a.to (gN m a.to + f)) a.from_ (gN (aset m a.to (gN m a.to + f)) a.from_ - f)
theorem gN_cw1 (m : List (Int × Int)) (a : Arc) (f w : Int) : gN (cw1 m a f) w = gN m w + ind (decide (a.to = w)) f - ind (decide (a.from_ = w)) f := by
  simp only [cw1, gN_aset, ind, decide_eq_true_eq]
  by_cases h1 : a.to = w
  · by_cases h2 : a.from_ = w
    · simp [h1, h2]
    · simp [h1, h2]
  · by_cases h2 : a.from_ = w
    · subst h2; simp [h1]
    · simp [h1, h2]
theorem netV_snoc {v : Int} : ∀ {A : List Arc} {fl : List Int} {a : Arc} {f : Int}, A.length = fl.length → netV v (A ++ [a]) (fl ++ [f]) = netV v A fl + ind (decide (a.to = v)) f - ind (decide (a.from_ = v)) f
  | [], [], a, f, _ => by simp [netV]
  | [], g :: fl, a, f, h => by simp at h
  | b :: A, [], a, f, h => by simp at h
  | b :: A, g :: fl, a, f, h => by
    have := netV_snoc (v := v) (A := A) (fl := fl) (a := a) (f := f) (by simpa using h)
    simp only [List.cons_append, netV, this]; omega
theorem cw_net {A : List Arc} {x : List Int} {i : Nat} {a : Arc} {f : Int} {mu : List (Int × Int)} (hl : x.length = A.length) (ha : A[i]? = some a) (hf : x[i]? = some f) (h : ∀ w, gN mu w = netV w (A.take i) (x.take i)) (w : Int) :
    gN (cw1 mu a f) w = netV w (A.take (i + 1)) (x.take (i + 1)) := by
  have hi := (List.getElem?_eq_some_iff.1 ha).1
  rw [take_get ha, take_get hf, netV_snoc (by simp; omega), gN_cw1, h w]
theorem cw_bnd {mu : List (Int × Int)} {i : Nat} {a : Arc} {f : Int} (h : ∀ w, -(200000000 * (i : Int)) ≤ gN mu w ∧ gN mu w ≤ 200000000 * (i : Int)) (hf : 0 ≤ f ∧ f ≤ 100000000) (w : Int) :
    -(200000000 * ((i + 1 : Nat) : Int)) ≤ gN (cw1 mu a f) w ∧ gN (cw1 mu a f) w ≤ 200000000 * ((i + 1 : Nat) : Int) := by
  have := h w
  rw [gN_cw1]
  simp only [ind]
  split <;> split <;> omega
/-- What CheckWeights accepts. -/
structure CwOk (A : List Arc) (x : List Int) : Prop where
  len : x.length = A.length
  fit : ∀ (j : Nat) (a : Arc) (f : Int), A[j]? = some a → x[j]? = some f → a.low ≤ f ∧ f ≤ a.high
  net : ∀ v, ¬ v = 0 → netV v A x = 0
def FitT (A : List Arc) (x : List Int) (i : Nat) : Prop := ∀ (j : Nat) (a : Arc) (f : Int), j < i → A[j]? = some a → x[j]? = some f → a.low ≤ f ∧ f ≤ a.high
theorem FitT.zero (A : List Arc) (x : List Int) : FitT A x 0 := fun j a f h => absurd h (Nat.not_lt_zero _)
theorem FitT.succ {A : List Arc} {x : List Int} {i : Nat} {a : Arc} {f : Int} (h : FitT A x i) (ha : A[i]? = some a) (hf : x[i]? = some f) (hb : inB f a.low a.high = true) : FitT A x (i + 1) := fun j b g hj hb' hg => by
  rcases Nat.lt_or_ge j i with h1 | h1
  · exact h j b g h1 hb' hg
  · obtain rfl : j = i := by omega
    rw [ha] at hb'; injection hb' with e; subst e
    rw [hf] at hg; injection hg with e; subst e
    exact inB_le hb
theorem cw_lenF {A : List Arc} {x : List Int} (h : ¬ x.length = A.length) : ¬ CwOk A x := fun q => h q.len
theorem cw_fitF {A : List Arc} {x : List Int} {i : Nat} {a : Arc} {f : Int} (ha : A[i]? = some a) (hf : x[i]? = some f) (hb : inB f a.low a.high = false) : ¬ CwOk A x := fun q => by
  have := q.fit i a f ha hf
  simp [inB] at hb
  omega
theorem cw_netF {A : List Arc} {x : List Int} {mu : List (Int × Int)} {p : Int × Int} (hn : (mu.map (·.1)).Nodup) (hp : p ∈ mu) (h : ∀ w, gN mu w = netV w A x) (h1 : ¬ p.1 = 0) (h2 : ¬ p.2 = 0) : ¬ CwOk A x := fun q => by
  have e := aget_of_mem hn hp
  have := h p.1
  rw [q.net _ h1] at this
  simp [gN, e] at this
  exact h2 this
theorem cw_ok {A : List Arc} {x : List Int} {mu vis : List (Int × Int)} (hl : x.length = A.length) (hf : FitT A x A.length) (hp : vis.Perm mu) (h : ∀ w, gN mu w = netV w A x) (hz : ∀ q ∈ vis, ¬ q.1 = 0 → q.2 = 0) : CwOk A x :=
  ⟨hl, fun j a f ha hf' => hf j a f (List.getElem?_eq_some_iff.1 ha).1 ha hf', fun v hv => by
    rw [← h v, gN]
    cases e : aget mu v with
    | none => rfl
    | some d => exact hz (v, d) (hp.mem_iff.2 (mem_of_aget e)) hv⟩
/-- All together nothing is lost: if every other node is balanced, so is 0. -/
theorem net_zero {A : List Arc} {x : List Int} {vs : List Int} (hn : vs.Nodup) (hv : ∀ a ∈ A, a.to ∈ vs ∧ a.from_ ∈ vs) (h : ∀ v, ¬ v = 0 → netV v A x = 0) : netV 0 A x = 0 := by
  have key : ∀ (A : List Arc) (x : List Int), (∀ a ∈ A, a.to ∈ vs ∧ a.from_ ∈ vs) → (vs.map fun v => netV v A x).sum = 0 := by
    have hz : ∀ vs : List Int, (vs.map fun _ => (0 : Int)).sum = 0 := by
      intro vs
      induction vs with
      | nil => rfl
      | cons z vs ih => rw [List.map_cons, List.sum_cons, ih]; rfl
    intro A
    induction A with
    | nil => intro x _; simp only [netV]; exact hz vs
    | cons a A ih =>
      intro x hA
      cases x with
      | nil => simp only [netV]; exact hz vs
      | cons f x =>
        have h1 := ih x fun b hb => hA b (List.mem_cons_of_mem _ hb)
        obtain ⟨ha1, ha2⟩ := hA a (List.mem_cons_self ..)
        have hone : ∀ (vs : List Int) (u : Int), vs.Nodup → (vs.map fun v => ind (decide (u = v)) f).sum = if u ∈ vs then f else 0 := by
          intro vs u hn
          induction vs with
          | nil => simp
          | cons z vs ih2 =>
            obtain ⟨hz, hn⟩ := List.nodup_cons.1 hn
            simp only [List.map_cons, List.sum_cons, ih2 hn]
            by_cases e : u = z
            · subst e; simp [ind, hz]
            · simp [ind, e]
        have hsplit : ∀ (vs : List Int), (vs.map fun v => netV v (a :: A) (f :: x)).sum = (vs.map fun v => ind (decide (a.to = v)) f).sum - (vs.map fun v => ind (decide (a.from_ = v)) f).sum + (vs.map fun v => netV v A x).sum := by
          intro vs
          induction vs with
          | nil => simp
          | cons z vs ih2 =>
            rw [List.map_cons, List.sum_cons, ih2, List.map_cons, List.sum_cons, List.map_cons, List.sum_cons, List.map_cons, List.sum_cons]
            simp only [netV]; omega
        rw [hsplit, h1, hone vs _ hn, hone vs _ hn, if_pos ha1, if_pos ha2]; omega
  by_cases h0 : (0 : Int) ∈ vs
  · have h1 := key A x hv
    have : ∀ (vs : List Int), vs.Nodup → (vs.map fun v => netV v A x).sum = if (0 : Int) ∈ vs then netV 0 A x else 0 := by
      intro vs hn
      induction vs with
      | nil => simp
      | cons z vs ih2 =>
        obtain ⟨hz, hn⟩ := List.nodup_cons.1 hn
        simp only [List.map_cons, List.sum_cons, ih2 hn]
        by_cases e : z = 0
        · subst e; simp [hz]
        · simp [h z e, Ne.symm e]
    rw [this vs hn, if_pos h0] at h1
    exact h1
  · exact net_out A x fun a ha => ⟨fun e => h0 (e ▸ (hv a ha).1), fun e => h0 (e ▸ (hv a ha).2)⟩
/-- What is found less what remains. -/
def keptN (ps : List Par) (x : List Int) (i : Nat) : Int := (List.range i).foldl (fun s j => s + (if ((ps[j]?).getD Par.zero).found then (x[j]?).getD 0 else 0) - (if ((ps[j]?).getD Par.zero).into = 0 then (x[j]?).getD 0 else 0)) 0
theorem keptN_succ (ps : List Par) (x : List Int) (i : Nat) : keptN ps x (i + 1) = keptN ps x i + (if ((ps[i]?).getD Par.zero).found then (x[i]?).getD 0 else 0) - (if ((ps[i]?).getD Par.zero).into = 0 then (x[i]?).getD 0 else 0) := by
  simp [keptN, List.range_succ]
def keptB (ps : List Par) (x : List Int) : Bool := decide (x.length = ps.length) && decide (keptN ps x ps.length = 0)
theorem kept_net {C : List Rep} (hI : Inv C) {x : List Int} (hl : x.length = (idsL C).length) : ∀ i, i ≤ (idsL C).length → keptN ((idsL C).map (parL C)) x i = - netV 0 ((arcsL C).take i) (x.take i)
  | 0, _ => by simp [keptN, netV]
  | i + 1, h => by
    have ih := kept_net hI hl i (by omega)
    obtain ⟨p, hp⟩ : ∃ p, (idsL C)[i]? = some p := ⟨_, List.getElem?_eq_getElem (by omega)⟩
    obtain ⟨f, hf⟩ : ∃ f, x[i]? = some f := ⟨_, List.getElem?_eq_getElem (by omega)⟩
    have hpi : p ∈ idsL C := List.mem_of_getElem? hp
    have ha : (arcsL C)[i]? = some (arcL C p) := by simp [arcsL, hp]
    have hal : (arcsL C).length = (idsL C).length := by simp [arcsL]
    rw [keptN_succ, take_get ha, take_get hf, netV_snoc (by simp; omega), ih]
    have hpar : (((idsL C).map (parL C))[i]?).getD Par.zero = parL C p := by simp [hp]
    rw [hpar, hf]
    simp only [Option.getD_some, arcL, ind, decide_eq_true_eq]
    have hfr : (parL C p).found = false → ¬ (parL C p).from_ = 0 := by
      intro _ e
      rw [parL_ids hpi] at e
      obtain ⟨y, hy⟩ := Option.isSome_iff_exists.1 (ids_mem hpi)
      have e : (mkOf C p).id = 0 := e
      rw [mkOf_some hy] at e
      have := rep_id (hI.rep y (maker_mem hy).1)
      omega
    by_cases hfd : (parL C p).found = true
    · by_cases hin : (parL C p).into = 0 <;> simp [hfd, hin] <;> omega
    · have hfd' : (parL C p).found = false := by simpa using hfd
      by_cases hin : (parL C p).into = 0 <;> simp [hfd', hfr hfd', hin] <;> omega
theorem kept_ok {C : List Rep} (hI : Inv C) {x : List Int} (h : CwOk (arcsL C) x) : keptB ((idsL C).map (parL C)) x = true := by
  have hal : (arcsL C).length = (idsL C).length := by simp [arcsL]
  have hl : x.length = (idsL C).length := h.len.trans hal
  have h1 := kept_net hI hl (idsL C).length (Nat.le_refl _)
  have h0 := net_zero (nodes_nodup hI) (arc_nodes hI) h.net
  rw [List.take_of_length_le (by omega), List.take_of_length_le (by omega), h0] at h1
  simp [keptB, hl, h1]
end Go.Lag

/- Nothing is lost: what the law on it asks. -/
namespace Go.Lag
open Go Go.RowKit
section
variable {P : Program} {l : Env} {H : List Assn} {ty t u : TypeId} {x y : Operand} {a b : Int} {v : Bool} {k : IntKind}
/-- Comparisons whose answer is known. -/
theorem NeK (he : (!decide (a = b)) = v) (hx : ev l x = some (.int k a) := by rfl) (hy : ev l y = some (.int k b) := by rfl) : YldH P (.binOp .neq t x y u) ty l H (.bool v) := he ▸ Ne_ hx hy
theorem EqK (he : decide (a = b) = v) (hx : ev l x = some (.int k a) := by rfl) (hy : ev l y = some (.int k b) := by rfl) : YldH P (.binOp .eql t x y u) ty l H (.bool v) := he ▸ Eq_ hx hy
end
theorem look_err {l : List Rep} {known p : Int} (h : ¬ lookE l known [] = 0) : lookE l known [p] = lookE l known [] := by
  rw [look_nil_e] at h ⊢
  unfold lookE; rw [if_pos h]
theorem look_nil0 {l : List Rep} {known p : Int} (h : lookE l known [p] = 0) : lookE l known [] = 0 := by rw [look_nil_e]; exact (look_mem h).1
theorem cw_fb {A : List Arc} {x : List Int} (h : CwOk A x) (hA : ABnd A) : FBnd x 100000000 := fun f hf => by
  obtain ⟨j, hj, rfl⟩ := List.getElem_of_mem hf
  have hl := h.len
  have h1 := h.fit j A[j] x[j] (by simp) (by simp)
  have h2 := hA A[j] (List.getElem_mem _)
  omega
theorem cw_of {A : List Arc} {fl : List Int} (h : FOk A fl) (hb : Bal A fl) : CwOk A fl :=
  ⟨h.1, fun j a f ha hf => by
    have hj := (List.getElem?_eq_some_iff.1 ha).1
    have := h.2 j hj
    simpa [aAt, fAt, ha, hf] using this, fun v _ => hb.2 v⟩
theorem bound_cw {C : List Rep} (hI : Inv C) (hA : ABnd (arcsL C)) (hC : C.length ≤ 1000) {p : Int} (hp : p ∈ idsL C) {up : Bool} {st : BSta} (hb : balOf C = some st) : CwOk (arcsL C) (boundN C p up st.1).1 := by
  obtain ⟨h1, h2⟩ := balOf_ok hI hA hC hb
  unfold boundN
  split
  · have h3 := raiseN_spec (arcI_ok hp) hA _ _ h1 h2 (Nat.lt_succ_self _)
    exact cw_of h3.1 h3.2.1
  · have h3 := sinkN_spec (arcI_ok hp) hA _ _ h1 h2 (Nat.lt_succ_self _)
    exact cw_of h3.1 h3.2.1
theorem kept_step {ps : List Par} {x : List Int} {i : Nat} {p : Par} {f s : Int} (h : s = keptN ps x i) (hp : ps[i]? = some p) (hf : x[i]? = some f) : s + (if p.found then f else 0) - (if p.into = 0 then f else 0) = keptN ps x (i + 1) := by
  rw [keptN_succ, ← h, hp, hf]; rfl
theorem kept_len {ps : List Par} {x : List Int} (h : keptB ps x = true) : x.length = ps.length := by
  simp only [keptB, Bool.and_eq_true, decide_eq_true_eq] at h; exact h.1
theorem kept_sum {ps : List Par} {x : List Int} (h : keptB ps x = true) : keptN ps x ps.length = 0 := by
  simp only [keptB, Bool.and_eq_true, decide_eq_true_eq] at h; exact h.2
end Go.Lag

namespace Go.Lag
open Go Go.RowKit Go.Proofs
set_option maxRecDepth 100000 in
set_option maxHeartbeats 4000000 in
theorem checkWeights_sp {Z : Hp} {l : List Rep} {lv : Value} (hl : SlZ (EZ Z) Z lv l := by assumption) {known : Int} (hn : l.length ≤ 1000 := by assumption) (hg : (checkE l).2 = 0 → GoodL (countL l known) := by first | assumption | exact good_of) (hab : (checkE l).2 = 0 → ABnd (arcsL (countL l known)) := by first | assumption | exact ab_of) {x : List Int} {xv : Value} (hx : SlZ (EI .i64) Z xv x := by assumption) : Sp Tryz.prog 50 [lv, .int .i64 known, xv] [.zm Z] fun v H' => ∃ ok, v = .tuple #[.bool ok, .int .i64 (lookE l known [])] ∧ (ok = true ↔ lookE l known [] = 0 ∧ CwOk (arcsL (countL l known)) x) ∧ H' = [] := by
 refine Sp.of 88 Tryz.func50 rfl rfl rfl ?_
 intro F
 have hxl := hx.len_le
 refine Sr ?_
 refine Y As ?_
 refine Y As ?_
 refine Nq ?_
 refine Sr ?_
 refine Y Mv ?_
 refine Y Mv ?_
 have hpn : SlZ (EI .i64) Z (.slice none 0 0) [] := SlZ.nil _ _
 refine D (Cf (hs := looks_sp (hl := hl) (hps := hpn))) ?_
 rintro _ _ ⟨_, ⟨Z19, bv19, hZ19, rfl, rfl, hb19, hc19⟩, rfl⟩
 refine Y Mv ?_
 refine Y Xc ?_
 refine Y Xc ?_
 refine Y As ?_
 refine Y As ?_
 refine Nq ?_
 refine Sq ?_
 refine Sr ?_
 refine Y Mv ?_
 refine Y Ne_ ?_
 refine Nq ?_
 refine Cn (fun h2 => ?_) fun h2 => ?_
 ·
  refine Sr ?_
  refine Y Mv ?_
  refine Y As ?_
  refine Y As ?_
  refine Nq ?_
  refine Rt ?_
  refine Rh ?_
  refine Rv2 [] ?_
  exact ⟨false, rfl, ⟨fun q => Bool.noConfusion q, fun q => absurd q.1 h2⟩, rfl⟩
 ·
  refine Sk ?_
  refine Pq ?_
  refine Sr ?_
  have hE := h2
  obtain ⟨b, s, iv, pb, rfl, hB⟩ := hb19 hE
  obtain ⟨hc0, hin⟩ := look_mem hE
  have hr := checked_rep hc0
  have hsm : ∀ x ∈ countL l known, Small x := fun y hy => (report_small (hr y (count_mem hy))).1
  have hml := maker_len hsm
  have hcl := count_len l known
  have hid := ids_len (countL l known)
  have hln : (countL l known).length ≤ 1000 := by omega
  have hil : (idsL (countL l known)).length ≤ 1000000 := by omega
  have hAb := hab hc0
  have hAn : (arcsL (countL l known)).length ≤ 1000000 := by simpa [arcsL] using hil
  have hx9 := hx.mono hZ19
  refine Y Mv ?_
  refine D (Cf (hs := graph_sp)) ?_
  rintro _ _ ⟨_, ⟨g, av, Za, rfl, hza, rfl⟩, rfl⟩
  refine Y As ?_
  refine Nq ?_
  refine Sq ?_
  refine Sr ?_
  refine Y Mv ?_
  refine Y Ln ?_
  refine Y Mv ?_
  refine Y Nc ?_
  refine Y Fa ?_
  refine Y Ld ?_
  refine Y Ln ?_
  refine Y Ne_ ?_
  refine Nq ?_
  refine Cn (fun h4 => ?_) fun h4 => ?_
  ·
   refine Sr ?_
   refine Y As ?_
   refine Y As ?_
   refine Nq ?_
   refine Rt ?_
   refine Rh ?_
   refine Rv2 [] ?_
   exact ⟨false, by rw [hE], ⟨fun q => Bool.noConfusion q, fun q => absurd q.2 (cw_lenF (by omega))⟩, rfl⟩
  ·
   refine Sk ?_
   refine Pq ?_
   refine Sr ?_
   have hlx : x.length = (arcsL (countL l known)).length := by have h_ := h4; omega
   refine D (Mm (EN)) ?_
   rintro _ _ ⟨m35, rfl, rfl⟩
   refine Y As ?_
   refine Nq ?_
   refine Sq ?_
   refine Sr ?_
   refine Y Mv ?_
   refine Y Nc ?_
   refine Y Fa ?_
   refine Y Ld ?_
   refine Y Ln ?_
   refine Y Mv ?_
   refine Nq ?_
   refine Bk ?_
   refine Lp (fun n_ l_ H_ => ∃ (i : Nat) (mu : List (Int × Int)), n_ = (arcsL (countL l known)).length - i ∧ l_ = [(2, xv), (10, ptr g 0), (11, .map (some m35)), (39, av), (40, .int .i64 ((arcsL (countL l known)).length : Int)), (41, .int .i64 (i : Int))] ∧ H_ = .mp EN m35 mu :: .cl g [av, .slice none 0 0] 213 :: .zm Za :: .zm Z19 :: F ∧ (i ≤ (arcsL (countL l known)).length) ∧ (FitT (arcsL (countL l known)) x i) ∧ (∀ w, gN mu w = netV w ((arcsL (countL l known)).take i) (x.take i)) ∧ (∀ w, -(200000000 * (i : Int)) ≤ gN mu w ∧ gN mu w ≤ 200000000 * (i : Int))) ⟨0, [], rfl, rfl, rfl, (by omega), (FitT.zero _ _), (fun w => by simp [gN, aget_nil, netV]), (by intro w; simp [gN, aget_nil])⟩ ⟨rfl, rfl, rfl, rfl, rfl, rfl, trivial⟩ ?_
   rintro _ _ _ ⟨i, mu, rfl, rfl, rfl, hi, hfit, hnet, hmb⟩
   refine Sr ?_
   refine Y Lt ?_
   refine Nq ?_
   refine Sq ?_
   refine Cp (fun h6 => ?_) fun h6 => ?_
   ·
    refine Sk ?_
    refine Pq ?_
    refine Sq ?_
    refine Bk ?_
    refine Sr ?_
    refine Y Mv ?_
    obtain ⟨x44, b44, o44, hx44, he44, hc44⟩ := SlZ.atF (fun x => arcCells x) (fun _ _ h => h) hza i (by omega)
    refine Y (IxY rfl rfl (by omega) he44) ?_
    refine Y LdN ?_
    refine Dal fun b13 => ?_
    refine Y As ?_
    refine Dsw ?_
    refine Nq ?_
    refine Sq ?_
    refine Drq (fun i => false) _ SubH.refl ?_
    obtain ⟨xi, bi, oi, hxi, hei, hci⟩ := SlZ.atF (fun x => [Value.int .i64 x]) (fun _ _ h => h) hx9 i (by omega)
    have hab := hAb _ (mem_get hx44)
    refine Tk 0 [] rfl Mv ?_
    refine Tk 1 [] rfl Mv ?_
    refine Tk 2 [] rfl (IxY rfl rfl (by omega) hei) ?_
    refine Tk 3 [] rfl Ld ?_
    refine Tk 4 [] rfl Fa ?_
    refine Tk 5 [] rfl Ld ?_
    refine Tk 6 [] rfl Fa ?_
    refine Tk 7 [] rfl Ld ?_
    refine Gx 8 rfl (Cf (hs := in_sp)) ?_
    rintro _ _ ⟨_, ⟨rfl, rfl⟩, rfl⟩
    refine ⟨fun _ => (by repeat (first | exact SubH.refl | exact SubH.nil | refine SubH.cons (by repeat (first | exact Pick.head | apply Pick.tail)) ?_ | refine SubH.skip ?_)), ?_⟩
    refine Tk 9 [] rfl Nt ?_
    refine Anq ?_
    refine Ct (fun h8 => ?_) fun h8 => ?_
    ·
     have h9 := nb_i h8
     refine Sr ?_
     refine Y As ?_
     refine Y As ?_
     refine Nq ?_
     refine Rt ?_
     refine Rh ?_
     refine Rb ?_
     refine Rh ?_
     refine Rh ?_
     refine Rb ?_
     refine Rh ?_
     refine Rv2 [] ?_
     exact ⟨false, by rw [hE], ⟨fun q => Bool.noConfusion q, fun q => absurd q.2 (cw_fitF hx44 hxi h9)⟩, rfl⟩
    ·
     have h10 := nb_g h8
     refine Sk ?_
     refine Pq ?_
     refine Drq (fun i => Nat.beq i 9) _ SubH.refl ?_
     have hin_ := h10
     have hib := inB_le hin_
     have hmt := hmb x44.to
     simp only [gN] at hmt
     refine Tk 0 [3, 8, 9] rfl Mv ?_
     refine Tk 1 [2, 3, 8, 9] rfl Fa ?_
     refine Tk 2 [3, 8, 9] rfl Ld ?_
     refine Tk 3 [8, 9] rfl LkN ?_
     refine Tk 4 [6, 7, 8, 9] rfl Mv ?_
     refine Tk 5 [6, 7, 8, 9] rfl Mv ?_
     refine Tk 6 [7, 8, 9] rfl (IxY rfl rfl (by omega) hei) ?_
     refine Tk 7 [8, 9] rfl Ld ?_
     refine Tk 8 [9] rfl Ad ?_
     refine Gxn 9 rfl (Mu (gN mu x44.to + xi)) ?_
     rintro _ _ rfl
     refine ⟨fun h_ => absurd h_ (by decide), ?_⟩
     refine Anq ?_
     refine Dr (fun i => Nat.beq i 9) _ SubH.refl ?_
     have hmf : -(200000000 * (i : Int)) - 100000000 ≤ gN (aset mu x44.to (gN mu x44.to + xi)) x44.from_ ∧ gN (aset mu x44.to (gN mu x44.to + xi)) x44.from_ ≤ 200000000 * (i : Int) + 100000000 := by have h1 := hmb x44.to; have h2 := hmb x44.from_; rw [gN_aset]; split <;> omega
     have hmf2 : -(200000000 * (i : Int)) - 100000000 ≤ (aget (aset mu x44.to (gN mu x44.to + xi)) x44.from_).getD 0 ∧ (aget (aset mu x44.to (gN mu x44.to + xi)) x44.from_).getD 0 ≤ 200000000 * (i : Int) + 100000000 := hmf
     refine Tk 0 [3, 8, 9] rfl Mv ?_
     refine Tk 1 [2, 3, 8, 9] rfl Fa ?_
     refine Tk 2 [3, 8, 9] rfl Ld ?_
     refine Tk 3 [8, 9] rfl LkN ?_
     refine Tk 4 [6, 7, 8, 9] rfl Mv ?_
     refine Tk 5 [6, 7, 8, 9] rfl Mv ?_
     refine Tk 6 [7, 8, 9] rfl (IxY rfl rfl (by omega) hei) ?_
     refine Tk 7 [8, 9] rfl Ld ?_
     refine Tk 8 [9] rfl Su ?_
     refine Gxn 9 rfl (Mu (gN (aset mu x44.to (gN mu x44.to + xi)) x44.from_ - xi)) ?_
     rintro _ _ rfl
     refine ⟨fun h_ => absurd h_ (by decide), ?_⟩
     refine An ?_
     refine Pb ?_
     refine Pq ?_
     refine Rg ?_
     refine Y Ad ?_
     refine Y Mv ?_
     refine Nl ?_
     refine Re ⟨(i + 1), (cw1 mu x44 xi), rfl, rfl, rfl, (by omega), (hfit.succ hx44 hxi hin_), (cw_net hlx hx44 hxi hnet), (cw_bnd hmb ⟨by omega, by omega⟩)⟩ (by omega) ⟨rfl, rfl, rfl, rfl, rfl, rfl, trivial⟩
   ·
    refine Ex ?_
    refine Xt ?_
    refine Xt ?_
    refine Xb ?_
    refine Pq ?_
    refine Sq ?_
    refine Sr ?_
    have hie : i = (arcsL (countL l known)).length := by omega
    subst hie
    have hnetA : ∀ w, gN mu w = netV w (arcsL (countL l known)) x := fun w => by have h_ := hnet w; rwa [List.take_of_length_le (Nat.le_refl _), List.take_of_length_le (by omega)] at h_
    have hfitA := hfit
    refine NdR m35 (fun hnd => ?_)
    refine Y Mv ?_
    refine D Ra ?_
    rintro _ _ ⟨c76, rfl, rfl⟩
    refine Nq ?_
    refine Bk ?_
    refine Lp (fun n_ l_ H_ => ∃ (vis : List (Int × Int)), n_ = mu.length - vis.length ∧ l_ = [(76, ptr c76 0)] ∧ H_ = .mi EN m35 c76 mu vis :: .cl g [av, .slice none 0 0] 213 :: .zm Za :: .zm Z19 :: F ∧ (vis.Nodup) ∧ (∀ q ∈ vis, q ∈ mu) ∧ (∀ q ∈ vis, ¬ q.1 = 0 → q.2 = 0)) ⟨[], rfl, rfl, rfl, (by simp), (by simp), (by simp)⟩ ⟨rfl, trivial⟩ ?_
    rintro _ _ _ ⟨vis, rfl, rfl, rfl, hvn, hvs, hvz⟩
    refine Sr ?_
    refine D Nx ?_
    rintro _ _ (⟨hp77, rfl, rfl⟩ | ⟨p77, u77, hm77, hn77, hu77, rfl, rfl⟩)
    ·
     refine Y Xc ?_
     refine Nq ?_
     refine Sq ?_
     refine CtF rfl ?_
     refine Ex ?_
     refine Xt ?_
     refine Xt ?_
     refine Xb ?_
     refine Pq ?_
     refine Sr ?_
     refine Y As ?_
     refine Y As ?_
     refine Nq ?_
     refine Rt ?_
     refine Rv2 [] ?_
     exact ⟨true, by rw [hE], ⟨fun _ => ⟨hE, cw_ok hlx hfitA hp77 hnetA hvz⟩, fun _ => rfl⟩, rfl⟩
    ·
     refine Y Xc ?_
     refine Nq ?_
     refine Sq ?_
     refine CtT rfl ?_
     refine Sk ?_
     refine Pq ?_
     refine Bk ?_
     refine Sr ?_
     refine D EnI ?_
     rintro _ _ ⟨u79, rfl, rfl, rfl⟩
     refine Y Xc ?_
     refine Y Xc ?_
     refine Y As ?_
     refine Y As ?_
     refine Nq ?_
     refine Sr ?_
     refine Y Mv ?_
     refine Y Ne_ ?_
     refine Y Mv ?_
     refine Ga 2 2 true 86 (fun h12 => by
      refine Yg h12 Mv ?_
      refine Yg h12 Ne_ ?_
      exact Gg) ?_
     refine Y PkA ?_
     refine Nq ?_
     refine Ct (fun h15 => ?_) fun h15 => ?_
     ·
      refine Sr ?_
      refine Y As ?_
      refine Y As ?_
      refine Nq ?_
      refine Rt ?_
      refine Rb ?_
      refine Rh ?_
      refine Rb ?_
      refine Rh ?_
      have hbad := h15
      simp only [Bool.and_eq_true, Bool.not_eq_true', decide_eq_false_iff_not] at hbad
      refine Rv2 [] ?_
      exact ⟨false, by rw [hE], ⟨fun q => Bool.noConfusion q, fun q => absurd q.2 (cw_netF hnd hm77 hnetA hbad.1 hbad.2)⟩, rfl⟩
     ·
      refine Sk ?_
      refine Pb ?_
      refine Re ⟨(vis ++ [p77]), rfl, rfl, rfl, (vis_nd hvn hn77), (vis_sub hvs hm77), (by have h_ := h15; intro q hq h0; rcases List.mem_append.1 hq with hq | hq; exact hvz q hq h0; simp at hq; subst hq; simpa [h0] using h_)⟩ (by have h1 := vis_lt hvn hvs hm77 hn77; simp only [List.length_append, List.length_cons, List.length_nil]; omega) ⟨rfl, trivial⟩

end Go.Lag

namespace Go.Lag
open Go Go.RowKit Go.Proofs
set_option maxRecDepth 100000 in
set_option maxHeartbeats 4000000 in
theorem kept_sp {Z Z2 : Hp} {ps : List Par} {x : List Int} {sv tv : Value} (hx : SlZ EPr Z sv ps) (hy : SlZ (EI .i64) Z2 tv x) (hk : keptB ps x = true) (hfb : FBnd x 100000000) (hpl : ps.length ≤ 1000000) : SpV Tryz.prog 60 [sv, tv] [.zm Z, .zm Z2] (.bool true) := by
 refine Sp.of 43 Tryz.func60 rfl rfl rfl ?_
 intro F
 have hlx := kept_len hk
 refine Sr ?_
 refine Y As ?_
 refine Nq ?_
 refine Sq ?_
 refine Sr ?_
 refine Y Mv ?_
 refine Y Ln ?_
 refine Y Mv ?_
 refine Y Ln ?_
 refine Y (NeK (a := (x.length : Int)) (b := (ps.length : Int)) (v := false) (by simp [hlx])) ?_
 refine Nq ?_
 refine CtF rfl ?_
 refine Sk ?_
 refine Pq ?_
 refine Sr ?_
 refine Y As ?_
 refine Nq ?_
 refine Sq ?_
 refine Sr ?_
 refine Y As ?_
 refine Nq ?_
 refine Bk ?_
 refine Lp (fun n_ l_ H_ => ∃ (i : Nat) (sm : Int), n_ = ps.length - i ∧ l_ = [(0, sv), (1, tv), (5, .int .i64 sm), (6, .int .i64 (i : Int))] ∧ H_ = .zm Z :: .zm Z2 :: F ∧ (i ≤ ps.length) ∧ (sm = keptN ps x i) ∧ (-(200000000 * (i : Int)) ≤ sm ∧ sm ≤ 200000000 * (i : Int))) ⟨0, 0, rfl, rfl, rfl, (by omega), rfl, (by simp)⟩ ⟨rfl, rfl, rfl, rfl, trivial⟩ ?_
 rintro _ _ _ ⟨i, sm, rfl, rfl, rfl, hi, hs, hb⟩
 refine Sq ?_
 refine Sr ?_
 refine Y Mv ?_
 refine Y Mv ?_
 refine Y Ln ?_
 refine Y Lt ?_
 refine Nq ?_
 refine Cp (fun h2 => ?_) fun h2 => ?_
 ·
  refine Sk ?_
  refine Pq ?_
  refine Sq ?_
  refine Bk ?_
  refine Sq ?_
  refine Sr ?_
  obtain ⟨xi, bi, oi, hxi, hei, hci⟩ := SlZ.atF (fun x => [Value.int .i64 x]) (fun _ _ h => h) hy i (by omega)
  obtain ⟨xp, bp, op_, hxp, hep, hcp⟩ := SlZ.atF (fun x => parCells x) (fun _ _ h => h) hx i (by omega)
  have hfx := hfb _ (mem_get hxi)
  have hst := kept_step hs hxp hxi
  refine Y Mv ?_
  refine Y Mv ?_
  refine Y (IxY rfl rfl (by omega) hep) ?_
  refine Y Fa ?_
  refine Y Ld ?_
  refine Nq ?_
  refine Ct (fun h4 => ?_) fun h4 => ?_
  ·
   refine Rg ?_
   refine Y Mv ?_
   refine Y Mv ?_
   refine Y Mv ?_
   refine Y (IxY rfl rfl (by omega) hei) ?_
   refine Y Ld ?_
   refine Y Ad ?_
   refine Y As ?_
   refine Nl ?_
   refine Pq ?_
   refine Sr ?_
   refine Y Mv ?_
   refine Y Mv ?_
   refine Y (IxY rfl rfl (by omega) hep) ?_
   refine Y Fa ?_
   refine Y Ld ?_
   refine Y Eq_ ?_
   refine Nq ?_
   refine Cp (fun h6 => ?_) fun h6 => ?_
   ·
    refine Rg ?_
    refine Y Mv ?_
    refine Y Mv ?_
    refine Y Mv ?_
    refine Y (IxY rfl rfl (by omega) hei) ?_
    refine Y Ld ?_
    refine Y Su ?_
    refine Y As ?_
    refine Nl ?_
    refine Pb ?_
    refine Pq ?_
    refine Rg ?_
    refine Y Mv ?_
    refine Y Ad ?_
    refine Y As ?_
    refine Nl ?_
    refine Re ⟨(i + 1), _, rfl, rfl, rfl, (by omega), (by rw [← hst]; simp [h4, h6]), (by omega)⟩ (by omega) ⟨rfl, rfl, rfl, rfl, trivial⟩
   ·
    refine Sk ?_
    refine Pb ?_
    refine Pq ?_
    refine Rg ?_
    refine Y Mv ?_
    refine Y Ad ?_
    refine Y As ?_
    refine Nl ?_
    refine Re ⟨(i + 1), _, rfl, rfl, rfl, (by omega), (by rw [← hst]; simp [h4, h6]), (by omega)⟩ (by omega) ⟨rfl, rfl, rfl, rfl, trivial⟩
  ·
   refine Sk ?_
   refine Pq ?_
   refine Sr ?_
   refine Y Mv ?_
   refine Y Mv ?_
   refine Y (IxY rfl rfl (by omega) hep) ?_
   refine Y Fa ?_
   refine Y Ld ?_
   refine Y Eq_ ?_
   refine Nq ?_
   refine Cp (fun h8 => ?_) fun h8 => ?_
   ·
    refine Rg ?_
    refine Y Mv ?_
    refine Y Mv ?_
    refine Y Mv ?_
    refine Y (IxY rfl rfl (by omega) hei) ?_
    refine Y Ld ?_
    refine Y Su ?_
    refine Y As ?_
    refine Nl ?_
    refine Pb ?_
    refine Pq ?_
    refine Rg ?_
    refine Y Mv ?_
    refine Y Ad ?_
    refine Y As ?_
    refine Nl ?_
    refine Re ⟨(i + 1), _, rfl, rfl, rfl, (by omega), (by rw [← hst]; simp [h4, h8]), (by omega)⟩ (by omega) ⟨rfl, rfl, rfl, rfl, trivial⟩
   ·
    refine Sk ?_
    refine Pb ?_
    refine Pq ?_
    refine Rg ?_
    refine Y Mv ?_
    refine Y Ad ?_
    refine Y As ?_
    refine Nl ?_
    refine Re ⟨(i + 1), _, rfl, rfl, rfl, (by omega), (by rw [← hst]; simp [h4, h8]), (by omega)⟩ (by omega) ⟨rfl, rfl, rfl, rfl, trivial⟩
 ·
  refine Ex ?_
  refine Xt ?_
  refine Xt ?_
  refine Xb ?_
  refine Pq ?_
  refine Sr ?_
  refine Y Mv ?_
  refine Y Eq_ ?_
  refine Y As ?_
  refine Nq ?_
  refine Rt ?_
  rw [show i = ps.length from by omega, kept_sum hk] at hs
  subst hs
  refine Rv [] ?_
  exact ⟨rfl, rfl⟩

end Go.Lag

namespace Go.Lag
open Go Go.RowKit Go.Proofs
set_option maxRecDepth 100000 in
set_option maxHeartbeats 4000000 in
theorem findNothing_sp {Z : Hp} {l : List Rep} {lv : Value} (hl : SlZ (EZ Z) Z lv l) {known : Int} {x : List Int} {xv : Value} (hx : SlZ (EI .i64) Z xv x) {p : Int} {up : Bool} : SpV Tryz.prog 13 [lv, .int .i64 known, xv, .int .i64 p, .bool up] [.zm Z] (.bool true) := by
 refine Sp.of 80 Tryz.func13 rfl rfl rfl ?_
 intro F
 have hxl := hx.len_le
 refine Sr ?_
 refine Y As ?_
 refine Nq ?_
 refine Sq ?_
 refine Sr ?_
 refine Y Mv ?_
 refine Cv (hs := few_sp) (h := ?_)
 refine Y Nt ?_
 refine Y Mv ?_
 refine Ga 3 3 false 25 (fun h2 => by
  refine Yg h2 Mv ?_
  refine Yg h2 Ln ?_
  refine Yg h2 Gr ?_
  exact Gg) ?_
 refine Y PkO ?_
 refine Nq ?_
 refine Ct (fun h5 => ?_) fun h5 => ?_
 ·
  refine Sr ?_
  refine Cv (hs := sane_sp) (h := ?_)
  refine Y As ?_
  refine Nq ?_
  refine Rt ?_
  refine Rh ?_
  refine Rv [] ?_
  exact ⟨rfl, rfl⟩
 ·
  refine Sk ?_
  refine Pq ?_
  refine Sr ?_
  have hfw := h5
  simp only [Bool.or_eq_false_iff, Bool.not_eq_false'] at hfw
  have hn : l.length ≤ 1000 := Nat.le_trans (few_len (by omega) hfw.1) (by omega)
  refine Y Mv ?_
  refine Y Mv ?_
  refine D (Cf (hs := parcels_sp (hl := hl) (hn := hn))) ?_
  rintro _ _ ⟨_, ⟨pv31, rfl, rfl⟩, rfl⟩
  refine Fz fun Z31 hz31 => ?_
  refine Y Mv ?_
  refine Y Xc ?_
  refine Y Xc ?_
  refine Y As ?_
  refine Y As ?_
  refine Nq ?_
  refine Sr ?_
  refine Y Mv ?_
  refine Y Mv ?_
  refine Y Mv ?_
  refine Y Mv ?_
  refine D (Cf (hs := Bound_sp (hl := hl) (hn := hn) (p := p) (up := up))) ?_
  rintro _ _ ⟨_, (⟨hlp, rfl, rfl⟩ | ⟨hlp, hbn, rfl, rfl⟩ | ⟨hlp, bst, fv, sv, hbo, hok, rfl, rfl⟩), rfl⟩
  ·
   refine Y Mv ?_
   refine Y Xc ?_
   refine Y Xc ?_
   refine Y Xc ?_
   refine Y Xc ?_
   refine Y As ?_
   refine Y As ?_
   refine Y As ?_
   refine Y As ?_
   refine Nq ?_
   refine Sq ?_
   refine Sr ?_
   refine Y Mv ?_
   refine Y Ne_ ?_
   refine Nq ?_
   refine Cn (fun h7 => ?_) fun h7 => ?_
   ·
    refine Sr ?_
    refine Cv (hs := sane_sp) (h := ?_)
    refine Y Mv ?_
    refine Gt rfl ?_
    refine Y Mv ?_
    refine Gt rfl ?_
    refine Y Mv ?_
    refine Gt rfl ?_
    refine Y (EqK (a := lookE l known [p]) (b := lookE l known []) (v := true) (by simp [look_err h7])) ?_
    refine Y (PkT (hb := rfl)) ?_
    refine Y As ?_
    refine Nq ?_
    refine Rt ?_
    refine Rh ?_
    refine Rv [] ?_
    exact ⟨rfl, rfl⟩
   ·
    refine Sk ?_
    refine Pq ?_
    refine Sr ?_
    have he0 : lookE l known [] = 0 := h7
    have hc0 := (look_mem he0).1
    have hI := (checked hc0).inv known
    have hAb : ABnd (arcsL (countL l known)) := ab_of hc0
    have hr := checked_rep hc0
    have hsm : ∀ x ∈ (countL l known), Small x := fun y hy => (report_small (hr y (count_mem hy))).1
    have hml := maker_len hsm
    have hcl := count_len l known
    have hid := ids_len (countL l known)
    have hpl : ((idsL (countL l known)).map (parL (countL l known))).length ≤ 1000000 := by rw [List.length_map]; omega
    have hcn : (countL l known).length ≤ 1000 := by omega
    rw [if_pos he0] at hz31
    refine Y Mv ?_
    refine Y Mv ?_
    refine Y Mv ?_
    refine D (Cf (hs := checkWeights_sp (hl := hl) (hn := hn) (hx := hx))) ?_
    rintro _ _ ⟨_, ⟨ok, rfl, hokx, rfl⟩, rfl⟩
    refine Y Mv ?_
    refine Y Xc ?_
    refine Y Xc ?_
    refine Y As ?_
    refine Y As ?_
    refine Nq ?_
    refine Sq ?_
    refine Sr ?_
    refine Y Mv ?_
    refine Y (NeK (a := lookE l known []) (b := 0) (v := false) (by simp [he0])) ?_
    refine Nq ?_
    refine CtF rfl ?_
    refine Sk ?_
    refine Pq ?_
    refine Sr ?_
    refine Cv (hs := sane_sp) (h := ?_)
    refine Y Mv ?_
    refine Gt rfl ?_
    refine Y Mv ?_
    refine Gt rfl ?_
    refine Y Nt ?_
    refine Gt rfl ?_
    refine Y Mv ?_
    refine GcB 63 (fun h8 => ?_) fun h8 => ?_
    ·
     refine Gt (nb_f h8) ?_
     refine Y Mv ?_
     refine Gt (nb_f h8) ?_
     refine Y Mv ?_
     refine Gt (nb_f h8) ?_
     refine Cv (hs := kept_sp (hx := hz31) (hy := hx) (hk := kept_ok hI (hokx.1 h8).2) (hfb := cw_fb (hokx.1 h8).2 hAb) (hpl := hpl)) (h := ?_)
     refine Gt rfl ?_
     refine Y (PkF (hb := nb_f h8)) ?_
     refine Y (PkT (hb := rfl)) ?_
     refine Y Mv ?_
     refine Gt rfl ?_
     refine Y Mv ?_
     refine Gt rfl ?_
     refine Y (NeK (a := lookE l known [p]) (b := 0) (v := true) (by simp [hlp])) ?_
     refine Gt rfl ?_
     refine Y Mv ?_
     refine Gf rfl ?_
     refine Gf rfl ?_
     refine Gf rfl ?_
     refine Gt rfl ?_
     refine Y (PkT (hb := rfl)) ?_
     refine Y (PkT (hb := rfl)) ?_
     refine Y As ?_
     refine Nq ?_
     refine Rt ?_
     refine Rv [] ?_
     exact ⟨rfl, rfl⟩
    ·
     refine Gf (nb_t h8) ?_
     refine Gf (nb_t h8) ?_
     refine Gf (nb_t h8) ?_
     refine Gt rfl ?_
     refine Y (PkT (hb := nb_t h8)) ?_
     refine Y (PkT (hb := rfl)) ?_
     refine Y Mv ?_
     refine Gt rfl ?_
     refine Y Mv ?_
     refine Gt rfl ?_
     refine Y (NeK (a := lookE l known [p]) (b := 0) (v := true) (by simp [hlp])) ?_
     refine Gt rfl ?_
     refine Y Mv ?_
     refine Gf rfl ?_
     refine Gf rfl ?_
     refine Gf rfl ?_
     refine Gt rfl ?_
     refine Y (PkT (hb := rfl)) ?_
     refine Y (PkT (hb := rfl)) ?_
     refine Y As ?_
     refine Nq ?_
     refine Rt ?_
     refine Rv [] ?_
     exact ⟨rfl, rfl⟩
  ·
   refine Y Mv ?_
   refine Y Xc ?_
   refine Y Xc ?_
   refine Y Xc ?_
   refine Y Xc ?_
   refine Y As ?_
   refine Y As ?_
   refine Y As ?_
   refine Y As ?_
   refine Nq ?_
   refine Sq ?_
   refine Sr ?_
   refine Y Mv ?_
   refine Y (NeK (a := lookE l known []) (b := 0) (v := false) (by simp [look_nil0 hlp])) ?_
   refine Nq ?_
   refine CtF rfl ?_
   refine Sk ?_
   refine Pq ?_
   refine Sr ?_
   have he0 : lookE l known [] = 0 := look_nil0 hlp
   have hc0 := (look_mem he0).1
   have hI := (checked hc0).inv known
   have hAb : ABnd (arcsL (countL l known)) := ab_of hc0
   have hr := checked_rep hc0
   have hsm : ∀ x ∈ (countL l known), Small x := fun y hy => (report_small (hr y (count_mem hy))).1
   have hml := maker_len hsm
   have hcl := count_len l known
   have hid := ids_len (countL l known)
   have hpl : ((idsL (countL l known)).map (parL (countL l known))).length ≤ 1000000 := by rw [List.length_map]; omega
   have hcn : (countL l known).length ≤ 1000 := by omega
   rw [if_pos he0] at hz31
   refine Y Mv ?_
   refine Y Mv ?_
   refine Y Mv ?_
   refine D (Cf (hs := checkWeights_sp (hl := hl) (hn := hn) (hx := hx))) ?_
   rintro _ _ ⟨_, ⟨ok, rfl, hokx, rfl⟩, rfl⟩
   refine Y Mv ?_
   refine Y Xc ?_
   refine Y Xc ?_
   refine Y As ?_
   refine Y As ?_
   refine Nq ?_
   refine Sq ?_
   refine Sr ?_
   refine Y Mv ?_
   refine Y (NeK (a := lookE l known []) (b := 0) (v := false) (by simp [he0])) ?_
   refine Nq ?_
   refine CtF rfl ?_
   refine Sk ?_
   refine Pq ?_
   refine Sr ?_
   refine Cv (hs := sane_sp) (h := ?_)
   refine Y Mv ?_
   refine Gt rfl ?_
   refine Y Mv ?_
   refine Gt rfl ?_
   refine Y Nt ?_
   refine Gt rfl ?_
   refine Y Mv ?_
   refine GcB 63 (fun h9 => ?_) fun h9 => ?_
   ·
    refine Gt (nb_f h9) ?_
    refine Y Mv ?_
    refine Gt (nb_f h9) ?_
    refine Y Mv ?_
    refine Gt (nb_f h9) ?_
    refine Cv (hs := kept_sp (hx := hz31) (hy := hx) (hk := kept_ok hI (hokx.1 h9).2) (hfb := cw_fb (hokx.1 h9).2 hAb) (hpl := hpl)) (h := ?_)
    refine Gt rfl ?_
    refine Y (PkF (hb := nb_f h9)) ?_
    refine Y (PkT (hb := rfl)) ?_
    refine Y Mv ?_
    refine Gt rfl ?_
    refine Y Mv ?_
    refine Gt rfl ?_
    refine Y (NeK (a := 32) (b := 0) (v := true) (by decide)) ?_
    refine Gt rfl ?_
    refine Y Mv ?_
    refine Gf rfl ?_
    refine Gf rfl ?_
    refine Gf rfl ?_
    refine Gt rfl ?_
    refine Y (PkT (hb := rfl)) ?_
    refine Y (PkT (hb := rfl)) ?_
    refine Y As ?_
    refine Nq ?_
    refine Rt ?_
    refine Rv [] ?_
    exact ⟨rfl, rfl⟩
   ·
    refine Gf (nb_t h9) ?_
    refine Gf (nb_t h9) ?_
    refine Gf (nb_t h9) ?_
    refine Gt rfl ?_
    refine Y (PkT (hb := nb_t h9)) ?_
    refine Y (PkT (hb := rfl)) ?_
    refine Y Mv ?_
    refine Gt rfl ?_
    refine Y Mv ?_
    refine Gt rfl ?_
    refine Y (NeK (a := 32) (b := 0) (v := true) (by decide)) ?_
    refine Gt rfl ?_
    refine Y Mv ?_
    refine Gf rfl ?_
    refine Gf rfl ?_
    refine Gf rfl ?_
    refine Gt rfl ?_
    refine Y (PkT (hb := rfl)) ?_
    refine Y (PkT (hb := rfl)) ?_
    refine Y As ?_
    refine Nq ?_
    refine Rt ?_
    refine Rv [] ?_
    exact ⟨rfl, rfl⟩
  ·
   refine Fz fun Zy hzy => ?_
   refine Fz fun Zw hzw => ?_
   refine Y Mv ?_
   refine Y Xc ?_
   refine Y Xc ?_
   refine Y Xc ?_
   refine Y Xc ?_
   refine Y As ?_
   refine Y As ?_
   refine Y As ?_
   refine Y As ?_
   refine Nq ?_
   refine Sq ?_
   refine Sr ?_
   refine Y Mv ?_
   refine Y (NeK (a := lookE l known []) (b := 0) (v := false) (by simp [look_nil0 hlp])) ?_
   refine Nq ?_
   refine CtF rfl ?_
   refine Sk ?_
   refine Pq ?_
   refine Sr ?_
   have he0 : lookE l known [] = 0 := look_nil0 hlp
   have hc0 := (look_mem he0).1
   have hI := (checked hc0).inv known
   have hAb : ABnd (arcsL (countL l known)) := ab_of hc0
   have hr := checked_rep hc0
   have hsm : ∀ x ∈ (countL l known), Small x := fun y hy => (report_small (hr y (count_mem hy))).1
   have hml := maker_len hsm
   have hcl := count_len l known
   have hid := ids_len (countL l known)
   have hpl : ((idsL (countL l known)).map (parL (countL l known))).length ≤ 1000000 := by rw [List.length_map]; omega
   have hcn : (countL l known).length ≤ 1000 := by omega
   rw [if_pos he0] at hz31
   have hcb := bound_cw (up := up) hI hAb hcn ((look_mem hlp).2 p (by simp)) hbo
   refine Y Mv ?_
   refine Y Mv ?_
   refine Y Mv ?_
   refine D (Cf (hs := checkWeights_sp (hl := hl) (hn := hn) (hx := hx))) ?_
   rintro _ _ ⟨_, ⟨ok, rfl, hokx, rfl⟩, rfl⟩
   refine Y Mv ?_
   refine Y Xc ?_
   refine Y Xc ?_
   refine Y As ?_
   refine Y As ?_
   refine Nq ?_
   refine Sq ?_
   refine Sr ?_
   refine Y Mv ?_
   refine Y (NeK (a := lookE l known []) (b := 0) (v := false) (by simp [he0])) ?_
   refine Nq ?_
   refine CtF rfl ?_
   refine Sk ?_
   refine Pq ?_
   refine Sr ?_
   refine Cv (hs := sane_sp) (h := ?_)
   refine Y Mv ?_
   refine Gt rfl ?_
   refine Y Mv ?_
   refine Gt rfl ?_
   refine Y Nt ?_
   refine Gt rfl ?_
   refine Y Mv ?_
   refine GcB 63 (fun h10 => ?_) fun h10 => ?_
   ·
    refine Gt (nb_f h10) ?_
    refine Y Mv ?_
    refine Gt (nb_f h10) ?_
    refine Y Mv ?_
    refine Gt (nb_f h10) ?_
    refine Cv (hs := kept_sp (hx := hz31) (hy := hx) (hk := kept_ok hI (hokx.1 h10).2) (hfb := cw_fb (hokx.1 h10).2 hAb) (hpl := hpl)) (h := ?_)
    refine Gt rfl ?_
    refine Y (PkF (hb := nb_f h10)) ?_
    refine Y (PkT (hb := rfl)) ?_
    refine Y Mv ?_
    refine Gt rfl ?_
    refine Y Mv ?_
    refine Gt rfl ?_
    refine Y (NeK (a := 0) (b := 0) (v := false) (by decide)) ?_
    refine Gt rfl ?_
    refine Y Mv ?_
    refine Gt rfl ?_
    refine Y Mv ?_
    refine Gt rfl ?_
    refine Y Mv ?_
    refine Gt rfl ?_
    refine Cv (hs := kept_sp (hx := hz31) (hy := hzy) (hk := kept_ok hI hcb) (hfb := cw_fb hcb hAb) (hpl := hpl)) (h := ?_)
    refine Gt rfl ?_
    refine Y (PkF (hb := rfl)) ?_
    refine Y (PkT (hb := rfl)) ?_
    refine Y As ?_
    refine Nq ?_
    refine Rt ?_
    refine Rv [] ?_
    exact ⟨rfl, rfl⟩
   ·
    refine Gf (nb_t h10) ?_
    refine Gf (nb_t h10) ?_
    refine Gf (nb_t h10) ?_
    refine Gt rfl ?_
    refine Y (PkT (hb := nb_t h10)) ?_
    refine Y (PkT (hb := rfl)) ?_
    refine Y Mv ?_
    refine Gt rfl ?_
    refine Y Mv ?_
    refine Gt rfl ?_
    refine Y (NeK (a := 0) (b := 0) (v := false) (by decide)) ?_
    refine Gt rfl ?_
    refine Y Mv ?_
    refine Gt rfl ?_
    refine Y Mv ?_
    refine Gt rfl ?_
    refine Y Mv ?_
    refine Gt rfl ?_
    refine Cv (hs := kept_sp (hx := hz31) (hy := hzy) (hk := kept_ok hI hcb) (hfb := cw_fb hcb hAb) (hpl := hpl)) (h := ?_)
    refine Gt rfl ?_
    refine Y (PkF (hb := rfl)) ?_
    refine Y (PkT (hb := rfl)) ?_
    refine Y As ?_
    refine Nq ?_
    refine Rt ?_
    refine Rv [] ?_
    exact ⟨rfl, rfl⟩

end Go.Lag
