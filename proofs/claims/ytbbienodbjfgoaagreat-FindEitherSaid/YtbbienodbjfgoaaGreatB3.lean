/- Texts that the walks of package find lean on: part 3. -/
import Derived.Scope
import Derived.Test.YtbbienodbjfgoaaGreatB2
set_option linter.unusedVariables false
set_option linter.unusedSimpArgs false

namespace Go.Lag
open Go Go.RowKit Go.Proofs
set_option maxRecDepth 100000 in
set_option maxHeartbeats 4000000 in
theorem looks_sp {Z : Hp} {l : List Rep} {lv : Value} (hl : SlZ (EZ Z) Z lv l := by assumption) {ps : List Int} {psv : Value} (hps : SlZ (EI .i64) Z psv ps := by assumption) {known : Int} (hn : l.length ≤ 1000 := by assumption) (hg : (checkE l).2 = 0 → GoodL (countL l known) := by first | assumption | exact good_of) : Sp Tryz.prog 71 [lv, .int .i64 known, psv] [.zm Z] fun v H' => ∃ Z' bv, ZLe Z Z' ∧ H' = [.zm Z'] ∧ v = .tuple #[bv, .int .i64 (lookE l known ps)] ∧ (lookE l known ps = 0 → ∃ b s iv pb, bv = ptr b 0 ∧ BeaZ Z' b (countL l known) s iv pb) ∧ (¬ lookE l known ps = 0 → bv = .pointer none) := by
 refine Sp.of 121 Tryz.func71 rfl rfl rfl ?_
 intro F
 refine Sr ?_
 refine Y As ?_
 refine Y As ?_
 refine Nq ?_
 refine Sq ?_
 refine Sr ?_
 refine Y Mv ?_
 refine D (Cf (hs := check_sp)) ?_
 rintro _ _ ⟨_, ⟨rfl, rfl⟩, rfl⟩
 refine Y Mv ?_
 refine Y Xc ?_
 refine Y Xc ?_
 refine Y As ?_
 refine Y As ?_
 refine Nq ?_
 refine Sr ?_
 refine Y Mv ?_
 refine Y Ne_ ?_
 refine Nq ?_
 refine Cn (fun h2 => ?_) fun h2 => ?_
 ·
  refine Sr ?_
  refine Y Mv ?_
  refine Y As ?_
  refine Y As ?_
  refine Nq ?_
  refine Rt ?_
  refine Rh ?_
  obtain ⟨e1, e2⟩ := look_e (known := known) (ps := ps) h2
  refine Rv2 [.zm Z] ?_
  rw [← e1]
  exact ⟨Z, _, ZLe.refl _, rfl, rfl, fun h => absurd h h2, fun _ => rfl⟩
 ·
  refine Sk ?_
  refine Pq ?_
  refine Sr ?_
  have h0 := h2
  have hr := checked_rep h0
  obtain ⟨r1, r2, hmd, hrk, hend⟩ := hg h0
  have hsm : ∀ x ∈ countL l known, Small x := fun y hy => (report_small (hr y (count_mem hy))).1
  have hpl : ∀ x ∈ countL l known, x.parts.length ≤ 1000 := fun y hy => (report_small (hr y (count_mem hy))).2
  have hml := maker_len hsm
  have hcl := count_len l known
  have hil := ids_len (countL l known)
  have hpsl := hps.len_le
  refine Y Mv ?_
  refine Y Mv ?_
  refine D (Cf (hs := counting_sp)) ?_
  rintro v30 _ ⟨_, ⟨Z30, hZ30, hz30, rfl⟩, rfl⟩
  refine D (Cf (hs := stored_sp (hsm := by assumption) (hpl := by assumption))) ?_
  rintro _ _ ⟨_, ⟨Z31, s31, lv31, mb31, ub31, hb31, hZ31, hS31, rfl, rfl⟩, rfl⟩
  have hat := hS31.at_
  have hmk := hS31.mm
  have hus := hS31.us
  obtain ⟨om, hom, hmr⟩ := hmk
  have hps31 := hps.mono (hZ30.trans hZ31)
  refine D (Mm (ParV)) ?_
  rintro _ _ ⟨m32, rfl, rfl⟩
  refine Y Bd ?_
  refine Dbx (fun b34 => ?_)
  refine Y As ?_
  refine Nq ?_
  refine Sq ?_
  refine Sr ?_
  refine Y Mv ?_
  refine Y Nc ?_
  refine Y Fa ?_
  refine Y Ld ?_
  refine Y Nc ?_
  refine Y Fa ?_
  refine Y Ld ?_
  refine D (RaZ hom hmr) ?_
  rintro _ _ ⟨c42, rfl, rfl⟩
  refine Nq ?_
  refine Bk ?_
  refine NilRwW (EI .i64) 3 ?_
  refine Lp (fun n_ l_ H_ => ∃ (vis : List (Int × Rep)) (v : Value), n_ = (makerM (countL l known)).length - vis.length ∧ l_ = [(2, psv), (10, ptr b34 0), (42, ptr c42 0)] ∧ H_ = .rw (EI .i64) 3 v ((vis.map (·.1)).filter (okB (countL l known))) :: .cl b34 [ptr s31 0, v, .map (some m32)] 122 :: .iz c42 mb31 om (makerM (countL l known)) vis :: .mp ParV m32 [] :: .zm Z31 :: F ∧ (vis.Nodup) ∧ (∀ q ∈ vis, q ∈ makerM (countL l known))) ⟨[], (.slice none 0 0), rfl, rfl, rfl, (by simp), (by simp)⟩ ⟨rfl, rfl, rfl, trivial⟩ ?_
  rintro _ _ _ ⟨vis, v, rfl, rfl, rfl, hnd, hsub⟩
  refine Sr ?_
  refine D (NxZ hom hmr) ?_
  rintro _ _ (⟨hp43, rfl, rfl⟩ | ⟨p43, u43, hm43, hn43, hu43, rfl, rfl⟩)
  ·
   refine Y Xc ?_
   refine Nq ?_
   refine Sq ?_
   refine CtF rfl ?_
   refine Ex ?_
   refine Xt ?_
   refine Xt ?_
   refine Xb ?_
   refine Pq ?_
   refine Sr ?_
   refine Y Mv ?_
   refine Y Nc ?_
   refine Y Fa ?_
   refine Y Ld ?_
   refine D (Cf (hs := sort_sp (xs := (vis.map (·.1)).filter (okB (countL l known))) (hn := by have h1 := nd_len hnd hsub; have h2 := List.length_filter_le (okB (countL l known)) (vis.map (·.1)); simp only [List.length_map] at h2; omega))) ?_
   rintro _ _ ⟨_, ⟨rfl, rfl⟩, rfl⟩
   rw [ids_end hp43]
   refine Nq ?_
   refine Sq ?_
   refine Sr ?_
   refine Y Mv ?_
   refine Y Nc ?_
   refine Y Fa ?_
   refine Y Ld ?_
   refine Y Ln ?_
   refine Y Mv ?_
   refine Nq ?_
   refine Bk ?_
   refine Lp (fun n_ l_ H_ => ∃ (i : Nat), n_ = (idsL (countL l known)).length - i ∧ l_ = [(2, psv), (10, ptr b34 0), (84, v), (85, .int .i64 ((idsL (countL l known)).length : Int)), (86, .int .i64 (i : Int))] ∧ H_ = .rw (EI .i64) 3 v (idsL (countL l known)) :: .cl b34 [ptr s31 0, v, .map (some m32)] 122 :: .mp ParV m32 (parsN (countL l known) ((idsL (countL l known)).take i)) :: .zm Z31 :: F ∧ (i ≤ (idsL (countL l known)).length)) ⟨0, rfl, rfl, rfl, (by omega)⟩ ⟨rfl, rfl, rfl, rfl, rfl, trivial⟩ ?_
   rintro _ _ _ ⟨i, rfl, rfl, rfl, hi⟩
   refine Sr ?_
   refine Y Lt ?_
   refine Nq ?_
   refine Sq ?_
   refine Cp (fun h4 => ?_) fun h4 => ?_
   ·
    refine Sk ?_
    refine Pq ?_
    refine Sq ?_
    refine Bk ?_
    refine Sr ?_
    refine IxN fun x88 b88 o88 hx88 he88 => ?_
    refine Y Ld ?_
    refine Y As ?_
    refine Nq ?_
    refine Dr (fun i => Nat.beq i 11) _ SubH.refl ?_
    refine Tk 0 [1, 2, 3, 11] rfl Mv ?_
    refine Tk 1 [2, 3, 11] rfl Nc ?_
    refine Tk 2 [3, 11] rfl Fa ?_
    refine Tk 3 [11] rfl Ld ?_
    refine Tk 4 [11] rfl Mv ?_
    refine Tk 5 [6, 7, 8, 10, 11] rfl Mv ?_
    refine Tk 6 [7, 8, 10, 11] rfl Nc ?_
    refine Tk 7 [8, 10, 11] rfl Fa ?_
    refine Tk 8 [10, 11] rfl Ld ?_
    refine Tk 9 [10, 11] rfl Mv ?_
    refine Gx 10 rfl (Cf (hs := parcel_sp (rank := r1) (rank2 := r2) (n := (countL l known).length + 1) (hp := ids_mem (mem_get hx88)) (hn := by have := hrk x88; omega))) ?_
    rintro _ _ ⟨_, ⟨rfl, rfl⟩, rfl⟩
    refine ⟨fun _ => (by repeat (first | exact SubH.refl | exact SubH.nil | refine SubH.cons (by repeat (first | exact Pick.head | apply Pick.tail)) ?_ | refine SubH.skip ?_)), ?_⟩
    refine Gxn 11 rfl (Mu (parOf (countL l known) x88)) ?_
    rintro _ _ rfl
    refine ⟨fun h_ => absurd h_ (by decide), ?_⟩
    refine An ?_
    refine Pb ?_
    refine Pq ?_
    refine Rg ?_
    refine Y Ad ?_
    refine Y Mv ?_
    refine Nl ?_
    rw [parsN_snoc hx88]
    refine Re ⟨(i + 1), rfl, rfl, rfl, (by omega)⟩ (by omega) ⟨rfl, rfl, rfl, rfl, rfl, trivial⟩
   ·
    refine Ex ?_
    refine Xt ?_
    refine Xt ?_
    refine Xb ?_
    refine Pq ?_
    refine Sq ?_
    refine Sr ?_
    refine Y Mv ?_
    refine Y Ln ?_
    refine Y Mv ?_
    refine Nq ?_
    refine Bk ?_
    rw [take_all (by assumption)]
    refine Lp (fun n_ l_ H_ => ∃ (i : Nat), n_ = ps.length - i ∧ l_ = [(10, ptr b34 0), (102, psv), (103, .int .i64 (ps.length : Int)), (104, .int .i64 (i : Int))] ∧ H_ = .cl b34 [ptr s31 0, v, .map (some m32)] 122 :: .rw (EI .i64) 3 v (idsL (countL l known)) :: .mp ParV m32 (parsL (countL l known)) :: .zm Z31 :: F ∧ (i ≤ ps.length) ∧ (∀ p ∈ ps.take i, (aget (parsL (countL l known)) p).isSome = true)) ⟨0, rfl, rfl, rfl, (by omega), (by simp)⟩ ⟨rfl, rfl, rfl, rfl, trivial⟩ ?_
    rintro _ _ _ ⟨i, rfl, rfl, rfl, hi, hall⟩
    refine Sr ?_
    refine Y Lt ?_
    refine Nq ?_
    refine Sq ?_
    refine Cp (fun h6 => ?_) fun h6 => ?_
    ·
     refine Sk ?_
     refine Pq ?_
     refine Sq ?_
     refine Bk ?_
     refine Sr ?_
     obtain ⟨x106, b106, o106, hx106, he106, hc106⟩ := SlZ.atI hps31 i (by omega)
     refine Y (IxY rfl rfl (by omega) he106) ?_
     refine Y Ld ?_
     refine Y As ?_
     refine Nq ?_
     refine Sr ?_
     refine Y Mv ?_
     refine Y Nc ?_
     refine Y Fa ?_
     refine Y Ld ?_
     refine Y Mv ?_
     refine Y LkP2 ?_
     refine Y Mv ?_
     refine Y Xc ?_
     refine Y Xc ?_
     refine Dal fun b18 => ?_
     refine Dsw ?_
     refine Y As ?_
     refine Nq ?_
     refine Sr ?_
     refine Y Mv ?_
     refine Y Nt ?_
     refine Nq ?_
     refine Ct (fun h8 => ?_) fun h8 => ?_
     ·
      have h9 := nb_i h8
      refine Sr ?_
      refine Y As ?_
      refine Y As ?_
      refine Nq ?_
      refine Rt ?_
      refine Rb ?_
      refine Rh ?_
      refine Rh ?_
      refine Rb ?_
      refine Rh ?_
      refine Rv2 [.zm Z31] ?_
      rw [← look_30 (known := known) h0 hx106 h9]
      exact ⟨Z31, _, hZ30.trans hZ31, rfl, rfl, fun h => absurd h (by decide), fun _ => rfl⟩
     ·
      have h10 := nb_g h8
      refine Sk ?_
      refine Pb ?_
      refine Pq ?_
      refine Rg ?_
      refine Y Ad ?_
      refine Y Mv ?_
      refine Nl ?_
      refine Re ⟨(i + 1), rfl, rfl, rfl, (by omega), (look_step hall hx106 h10)⟩ (by omega) ⟨rfl, rfl, rfl, rfl, trivial⟩
    ·
     refine Ex ?_
     refine Xt ?_
     refine Xt ?_
     refine Xb ?_
     refine Pq ?_
     refine Sr ?_
     refine Y Mv ?_
     refine Y As ?_
     refine Y As ?_
     refine Nq ?_
     refine Rt ?_
     rw [take_all (by assumption)] at hall
     refine PostH.weak (H' := .cl b34 [ptr s31 0, v, .map (some m32)] 122 :: .rw (EI .i64) 3 v (idsL (countL l known)) :: .mp ParV m32 (parsL (countL l known)) :: .zm Z31 :: F) (by repeat (first | exact SubH.refl | exact SubH.nil | refine SubH.cons (by repeat (first | exact Pick.head | apply Pick.tail)) ?_ | refine SubH.skip ?_)) (FzBea hS31 fun Z' hz hb => ?_)
     refine Rv2 [.zm Z'] ?_
     rw [← look_0 h0 hall]
     exact ⟨Z', _, (hZ30.trans hZ31).trans hz, rfl, rfl, fun _ => ⟨_, _, _, _, rfl, hb⟩, fun h => absurd rfl h⟩
  ·
   refine Y Xc ?_
   refine Nq ?_
   refine Sq ?_
   refine CtT rfl ?_
   refine Sk ?_
   refine Pq ?_
   refine Bk ?_
   refine Sr ?_
   refine D (EnZ hom hmr) ?_
   rintro _ _ ⟨u45, rfl, rfl⟩
   refine Y Xc ?_
   refine Y As ?_
   refine Nq ?_
   refine Sr ?_
   refine Y Mv ?_
   refine Y Nc ?_
   refine Y Fa ?_
   refine Y Ld ?_
   refine Y Nc ?_
   refine Y Fa ?_
   refine Y Ld ?_
   refine Y Mv ?_
   obtain ⟨pv56, hp56, hl56⟩ := lookR hus p43.1
   refine Y (LkZ2 hl56) ?_
   refine Y Mv ?_
   refine Y Xc ?_
   refine Y Xc ?_
   refine Dal fun b12 => ?_
   refine Dsw ?_
   refine Y As ?_
   refine Nq ?_
   refine Sr ?_
   refine Y Mv ?_
   refine Y Nt ?_
   refine Y Mv ?_
   refine Ga 3 2 false 64 (fun h12 => by
    refine Yg h12 Fa ?_
    refine Yg h12 Ld ?_
    refine Yg h12 Ne_ ?_
    exact Gg) ?_
   refine Y PkO ?_
   refine Nq ?_
   refine Ct (fun h15 => ?_) fun h15 => ?_
   ·
    refine Rg ?_
    refine Y Mv ?_
    refine Y Mv ?_
    refine Y Nc ?_
    refine Y Fa ?_
    refine Y Ld ?_
    refine Y Mv ?_
    refine D Bs ?_
    rintro _ _ ⟨b72, rfl, rfl⟩
    refine D (Ap1 p43.1 (hm := by have h1 := vis_lt hnd hsub hm43 hn43; have h2 := List.length_filter_le (okB (countL l known)) (vis.map (·.1)); simp only [List.length_map] at h2; omega)) ?_
    rintro v73 _ rfl
    refine Ks (fun is73 => ?_)
    refine Y Nc ?_
    refine Y Fa ?_
    refine Dst ?_
    refine Nl ?_
    refine Pb ?_
    rw [← ids_t h15]
    refine Re ⟨(vis ++ [p43]), v73, rfl, rfl, rfl, (vis_nd hnd hn43), (vis_sub hsub hm43)⟩ (by have h1 := vis_lt hnd hsub hm43 hn43; simp only [List.length_append, List.length_cons, List.length_nil]; omega) ⟨rfl, rfl, rfl, trivial⟩
   ·
    refine Sk ?_
    refine Pb ?_
    rw [← ids_f h15]
    refine Re ⟨(vis ++ [p43]), v, rfl, rfl, rfl, (vis_nd hnd hn43), (vis_sub hsub hm43)⟩ (by have h1 := vis_lt hnd hsub hm43 hn43; simp only [List.length_append, List.length_cons, List.length_nil]; omega) ⟨rfl, rfl, rfl, trivial⟩

end Go.Lag

namespace Go.Lag
open Go Go.RowKit Go.Proofs
set_option maxRecDepth 100000 in
set_option maxHeartbeats 4000000 in
theorem indexO_sp {fk : FuncId} {ff fc : List Value} {preF : List Assn} {p : Int → Bool} {xs : List Int} {sv : Value} [TEnter Tryz.prog fk] (hf : ∀ a ∈ xs, Sp Tryz.prog fk (ff ++ [.int .i64 a] ++ fc) preF fun v H' => v = .bool (p a) ∧ preF = H') (hlen : xs.length ≤ 100000000) : Sp Tryz.prog 140 [sv, .func (.func fk) ff.toArray fc.toArray] (.rw (EI .i64) 3 sv xs :: preF) fun v H' => v = .int .i64 (idxF p xs) ∧ .rw (EI .i64) 3 sv xs :: preF = H' := by
 refine Sp.of 19 Tryz.func140 rfl rfl rfl ?_
 intro F
 refine Sr ?_
 refine Y As ?_
 refine Nq ?_
 refine Sq ?_
 refine Sr ?_
 refine Y Mv ?_
 refine Y Ln ?_
 refine Y Mv ?_
 refine Nq ?_
 refine Bk ?_
 refine Lp (fun n_ l_ H_ => ∃ (i : Nat), n_ = xs.length - i ∧ l_ = [(0, sv), (1, .func (.func fk) ff.toArray fc.toArray), (7, .int .i64 (xs.length : Int)), (8, .int .i64 (i : Int))] ∧ H_ = .rw (EI .i64) 3 sv xs :: (preF ++ F) ∧ (i ≤ xs.length) ∧ (∀ y ∈ xs.take i, p y = false)) ⟨0, rfl, rfl, rfl, (by omega), (by simp)⟩ ⟨rfl, rfl, rfl, rfl, trivial⟩ ?_
 rintro _ _ _ ⟨i, rfl, rfl, rfl, hi, hno⟩
 refine Sr ?_
 refine Y Lt ?_
 refine Nq ?_
 refine Sq ?_
 refine Cp (fun h2 => ?_) fun h2 => ?_
 ·
  refine Sk ?_
  refine Pq ?_
  refine Sq ?_
  refine Bk ?_
  refine Sr ?_
  refine Y Mv ?_
  refine Y As ?_
  refine Nq ?_
  refine Sr ?_
  refine Y Mv ?_
  refine Y Mv ?_
  refine Y Mv ?_
  refine IxN fun x14 b14 o14 hx14 he14 => ?_
  refine Y Ld ?_
  refine D (Cc (hs := (hf _ (mem_get hx14))) (ht := Take.var)) ?_
  rintro _ _ ⟨_, ⟨rfl, rfl⟩, rfl⟩
  refine RegH.weak SubH.var ?_
  refine Nq ?_
  refine Ct (fun h4 => ?_) fun h4 => ?_
  ·
   refine Sr ?_
   refine Y Mv ?_
   refine Y As ?_
   refine Nq ?_
   refine Rt ?_
   refine Rb ?_
   refine Rh ?_
   refine Rh ?_
   refine Rb ?_
   refine Rh ?_
   refine Rv (.rw (EI .i64) 3 sv xs :: preF) ?_
   exact ⟨congrArg (Value.int .i64) (idxF_found hx14 hno h4), rfl⟩
  ·
   refine Sk ?_
   refine Pb ?_
   refine Pq ?_
   refine Rg ?_
   refine Y Ad ?_
   refine Y Mv ?_
   refine Nl ?_
   refine Re ⟨(i + 1), rfl, rfl, rfl, (by omega), (any_take_succ hx14 hno h4)⟩ (by omega) ⟨rfl, rfl, rfl, rfl, trivial⟩
 ·
  refine Ex ?_
  refine Xt ?_
  refine Xt ?_
  refine Xb ?_
  refine Pq ?_
  refine Sr ?_
  refine Y As ?_
  refine Nq ?_
  refine Rt ?_
  refine Rv (.rw (EI .i64) 3 sv xs :: preF) ?_
  exact ⟨congrArg (Value.int .i64) (idxF_none (by assumption) hno), rfl⟩

set_option maxRecDepth 100000 in
set_option maxHeartbeats 4000000 in
theorem deleteI_sp {fk : FuncId} {ff fc : List Value} {preF : List Assn} {p : Int → Bool} {xs : List Int} {sv : Value} [TEnter Tryz.prog fk] (hf : ∀ a ∈ xs, Sp Tryz.prog fk (ff ++ [.int .i64 a] ++ fc) preF fun v H' => v = .bool (p a) ∧ preF = H') (hlen : xs.length ≤ 100000000) : Sp Tryz.prog 74 [sv, .func (.func fk) ff.toArray fc.toArray] (.rw (EI .i64) 3 sv xs :: preF) fun v H' => .rw (EI .i64) 3 v (xs.filter fun x => !p x) :: preF = H' := by
 refine Sp.of 42 Tryz.func74 rfl rfl rfl ?_
 intro F
 refine Sr ?_
 refine Y As ?_
 refine Nq ?_
 refine Sr ?_
 refine Y Mv ?_
 refine Y Mv ?_
 refine D (Cf (hs := (indexO_sp hf hlen)) (ht := Take.rw Pick.head Take.app)) ?_
 rintro _ _ ⟨_, ⟨rfl, rfl⟩, rfl⟩
 refine Y As ?_
 refine Nq ?_
 refine Sq ?_
 refine Sr ?_
 refine Y Mv ?_
 refine Y Eq_ ?_
 refine Nq ?_
 refine Cp (fun h2 => ?_) fun h2 => ?_
 ·
  refine Sr ?_
  refine Y Mv ?_
  refine Y As ?_
  refine Nq ?_
  refine Rt ?_
  refine Rh ?_
  refine Rv (.rw (EI .i64) 3 sv xs :: preF) ?_
  rw [del_none (idxF_no h2)]
 ·
  refine Sk ?_
  refine Pq ?_
  refine Sq ?_
  refine Sr ?_
  obtain ⟨i0, x0, hi0, hx0, hp0, hn0⟩ := idxF_ex h2
  rw [hi0]
  have hl0 := (List.getElem?_eq_some_iff.1 hx0).1
  refine Y Mv ?_
  refine Y Ad ?_
  refine Y As ?_
  refine Nq ?_
  refine Bk ?_
  refine Lp (fun n_ l_ H_ => ∃ (j : Nat) (k : Nat) (zs : List Int), n_ = xs.length - j ∧ l_ = [(0, sv), (1, .func (.func fk) ff.toArray fc.toArray), (5, .int .i64 (k : Int)), (6, .int .i64 (j : Int))] ∧ H_ = .rw (EI .i64) 3 sv zs :: (preF ++ F) ∧ (j ≤ xs.length) ∧ (k < j) ∧ (zs.length = xs.length) ∧ (zs.take k = (xs.take j).filter (fun x => !p x)) ∧ (zs.drop j = xs.drop j)) ⟨(i0 + 1), i0, xs, rfl, rfl, rfl, (by omega), (by omega), rfl, (del_first hx0 hp0 hn0), rfl⟩ ⟨rfl, rfl, rfl, rfl, trivial⟩ ?_
  rintro _ _ _ ⟨j, k, zs, rfl, rfl, rfl, hj, hkj, hzl, hk, hd⟩
  refine Sq ?_
  refine Sr ?_
  refine Y Mv ?_
  refine Y Mv ?_
  refine Y Ln ?_
  refine Y Lt ?_
  refine Nq ?_
  refine Cp (fun h4 => ?_) fun h4 => ?_
  ·
   refine Sk ?_
   refine Pq ?_
   refine Sq ?_
   refine Bk ?_
   refine Sr ?_
   refine Y Mv ?_
   refine Y Mv ?_
   refine IxN fun x24 b24 o24 hx24 he24 => ?_
   have hxx := (del_get hd).symm.trans hx24
   refine Y Ld ?_
   refine Y As ?_
   refine Nq ?_
   refine Sr ?_
   refine Y Mv ?_
   refine Y Mv ?_
   refine D (Cc (hs := (hf _ (mem_get hxx))) (ht := Take.var)) ?_
   rintro _ _ ⟨_, ⟨rfl, rfl⟩, rfl⟩
   refine RegH.weak SubH.var ?_
   refine Y Nt ?_
   refine Nq ?_
   refine Ct (fun h6 => ?_) fun h6 => ?_
   ·
    have h7 := nb_i h6
    refine Sr ?_
    refine Y Mv ?_
    refine Y Mv ?_
    refine Y Mv ?_
    refine IxN (i := k) fun x33 b33 o33 hx33 he33 => ?_
    refine Dn (StO (a := x24) he33) ?_
    rintro _ _ rfl
    refine Nq ?_
    refine Rg ?_
    refine Y Mv ?_
    refine Y Ad ?_
    refine Y As ?_
    refine Nl ?_
    refine Pb ?_
    refine Pq ?_
    refine Rg ?_
    refine Y Mv ?_
    refine Y Ad ?_
    refine Y As ?_
    refine Nl ?_
    refine Re ⟨(j + 1), (k + 1), (zs.set k x24), rfl, rfl, rfl, (by omega), (by omega), (by simp [hzl]), ((del_take (by omega)).trans (filter_take_t (p := fun x => !p x) hxx hk (by simp [h7]))), (del_set hkj hd)⟩ (by omega) ⟨rfl, rfl, rfl, rfl, trivial⟩
   ·
    have h8 := nb_g h6
    refine Sk ?_
    refine Pb ?_
    refine Pq ?_
    refine Rg ?_
    refine Y Mv ?_
    refine Y Ad ?_
    refine Y As ?_
    refine Nl ?_
    refine Re ⟨(j + 1), k, zs, rfl, rfl, rfl, (by omega), (by omega), hzl, (filter_take_f (p := fun x => !p x) hxx hk (by simp [h8])), (del_drop hd)⟩ (by omega) ⟨rfl, rfl, rfl, rfl, trivial⟩
  ·
   refine Ex ?_
   refine Xt ?_
   refine Xt ?_
   refine Xb ?_
   refine Pq ?_
   refine Sr ?_
   refine Y Mv ?_
   refine Y Mv ?_
   refine Y (SlOf (i := k)) ?_
   refine Dn (ClrO (i := k)) ?_
   rintro _ _ rfl
   refine Nq ?_
   refine Sr ?_
   refine Y Mv ?_
   refine Y Mv ?_
   refine SlOt (i := k) (fun v41 => ?_) (hle := by simp; omega) (h0 := by simp; omega)
   refine Y As ?_
   refine Nq ?_
   refine Rt ?_
   rw [show List.take k (zs.take k ++ List.replicate (zs.length - k) (0 : Int)) = xs.filter (fun x => !p x) from by rw [List.take_left' (by simp; omega), hk, take_all (by omega)]]
   refine Rv (.rw (EI .i64) 3 v41 (xs.filter (fun x => !p x)) :: preF) ?_
   rfl

end Go.Lag

namespace Go.Lag
open Go Go.RowKit Go.Proofs
set_option maxRecDepth 100000 in
set_option maxHeartbeats 4000000 in
theorem keys_seq {m b1 : Nat} {mm : List (Int × Bool)} : SeqH Tryz.prog 223 [ptr b1 0] [.cl b1 [.map (some m)] 114, .mp EB m mm] (fun v (x : Int) => v = .int .i64 x) (fun xs => xs.Perm (mm.map (·.1))) := by
 refine SeqH.of 14 Tryz.func223 rfl rfl rfl ?_
 intro F
 intro J Jx H0 hY h0
 refine Sr ?_
 refine Y Ld ?_
 refine D Ra ?_
 rintro _ _ ⟨c5, rfl, rfl⟩
 refine Nq ?_
 refine Bk ?_
 refine Lp (fun n_ l_ H_ => ∃ (vis : List (Int × Bool)) (H1 : List Assn), n_ = mm.length - vis.length ∧ l_ = [(0, .func (.yield F) #[] #[]), (5, ptr c5 0)] ∧ H_ = .mi EB m c5 mm vis :: .cl b1 [.map (some m)] 114 :: H1 ∧ (vis.Nodup) ∧ (∀ q ∈ vis, q ∈ mm) ∧ (J (vis.map (·.1)) H1)) ⟨[], H0, rfl, rfl, rfl, (by simp), (by simp), h0⟩ ⟨rfl, rfl, trivial⟩ ?_
 rintro _ _ _ ⟨vis, H1, rfl, rfl, rfl, hnd, hsub, hJ⟩
 refine Sr ?_
 refine D Nx ?_
 rintro _ _ (⟨hp6, rfl, rfl⟩ | ⟨p6, u6, hm6, hn6, hu6, rfl, rfl⟩)
 ·
  refine Y Xc ?_
  refine Nq ?_
  refine Sq ?_
  refine CtF rfl ?_
  refine Ex ?_
  refine Xt ?_
  refine Xt ?_
  refine Xb ?_
  refine MiP ?_
  refine RnQ H1 (.inl ⟨_, ?_, hJ⟩)
  exact hp6.map _
 ·
  refine Y Xc ?_
  refine Nq ?_
  refine Sq ?_
  refine CtT rfl ?_
  refine Sk ?_
  refine Pq ?_
  refine Bk ?_
  refine Sr ?_
  refine D EnO ?_
  rintro _ _ ⟨u8, rfl, rfl⟩
  refine Y Xc ?_
  refine Y As ?_
  refine Nq ?_
  refine Sr ?_
  refine Y Mv ?_
  refine Y Mv ?_
  refine D (Yc (hY _ p6.1 _ _ hJ rfl (vis_keys hnd hsub hm6 hn6))) ?_
  rintro _ _ ⟨b12, H2, hb12, rfl, rfl⟩
  refine Y Nt ?_
  refine Nq ?_
  refine Ct (fun h2 => ?_) fun h2 => ?_
  ·
   have h3 := nb_i h2
   refine Rt ?_
   refine Rb ?_
   refine Rh ?_
   refine Rb ?_
   refine MiP ?_
   refine RvQ H2 (.inr ?_)
   simpa [h3] using hb12
  ·
   have h4 := nb_g h2
   refine Sk ?_
   refine Pb ?_
   refine Re ⟨(vis ++ [p6]), H2, rfl, rfl, rfl, (vis_nd hnd hn6), (vis_sub hsub hm6), (by simpa [h4] using hb12)⟩ (by have h1 := vis_lt hnd hsub hm6 hn6; simp only [List.length_append, List.length_cons, List.length_nil]; omega) ⟨rfl, rfl, trivial⟩

set_option maxRecDepth 100000 in
set_option maxHeartbeats 4000000 in
theorem keys_sp {m : Nat} : Sp Tryz.prog 142 [.map (some m)] [] fun v H' => ∃ b1, v = .func (.func 223) #[] #[ptr b1 0] ∧ H' = [.cl b1 [.map (some m)] 114] := by
 refine Sp.of 4 Tryz.func142 rfl rfl rfl ?_
 intro F
 refine Sr ?_
 refine Dbx (fun b1 => ?_)
 refine Y As ?_
 refine Nq ?_
 refine Sr ?_
 refine Y Mf ?_
 refine Y As ?_
 refine Nq ?_
 refine Rt ?_
 refine Rv [.cl b1 [.map (some m)] 114] ?_
 exact ⟨b1, rfl, rfl⟩

set_option maxRecDepth 100000 in
set_option maxHeartbeats 4000000 in
theorem appendSeqI_sp {k : FuncId} {caps : List Value} {own : List Assn} {S : List Int → Prop} [TEnter Tryz.prog k] (hseq : SeqH Tryz.prog k caps own (fun v (x : Int) => v = .int .i64 x) S) (hS : ∀ xs, S xs → xs.length ≤ 100000000) : Sp Tryz.prog 289 [.slice none 0 0, .func (.func k) #[] caps.toArray] own fun v H' => ∃ xs, S xs ∧ H' = .rw (EI .i64) 3 v xs :: own := by
 refine Sp.ofM 13 Tryz.func289 rfl rfl rfl ?_
 intro F
 refine Sr ?_
 refine Dbx (fun b2 => ?_)
 refine Y As ?_
 refine Nq ?_
 refine Sq ?_
 refine Sr ?_
 refine Y Mv ?_
 refine Nq ?_
 refine Bk ?_
 refine NilRwW (EI .i64) 3 ?_
 refine WH.weak (SubH.out2 (A := .rw (EI .i64) 3 (.slice none 0 0) []) (B := .cl b2 [.slice none 0 0] 25)) ?_
 refine Rf (p := 7) (hseq) (fun pre H_ => ∃ v, H_ = .rw (EI .i64) 3 v pre :: .cl b2 [v] 25 :: F) (fun _ _ => False) (.rw (EI .i64) 3 (.slice none 0 0) [] :: .cl b2 [.slice none 0 0] 25 :: F) ⟨_, rfl⟩ ?_ ?_ (fun _ _ _ h => h.elim) (ht := Take.app) (hsub := SubH.refl)
 ·
  intro F2 L9 D9 rc pre x v H1 hJ hE hpre
  obtain ⟨v0, rfl⟩ := hJ
  subst hE
  refine Rg ?_
  refine Y As ?_
  refine Nl ?_
  refine Bg2 ?_
  refine Bk ?_
  refine Rg ?_
  refine Y Ld ?_
  refine Y Mv ?_
  refine D Bs ?_
  rintro _ _ ⟨b10, rfl, rfl⟩
  refine D (Ap1 x (hm := pre_len hS hpre)) ?_
  rintro v11 _ rfl
  refine Ks (fun is11 => ?_)
  refine Dst ?_
  refine Nl ?_
  refine Pb ?_
  refine Fe (.rw (EI .i64) 3 v11 (pre ++ [x]) :: .cl b2 [v11] 25 :: F) ⟨_, rfl⟩
 ·
  intro D9 xs H1 hxs hJ
  obtain ⟨v0, rfl⟩ := hJ
  refine PostH.weak SubH.in3 ?_
  refine Pb ?_
  refine Pq ?_
  refine Sr ?_
  refine Y Ld ?_
  refine Y As ?_
  refine Nq ?_
  refine Rt ?_
  refine RvM1 (xs := [.tmp 4]) (.rw (EI .i64) 3 v0 xs :: own) (by repeat (first | exact Pick.head | apply Pick.tail)) (ResH.tmp ResH.nil) ?_ (hH := by first | exact SubH.refl | exact SubH.cons Pick.head (SubH.skip SubH.refl) | skip)
  exact ⟨xs, hxs, rfl⟩

set_option maxRecDepth 100000 in
set_option maxHeartbeats 4000000 in
theorem collectI_sp {k : FuncId} {caps : List Value} {own : List Assn} {S : List Int → Prop} [TEnter Tryz.prog k] (hseq : SeqH Tryz.prog k caps own (fun v (x : Int) => v = .int .i64 x) S) (hS : ∀ xs, S xs → xs.length ≤ 100000000) : Sp Tryz.prog 222 [.func (.func k) #[] caps.toArray] own fun v H' => ∃ xs, S xs ∧ H' = .rw (EI .i64) 3 v xs :: own := by
 refine Sp.of 5 Tryz.func222 rfl rfl rfl ?_
 intro F
 refine Sr ?_
 refine Y As ?_
 refine Nq ?_
 refine Sr ?_
 refine Y Mv ?_
 refine D (Cf (hs := (appendSeqI_sp hseq hS)) (ht := Take.app)) ?_
 rintro v4 _ ⟨_, ⟨xs, hxs, rfl⟩, rfl⟩
 refine Y As ?_
 refine Nq ?_
 refine Rt ?_
 refine Rv (.rw (EI .i64) 3 v4 xs :: own) ?_
 exact ⟨xs, hxs, rfl⟩

set_option maxRecDepth 100000 in
set_option maxHeartbeats 4000000 in
theorem sortedI_sp {k : FuncId} {caps : List Value} {own : List Assn} {S : List Int → Prop} [TEnter Tryz.prog k] (hseq : SeqH Tryz.prog k caps own (fun v (x : Int) => v = .int .i64 x) S) (hS : ∀ xs, S xs → xs.length ≤ 100000000) : Sp Tryz.prog 141 [.func (.func k) #[] caps.toArray] own fun v H' => ∃ xs, S xs ∧ H' = .rw (EI .i64) 3 v (sortL xs) :: own := by
 refine Sp.of 9 Tryz.func141 rfl rfl rfl ?_
 intro F
 refine Sr ?_
 refine Y As ?_
 refine Nq ?_
 refine Sr ?_
 refine Y Mv ?_
 refine D (Cf (hs := (collectI_sp hseq hS)) (ht := Take.app)) ?_
 rintro v5 _ ⟨_, ⟨xs, hxs, rfl⟩, rfl⟩
 refine Y As ?_
 refine Nq ?_
 refine Sr ?_
 refine Y Mv ?_
 refine D (Cf (hs := sort_sp (xs := xs) (hn := hS xs hxs))) ?_
 rintro _ _ ⟨_, ⟨rfl, rfl⟩, rfl⟩
 refine Nq ?_
 refine Sr ?_
 refine Y Mv ?_
 refine Y As ?_
 refine Nq ?_
 refine Rt ?_
 refine Rv (.rw (EI .i64) 3 v5 (sortL xs) :: own) ?_
 exact ⟨xs, hxs, rfl⟩

set_option maxRecDepth 100000 in
set_option maxHeartbeats 4000000 in
theorem sortedM_sp {m : Nat} {mm : List (Int × Bool)} (hn : mm.length ≤ 100000000 := by first | assumption | omega) : Sp Tryz.prog 75 [.map (some m)] [.mp EB m mm] fun v H' => H' = [.rw (EI .i64) 3 v (sortL (mm.map (·.1))), .mp EB m mm] := by
 refine Sp.of 6 Tryz.func75 rfl rfl rfl ?_
 intro F
 refine Sr ?_
 refine Y As ?_
 refine Nq ?_
 refine Sr ?_
 refine Y Mv ?_
 refine D (Cf (hs := keys_sp)) ?_
 rintro _ _ ⟨_, ⟨b4, rfl, rfl⟩, rfl⟩
 refine D (Cf (hs := sortedI_sp (keys_seq (m := m) (b1 := b4) (mm := mm)) (fun xs h => by have := h.length_eq; simp at this; omega))) ?_
 rintro v5 _ ⟨_, ⟨xs, hxs, rfl⟩, rfl⟩
 refine Y As ?_
 refine Nq ?_
 refine Rt ?_
 rw [sortL_perm hxs]
 refine Rv [.rw (EI .i64) 3 v5 (sortL (mm.map (·.1))), .mp EB m mm] ?_
 rfl

end Go.Lag

namespace Go.Lag
open Go Go.RowKit Go.Proofs
set_option maxRecDepth 100000 in
set_option maxHeartbeats 4000000 in
theorem back_sp {Z : Hp} {b s pb : Nat} {l : List Rep} {iv : Value} (hB : BeaZ Z b l s iv pb := by assumption) {p : Int} : Sp Tryz.prog 73 [ptr b 0, .int .i64 p] [.zm Z] fun v H' => ∃ Z', SlZ (EI .i64) Z' v (backL l p) ∧ H' = [.zm Z'] := by
 refine Sp.of 20 Tryz.func73 rfl rfl rfl ?_
 intro F
 obtain ⟨lv, mb, ub, hb, hS⟩ := hB.st
 have hba := hB.at_
 have hbp := hB.ps
 have hbi := hB.ids
 have hat := hS.at_
 have hmk := hS.mm
 have hus := hS.us
 refine Sr ?_
 refine Y As ?_
 refine Nq ?_
 refine Sq ?_
 refine Sr ?_
 refine Y Mv ?_
 refine Y Nc ?_
 refine Y Fa ?_
 refine Y Ld ?_
 refine Y Nc ?_
 refine Y Fa ?_
 refine Y Ld ?_
 refine Y Mv ?_
 obtain ⟨pv14, hp14, hl14⟩ := lookR hmk p
 refine Y (LkZ hl14) ?_
 refine Dal fun b5 => ?_
 refine Dsw ?_
 refine Nq ?_
 refine Sr ?_
 refine Y Fa ?_
 refine Y Ld ?_
 refine Y Ne_ ?_
 refine Nq ?_
 refine Cn (fun h2 => ?_) fun h2 => ?_
 ·
  refine Sr ?_
  refine Y LdN ?_
  refine D (Cf (hs := uses_sp)) ?_
  rintro v19 _ ⟨_, ⟨Zu, hzu, rfl⟩, rfl⟩
  refine Y As ?_
  refine Nq ?_
  refine Rt ?_
  refine Rh ?_
  refine Rv [.zm Zu] ?_
  exact ⟨_, by simp [backL, *], rfl⟩
 ·
  refine Sk ?_
  refine Pq ?_
  refine Sr ?_
  refine Y As ?_
  refine Nq ?_
  refine Rt ?_
  refine Rv [.zm Z] ?_
  exact ⟨_, by simpa [backL, *] using SlZ.nil (EI .i64) Z, rfl⟩

set_option maxRecDepth 100000 in
set_option maxHeartbeats 4000000 in
theorem on_sp {Z : Hp} {b s pb : Nat} {l : List Rep} {iv : Value} (hB : BeaZ Z b l s iv pb := by assumption) (hsm : ∀ x ∈ l, Small x := by assumption) {p : Int} : Sp Tryz.prog 79 [ptr b 0, .int .i64 p] [.zm Z] fun v H' => ∃ Z', SlZ (EI .i64) Z' v (onL l p) ∧ H' = [.zm Z'] := by
 refine Sp.of 22 Tryz.func79 rfl rfl rfl ?_
 intro F
 obtain ⟨lv, mb, ub, hb, hS⟩ := hB.st
 have hba := hB.at_
 have hbp := hB.ps
 have hbi := hB.ids
 have hat := hS.at_
 have hmk := hS.mm
 have hus := hS.us
 refine Sr ?_
 refine Y As ?_
 refine Nq ?_
 refine Sq ?_
 refine Sr ?_
 refine Y Mv ?_
 refine Y Nc ?_
 refine Y Fa ?_
 refine Y Ld ?_
 refine Y Nc ?_
 refine Y Fa ?_
 refine Y Ld ?_
 refine Y Mv ?_
 obtain ⟨pv16, hp16, hl16⟩ := lookR hus p
 refine Y (LkZ2 hl16) ?_
 refine Y Mv ?_
 refine Y Xc ?_
 refine Y Xc ?_
 refine Dal fun b5 => ?_
 refine Dsw ?_
 refine Y As ?_
 refine Nq ?_
 refine Sr ?_
 refine Y Mv ?_
 refine Nq ?_
 refine Ct (fun h2 => ?_) fun h2 => ?_
 ·
  refine Sr ?_
  refine Y LdN ?_
  refine D (Cf (hs := makes_sp (hs := user_small hsm h2))) ?_
  rintro v21 _ ⟨_, rfl, rfl⟩
  refine Y As ?_
  refine Nq ?_
  refine Rt ?_
  refine Rh ?_
  refine FzP (E := EI .i64) (v := v21) fun Zu hzu => ?_
  refine Rv [.zm Zu] ?_
  exact ⟨_, by simp [onL, *], rfl⟩
 ·
  refine Sk ?_
  refine Pq ?_
  refine Sr ?_
  refine Y As ?_
  refine Nq ?_
  refine Rt ?_
  refine Rv [.zm Z] ?_
  exact ⟨_, by simpa [onL, *] using SlZ.nil (EI .i64) Z, rfl⟩

set_option maxRecDepth 100000 in
set_option maxHeartbeats 4000000 in
theorem reached1_sp {fn : FuncId} {first : List Value} {Z : Hp} {next : Int → List Int} {U : List Int} [TEnter Tryz.prog fn] (hnext : ∀ p ∈ U, Sp Tryz.prog fn (first ++ [.int .i64 p] ++ []) [.zm Z] fun v H' => ∃ Z', SlZ (EI .i64) Z' v (next p) ∧ H' = [.zm Z']) (hU : ∀ p ∈ U, ∀ q ∈ next p, q ∈ U) {b5 b3 b6 m : Nat} : ∀ (n : Nat) (mm : List (Int × Bool)) (p : Int), p ∈ U → cnt U mm < n → Sp Tryz.prog 138 [.int .i64 p, ptr b5 0, ptr b3 0, ptr b6 0] [.cl b5 [.map (some m)] 114, .cl b3 [.func (.func fn) first.toArray ([] : List Value).toArray] 116, .cl b6 [.func (.func 138) #[] #[ptr b5 0, ptr b3 0, ptr b6 0]] 241, .mp EB m (mm), .zm Z] fun v H' => v = .tuple #[] ∧ H' = [.cl b5 [.map (some m)] 114, .cl b3 [.func (.func fn) first.toArray ([] : List Value).toArray] 116, .cl b6 [.func (.func 138) #[] #[ptr b5 0, ptr b3 0, ptr b6 0]] 241, .mp EB m (dfs next n mm p), .zm Z] := by
 intro n
 induction n with
 | zero => intro mm p hp hn; omega
 | succ n ih =>
 intro mm p hp hn
 refine Sp.of 24 Tryz.func138 rfl rfl rfl ?_
 intro F
 refine Sq ?_
 refine Sr ?_
 refine Y Ld ?_
 refine Y Mv ?_
 refine Y LkB ?_
 refine Nq ?_
 refine Ct (fun h2 => ?_) fun h2 => ?_
 ·
  refine Rt ?_
  refine Rh ?_
  rw [dfs_seen h2]
  refine RvC (xs := []) [.cl b5 [.map (some m)] 114, .cl b3 [.func (.func fn) first.toArray ([] : List Value).toArray] 116, .cl b6 [.func (.func 138) #[] #[ptr b5 0, ptr b3 0, ptr b6 0]] 241, .mp EB m (_), .zm Z] ResH.nil ?_
  exact ⟨rfl, rfl⟩
 ·
  refine Sk ?_
  refine Pq ?_
  refine Sr ?_
  refine Y Ld ?_
  refine Y Mv ?_
  refine Dn (Mu true) ?_
  rintro _ _ rfl
  refine Nq ?_
  refine Sr ?_
  refine Y Ld ?_
  refine Y Mv ?_
  refine D (Cc (hs := (hnext p hp))) ?_
  rintro v14 _ ⟨_, ⟨Z14, hz14, rfl⟩, rfl⟩
  have hnl := hz14.len_le
  refine Y Ln ?_
  refine Y Mv ?_
  refine Nq ?_
  refine Bk ?_
  refine Lp (fun n_ l_ H_ => ∃ (i : Nat) (m2 : List (Int × Bool)), n_ = (next p).length - i ∧ l_ = [(1, ptr b5 0), (3, ptr b6 0), (14, v14), (15, .int .i64 ((next p).length : Int)), (16, .int .i64 (i : Int))] ∧ H_ = .cl b5 [.map (some m)] 114 :: .cl b3 [.func (.func fn) first.toArray ([] : List Value).toArray] 116 :: .cl b6 [.func (.func 138) #[] #[ptr b5 0, ptr b3 0, ptr b6 0]] 241 :: .mp EB m (m2) :: .zm Z :: .zm Z14 :: F ∧ (i ≤ (next p).length) ∧ (m2 = ((next p).take i).foldl (fun m q => dfs next n m q) (aset mm p true)) ∧ (cnt U m2 < n)) ⟨0, (aset mm p true), rfl, rfl, rfl, (by omega), rfl, (by have := cnt_aset hp (show visB mm p = false from h2); omega)⟩ ⟨rfl, rfl, rfl, rfl, rfl, trivial⟩ ?_
  rintro _ _ _ ⟨i, m2, rfl, rfl, rfl, hi, hm2, hcnt⟩
  refine Sr ?_
  refine Y Lt ?_
  refine Nq ?_
  refine Sq ?_
  refine Cp (fun h4 => ?_) fun h4 => ?_
  ·
   refine Sk ?_
   refine Pq ?_
   refine Sq ?_
   refine Bk ?_
   refine Sr ?_
   obtain ⟨x18, b18, o18, hx18, he18, hc18⟩ := SlZ.atI hz14 i (by omega)
   refine Y (IxY rfl rfl (by omega) he18) ?_
   refine Y Ld ?_
   refine Y As ?_
   refine Nq ?_
   refine Rg ?_
   refine Y Ld ?_
   refine Y Mv ?_
   refine D (Cc (hs := (ih m2 x18 (hU p hp _ (mem_get hx18)) hcnt))) ?_
   rintro _ _ ⟨_, ⟨rfl, rfl⟩, rfl⟩
   refine Nl ?_
   refine Pb ?_
   refine Pq ?_
   refine Rg ?_
   refine Y Ad ?_
   refine Y Mv ?_
   refine Nl ?_
   refine Re ⟨(i + 1), (dfs next n m2 x18), rfl, rfl, rfl, (by omega), (dfs_step hm2 hx18), (cnt_step hcnt)⟩ (by omega) ⟨rfl, rfl, rfl, rfl, rfl, trivial⟩
  ·
   refine Ex ?_
   refine Xt ?_
   refine Xt ?_
   refine Xb ?_
   rw [take_all (by assumption), ← dfs_new (show (aget mm p).getD false = false from by assumption)] at hm2
   subst hm2
   refine Rn [.cl b5 [.map (some m)] 114, .cl b3 [.func (.func fn) first.toArray ([] : List Value).toArray] 116, .cl b6 [.func (.func 138) #[] #[ptr b5 0, ptr b3 0, ptr b6 0]] 241, .mp EB m (_), .zm Z] ?_
   exact ⟨rfl, rfl⟩

set_option maxRecDepth 100000 in
set_option maxHeartbeats 4000000 in
theorem reached_sp {fn : FuncId} {first : List Value} {Z : Hp} {next : Int → List Int} {U : List Int} [TEnter Tryz.prog fn] (hnext : ∀ p ∈ U, Sp Tryz.prog fn (first ++ [.int .i64 p] ++ []) [.zm Z] fun v H' => ∃ Z', SlZ (EI .i64) Z' v (next p) ∧ H' = [.zm Z']) (hU : ∀ p ∈ U, ∀ q ∈ next p, q ∈ U) {n : Nat} (hn : U.length < n) {p : Int} (hp : p ∈ U) : Sp Tryz.prog 72 [.int .i64 p, .func (.func fn) first.toArray #[]] [.zm Z] fun v H' => ∃ m, v = .map (some m) ∧ H' = [.mp EB m (dfs next n [] p)] := by
 refine Sp.of 13 Tryz.func72 rfl rfl rfl ?_
 intro F
 refine Sr ?_
 refine Dbx (fun b3 => ?_)
 refine Y As ?_
 refine Nq ?_
 refine Sr ?_
 refine D (Mm (EB)) ?_
 rintro _ _ ⟨m7, rfl, rfl⟩
 refine Dal fun b5 => ?_
 refine Dsw ?_
 refine Nq ?_
 refine Sr ?_
 refine Dal fun b6 => ?_
 refine Nq ?_
 refine Sr ?_
 refine Y Mf ?_
 refine Dsw ?_
 refine Nq ?_
 refine Sr ?_
 refine Y Ld ?_
 refine Y Mv ?_
 refine D (Cc (hs := (reached1_sp hnext hU n [] p hp (by rw [cnt_nil]; exact hn)))) ?_
 rintro _ _ ⟨_, ⟨rfl, rfl⟩, rfl⟩
 refine Nq ?_
 refine Sr ?_
 refine Y Ld ?_
 refine Y As ?_
 refine Nq ?_
 refine Rt ?_
 refine Rv [.mp EB m7 (dfs next n [] p)] ?_
 exact ⟨m7, rfl, rfl⟩

end Go.Lag

namespace Go.Lag
open Go Go.RowKit Go.Proofs
set_option maxRecDepth 100000 in
set_option maxHeartbeats 4000000 in
theorem origins1_sp {Z : Hp} {b s pb : Nat} {l : List Rep} {iv : Value} (hB : BeaZ Z b l s iv pb := by assumption) {p : Int} {b1 : Nat} : Sp Tryz.prog 76 [.int .i64 p, ptr b1 0] [.cl b1 [ptr b 0] 111, .zm Z] fun v H' => v = .bool (!foundL l p) ∧ [.cl b1 [ptr b 0] 111, .zm Z] = H' := by
 refine Sp.of 12 Tryz.func76 rfl rfl rfl ?_
 intro F
 obtain ⟨lv, mb, ub, hb, hS⟩ := hB.st
 have hba := hB.at_
 have hbp := hB.ps
 have hbi := hB.ids
 have hat := hS.at_
 have hmk := hS.mm
 have hus := hS.us
 refine Sr ?_
 refine Y As ?_
 refine Nq ?_
 refine Sr ?_
 refine Y Ld ?_
 refine Y Nc ?_
 refine Y Fa ?_
 refine Y Ld ?_
 refine Y Mv ?_
 refine Y LkP ?_
 refine Y Fd ?_
 refine Y Nt ?_
 refine Y As ?_
 refine Nq ?_
 refine Rt ?_
 refine Rv [.cl b1 [ptr b 0] 111, .zm Z] ?_
 exact ⟨rfl, rfl⟩

set_option maxRecDepth 100000 in
set_option maxHeartbeats 4000000 in
theorem remains1_sp {Z : Hp} {b s pb : Nat} {l : List Rep} {iv : Value} (hB : BeaZ Z b l s iv pb := by assumption) {p : Int} {b1 : Nat} : Sp Tryz.prog 80 [.int .i64 p, ptr b1 0] [.cl b1 [ptr b 0] 111, .zm Z] fun v H' => v = .bool (decide (0 < ((aget (parsL l) p).getD Par.zero).into)) ∧ [.cl b1 [ptr b 0] 111, .zm Z] = H' := by
 refine Sp.of 12 Tryz.func80 rfl rfl rfl ?_
 intro F
 obtain ⟨lv, mb, ub, hb, hS⟩ := hB.st
 have hba := hB.at_
 have hbp := hB.ps
 have hbi := hB.ids
 have hat := hS.at_
 have hmk := hS.mm
 have hus := hS.us
 refine Sr ?_
 refine Y As ?_
 refine Nq ?_
 refine Sr ?_
 refine Y Ld ?_
 refine Y Nc ?_
 refine Y Fa ?_
 refine Y Ld ?_
 refine Y Mv ?_
 refine Y LkP ?_
 refine Y Fd ?_
 refine Y Gr ?_
 refine Y As ?_
 refine Nq ?_
 refine Rt ?_
 refine Rv [.cl b1 [ptr b 0] 111, .zm Z] ?_
 exact ⟨rfl, rfl⟩

set_option maxRecDepth 100000 in
set_option maxHeartbeats 4000000 in
theorem origins_sp {Z : Hp} {l : List Rep} {lv : Value} (hl : SlZ (EZ Z) Z lv l := by assumption) {known : Int} (hn : l.length ≤ 1000 := by assumption) (hg : (checkE l).2 = 0 → GoodL (countL l known) := by first | assumption | exact good_of) {p : Int} : Sp Tryz.prog 20 [lv, .int .i64 known, .int .i64 p] [.zm Z] fun v H' => ∃ sv, v = .tuple #[sv, .int .i64 (lookE l known [p])] ∧ H' = [.rw (EI .i64) 3 sv (if lookE l known [p] = 0 then originsL (countL l known) p else [])] := by
 refine Sp.of 30 Tryz.func20 rfl rfl rfl ?_
 intro F
 refine Sr ?_
 refine Y As ?_
 refine Y As ?_
 refine Nq ?_
 refine Sr ?_
 refine Y Mv ?_
 refine Y Mv ?_
 refine Y Mv ?_
 refine D Bs ?_
 rintro _ _ ⟨b15, rfl, rfl⟩
 refine ToRwI [p] ?_
 refine FzI fun Zp hzp1 hzp2 => ?_
 have hl2 := hl.up hzp1
 refine D (Cf (hs := looks_sp (hl := hl2) (hps := hzp2))) ?_
 rintro _ _ ⟨_, ⟨Z16, bv16, hZ16, rfl, rfl, hb16, hc16⟩, rfl⟩
 have hbo := bv_one hb16 hc16
 refine Y Mv ?_
 refine Y Xc ?_
 refine Y Xc ?_
 refine Dal fun b8 => ?_
 refine Dsw (hds := hbo.1) (h1 := by simp [hbo.2]) ?_
 refine Y As ?_
 refine Nq ?_
 refine Sq ?_
 refine Sr ?_
 refine Y Mv ?_
 refine Y Ne_ ?_
 refine Nq ?_
 refine Cn (fun h2 => ?_) fun h2 => ?_
 ·
  refine Sr ?_
  refine Y Mv ?_
  refine Y As ?_
  refine Y As ?_
  refine Nq ?_
  refine Rt ?_
  refine Rh ?_
  refine NilRwP (EI .i64) 3 ?_
  refine Rv2 [.rw (EI .i64) 3 (.slice none 0 0) []] ?_
  exact ⟨_, rfl, by rw [if_neg h2]⟩
 ·
  refine Sk ?_
  refine Pq ?_
  refine Sr ?_
  have hE := h2
  obtain ⟨b, s, iv, pb, rfl, hB⟩ := hb16 hE
  obtain ⟨hc0, hin⟩ := look_mem hE
  have hip := hin p (List.mem_cons_self ..)
  obtain ⟨r1, r2, hmd, hrk, hend⟩ := hg hc0
  have hr := checked_rep hc0
  have hsm : ∀ x ∈ countL l known, Small x := fun y hy => (report_small (hr y (count_mem hy))).1
  have hml := maker_len hsm
  have hcl := count_len l known
  have hpm : p ∈ madeL (countL l known) := made_mem.2 (ids_mem hip)
  have hul : (madeL (countL l known)).length = (makerM (countL l known)).length := by simp [madeL]
  refine Y Mv ?_
  refine Y Ld ?_
  refine Y Mf ?_
  refine D (Cf (hs := reached_sp (fn := 73) (first := [ptr b 0]) (next := backL (countL l known)) (U := madeL (countL l known)) (fun p hp => back_sp) (back_in hmd) (n := (makerM (countL l known)).length + 1) (by omega) hpm)) ?_
  rintro _ _ ⟨_, ⟨m25, rfl, rfl⟩, rfl⟩
  refine Y As ?_
  refine Nq ?_
  refine Sr ?_
  refine Y Mv ?_
  have hdl := dfs_len (next := backL (countL l known)) (back_in hmd) ((makerM (countL l known)).length + 1) hpm
  refine D (Cf (hs := sortedM_sp (mm := dfs (backL (countL l known)) ((makerM (countL l known)).length + 1) [] p) (hn := by omega))) ?_
  rintro v27 _ ⟨_, rfl, rfl⟩
  have hsl : (sortL ((dfs (backL (countL l known)) ((makerM (countL l known)).length + 1) [] p).map (·.1))).length ≤ 100000000 := by simp [sortL]; omega
  refine Y Mf ?_
  refine D (Cf (hs := deleteI_sp (ff := []) (fc := [ptr b8 0]) (preF := [.cl b8 [ptr b 0] 111, .zm Z16]) (p := (fun q => !foundL (countL l known) q)) (fun a _ => origins1_sp) hsl)) ?_
  rintro v29 _ ⟨_, rfl, rfl⟩
  refine Y As ?_
  refine Y As ?_
  refine Nq ?_
  refine Rt ?_
  refine Rv2 [.rw (EI .i64) 3 v29 (originsL (countL l known) p)] ?_
  exact ⟨_, by rw [hE], by rw [if_pos hE]⟩

set_option maxRecDepth 100000 in
set_option maxHeartbeats 4000000 in
theorem remains_sp {Z : Hp} {l : List Rep} {lv : Value} (hl : SlZ (EZ Z) Z lv l := by assumption) {known : Int} (hn : l.length ≤ 1000 := by assumption) (hg : (checkE l).2 = 0 → GoodL (countL l known) := by first | assumption | exact good_of) {p : Int} : Sp Tryz.prog 22 [lv, .int .i64 known, .int .i64 p] [.zm Z] fun v H' => ∃ sv, v = .tuple #[sv, .int .i64 (lookE l known [p])] ∧ H' = [.rw (EI .i64) 3 sv (if lookE l known [p] = 0 then remainsL (countL l known) p else [])] := by
 refine Sp.of 30 Tryz.func22 rfl rfl rfl ?_
 intro F
 refine Sr ?_
 refine Y As ?_
 refine Y As ?_
 refine Nq ?_
 refine Sr ?_
 refine Y Mv ?_
 refine Y Mv ?_
 refine Y Mv ?_
 refine D Bs ?_
 rintro _ _ ⟨b15, rfl, rfl⟩
 refine ToRwI [p] ?_
 refine FzI fun Zp hzp1 hzp2 => ?_
 have hl2 := hl.up hzp1
 refine D (Cf (hs := looks_sp (hl := hl2) (hps := hzp2))) ?_
 rintro _ _ ⟨_, ⟨Z16, bv16, hZ16, rfl, rfl, hb16, hc16⟩, rfl⟩
 have hbo := bv_one hb16 hc16
 refine Y Mv ?_
 refine Y Xc ?_
 refine Y Xc ?_
 refine Dal fun b8 => ?_
 refine Dsw (hds := hbo.1) (h1 := by simp [hbo.2]) ?_
 refine Y As ?_
 refine Nq ?_
 refine Sq ?_
 refine Sr ?_
 refine Y Mv ?_
 refine Y Ne_ ?_
 refine Nq ?_
 refine Cn (fun h2 => ?_) fun h2 => ?_
 ·
  refine Sr ?_
  refine Y Mv ?_
  refine Y As ?_
  refine Y As ?_
  refine Nq ?_
  refine Rt ?_
  refine Rh ?_
  refine NilRwP (EI .i64) 3 ?_
  refine Rv2 [.rw (EI .i64) 3 (.slice none 0 0) []] ?_
  exact ⟨_, rfl, by rw [if_neg h2]⟩
 ·
  refine Sk ?_
  refine Pq ?_
  refine Sr ?_
  have hE := h2
  obtain ⟨b, s, iv, pb, rfl, hB⟩ := hb16 hE
  obtain ⟨hc0, hin⟩ := look_mem hE
  have hip := hin p (List.mem_cons_self ..)
  obtain ⟨r1, r2, hmd, hrk, hend⟩ := hg hc0
  have hr := checked_rep hc0
  have hsm : ∀ x ∈ countL l known, Small x := fun y hy => (report_small (hr y (count_mem hy))).1
  have hml := maker_len hsm
  have hcl := count_len l known
  have hpm : p ∈ madeL (countL l known) := made_mem.2 (ids_mem hip)
  have hul : (madeL (countL l known)).length = (makerM (countL l known)).length := by simp [madeL]
  refine Y Mv ?_
  refine Y Ld ?_
  refine Y Mf ?_
  refine D (Cf (hs := reached_sp (fn := 79) (first := [ptr b 0]) (next := onL (countL l known)) (U := madeL (countL l known)) (fun p hp => on_sp) on_in (n := (makerM (countL l known)).length + 1) (by omega) hpm)) ?_
  rintro _ _ ⟨_, ⟨m25, rfl, rfl⟩, rfl⟩
  refine Y As ?_
  refine Nq ?_
  refine Sr ?_
  refine Y Mv ?_
  have hdl := dfs_len (next := onL (countL l known)) on_in ((makerM (countL l known)).length + 1) hpm
  refine D (Cf (hs := sortedM_sp (mm := dfs (onL (countL l known)) ((makerM (countL l known)).length + 1) [] p) (hn := by omega))) ?_
  rintro v27 _ ⟨_, rfl, rfl⟩
  have hsl : (sortL ((dfs (onL (countL l known)) ((makerM (countL l known)).length + 1) [] p).map (·.1))).length ≤ 100000000 := by simp [sortL]; omega
  refine Y Mf ?_
  refine D (Cf (hs := deleteI_sp (ff := []) (fc := [ptr b8 0]) (preF := [.cl b8 [ptr b 0] 111, .zm Z16]) (p := (fun q => decide (0 < ((aget (parsL (countL l known)) q).getD Par.zero).into))) (fun a _ => remains1_sp) hsl)) ?_
  rintro v29 _ ⟨_, rfl, rfl⟩
  refine Y As ?_
  refine Y As ?_
  refine Nq ?_
  refine Rt ?_
  refine Rv2 [.rw (EI .i64) 3 v29 (remainsL (countL l known) p)] ?_
  exact ⟨_, by rw [hE], by rw [if_pos hE]⟩

end Go.Lag

namespace Go.Lag
open Go Go.RowKit Go.Proofs
set_option maxRecDepth 100000 in
set_option maxHeartbeats 4000000 in
theorem arcs1_seq {Z : Hp} {b s pb : Nat} {l : List Rep} {iv : Value} (hB : BeaZ Z b l s iv pb := by assumption) {b1 : Nat} : SeqH Tryz.prog 214 [ptr b1 0] [.cl b1 [ptr b 0] 111, .zm Z] (fun v (x : Arc) => v = arcV x) (fun xs => xs = arcsL l) := by
 refine SeqH.of 42 Tryz.func214 rfl rfl rfl ?_
 intro F
 intro J Jx H0 hY h0
 obtain ⟨lv, mb, ub, hb, hS⟩ := hB.st
 have hba := hB.at_
 have hbp := hB.ps
 have hbi := hB.ids
 have hat := hS.at_
 have hmk := hS.mm
 have hus := hS.us
 have hil := hbi.len_le
 refine Sr ?_
 refine Y Ld ?_
 refine Y Nc ?_
 refine Y Fa ?_
 refine Y Ld ?_
 refine Y Ln ?_
 refine Y Mv ?_
 refine Nq ?_
 refine Bk ?_
 refine Lp (fun n_ l_ H_ => ∃ (i : Nat) (H1 : List Assn), n_ = (idsL l).length - i ∧ l_ = [(0, .func (.yield F) #[] #[]), (1, ptr b1 0), (10, iv), (11, .int .i64 ((idsL l).length : Int)), (12, .int .i64 (i : Int))] ∧ H_ = .cl b1 [ptr b 0] 111 :: .zm Z :: H1 ∧ (i ≤ (idsL l).length) ∧ (J (((idsL l).take i).map (arcL l)) H1)) ⟨0, H0, rfl, rfl, rfl, (by omega), (by simpa using h0)⟩ ⟨rfl, rfl, rfl, rfl, rfl, trivial⟩ ?_
 rintro _ _ _ ⟨i, H1, rfl, rfl, rfl, hi, hJ⟩
 refine Sr ?_
 refine Y Lt ?_
 refine Nq ?_
 refine Sq ?_
 refine Cp (fun h2 => ?_) fun h2 => ?_
 ·
  refine Sk ?_
  refine Pq ?_
  refine Sq ?_
  refine Bk ?_
  refine Sr ?_
  obtain ⟨x14, b14, o14, hx14, he14, hc14⟩ := SlZ.atI hbi i (by omega)
  refine Y (IxY rfl rfl (by omega) he14) ?_
  refine Y Ld ?_
  refine Y As ?_
  refine Nq ?_
  refine Sr ?_
  refine Y Ld ?_
  refine Y Nc ?_
  refine Y Fa ?_
  refine Y Ld ?_
  refine Y Mv ?_
  refine Y LkP ?_
  refine Dal fun b5 => ?_
  refine Dsw ?_
  refine Nq ?_
  refine Sr ?_
  refine Y Mv ?_
  refine Y Fa ?_
  refine Y Ld ?_
  refine Y Fa ?_
  refine Y Ld ?_
  refine Y Fa ?_
  refine Y Fa ?_
  refine Y Ld ?_
  refine Y Fa ?_
  refine Y Fa ?_
  refine Y Ld ?_
  refine Y Bd ?_
  refine Dal fun b6 => ?_
  refine Dsw ?_
  refine Nq ?_
  refine Cut (fun l_ H_ => ∃ fr, fr = (if (parL l x14).found then 0 else (parL l x14).from_) ∧ l_ = [(0, .func (.yield F) #[] #[]), (1, ptr b1 0), (6, ptr b6 0), (10, iv), (11, .int .i64 ((idsL l).length : Int)), (12, .int .i64 (i : Int))] ∧ H_ = .cl b6 [.int .i64 x14, .int .i64 fr, .int .i64 (parL l x14).into, .int .i64 (parL l x14).low, .int .i64 (parL l x14).high] 215 :: .cl b1 [ptr b 0] 111 :: .zm Z :: H1) ?_ ?_
  ·
   refine Sr ?_
   refine Y Fa ?_
   refine Y Ld ?_
   refine Nq ?_
   refine Ct (fun h4 => ?_) fun h4 => ?_
   ·
    refine Rg ?_
    refine Y Fa ?_
    refine Dst ?_
    refine Nl ?_
    refine Cx ⟨0, (by simp [parL, *]), rfl, rfl⟩ ⟨rfl, rfl, rfl, rfl, rfl, rfl, trivial⟩
   ·
    refine Sk ?_
    refine Cx ⟨((parL l x14).from_), (by simp [parL, *]), rfl, rfl⟩ ⟨rfl, rfl, rfl, rfl, rfl, rfl, trivial⟩
  ·
   rintro _ _ ⟨_, rfl, rfl, rfl⟩
   refine Sr ?_
   refine Y Mv ?_
   refine Y LdN ?_
   refine D (Yc (hY _ (arcL l x14) _ _ hJ rfl (arcs_pre hx14))) ?_
   rintro _ _ ⟨b39, H2, hb39, rfl, rfl⟩
   refine Y Nt ?_
   refine Nq ?_
   refine Ct (fun h6 => ?_) fun h6 => ?_
   ·
    have h7 := nb_i h6
    refine Rt ?_
    refine Rb ?_
    refine Rh ?_
    refine Rh ?_
    refine Rb ?_
    refine RvQ H2 (.inr ?_)
    simpa [h7] using hb39
   ·
    have h8 := nb_g h6
    refine Sk ?_
    refine Pb ?_
    refine Pq ?_
    refine Rg ?_
    refine Y Ad ?_
    refine Y Mv ?_
    refine Nl ?_
    refine Re ⟨(i + 1), H2, rfl, rfl, rfl, (by omega), (by rw [← map_take_succ hx14]; simpa [h8] using hb39)⟩ (by omega) ⟨rfl, rfl, rfl, rfl, rfl, trivial⟩
 ·
  refine Ex ?_
  refine Xt ?_
  refine Xt ?_
  refine Xb ?_
  refine RnQ H1 (.inl ⟨_, rfl, ?_⟩)
  rw [map_take_end (by assumption)] at hJ
  exact hJ

set_option maxRecDepth 100000 in
set_option maxHeartbeats 4000000 in
theorem arcs_sp {b : Nat} : Sp Tryz.prog 125 [ptr b 0] [] fun v H' => ∃ b1, v = .func (.func 214) #[] #[ptr b1 0] ∧ H' = [.cl b1 [ptr b 0] 111] := by
 refine Sp.of 4 Tryz.func125 rfl rfl rfl ?_
 intro F
 refine Sr ?_
 refine Dbx (fun b1 => ?_)
 refine Y As ?_
 refine Nq ?_
 refine Sr ?_
 refine Y Mf ?_
 refine Y As ?_
 refine Nq ?_
 refine Rt ?_
 refine Rv [.cl b1 [ptr b 0] 111] ?_
 exact ⟨b1, rfl, rfl⟩

set_option maxRecDepth 100000 in
set_option maxHeartbeats 4000000 in
theorem appendSeqA_sp {k : FuncId} {caps : List Value} {own : List Assn} {S : List Arc → Prop} [TEnter Tryz.prog k] (hseq : SeqH Tryz.prog k caps own (fun v (x : Arc) => v = arcV x) S) (hS : ∀ xs, S xs → xs.length ≤ 1000000) : Sp Tryz.prog 224 [.slice none 0 0, .func (.func k) #[] caps.toArray] own fun v H' => ∃ xs, S xs ∧ H' = .rw EA 215 v xs :: own := by
 refine Sp.ofM 13 Tryz.func224 rfl rfl rfl ?_
 intro F
 refine Sr ?_
 refine Dbx (fun b2 => ?_)
 refine Y As ?_
 refine Nq ?_
 refine Sq ?_
 refine Sr ?_
 refine Y Mv ?_
 refine Nq ?_
 refine Bk ?_
 refine NilRwW EA 215 ?_
 refine WH.weak (SubH.out2 (A := .rw EA 215 (.slice none 0 0) []) (B := .cl b2 [.slice none 0 0] 211)) ?_
 refine Rf (p := 7) (hseq) (fun pre H_ => ∃ v, H_ = .rw EA 215 v pre :: .cl b2 [v] 211 :: F) (fun _ _ => False) (.rw EA 215 (.slice none 0 0) [] :: .cl b2 [.slice none 0 0] 211 :: F) ⟨_, rfl⟩ ?_ ?_ (fun _ _ _ h => h.elim) (ht := Take.app) (hsub := SubH.refl)
 ·
  intro F2 L9 D9 rc pre x v H1 hJ hE hpre
  obtain ⟨v0, rfl⟩ := hJ
  subst hE
  refine Rg ?_
  refine Dal fun b5 => ?_
  refine Dsw ?_
  refine Nl ?_
  refine Bg2 ?_
  refine Bk ?_
  refine Rg ?_
  refine Y Ld ?_
  refine Y LdN ?_
  refine D Bs ?_
  rintro _ _ ⟨b10, rfl, rfl⟩
  refine D (Ap1 x (hm := Nat.le_trans (pre_lenA hS hpre) (by decide))) ?_
  rintro v11 _ rfl
  refine Ks (fun is11 => ?_)
  refine Dst ?_
  refine Nl ?_
  refine Pb ?_
  refine Fe (.rw EA 215 v11 (pre ++ [x]) :: .cl b2 [v11] 211 :: F) ⟨_, rfl⟩
 ·
  intro D9 xs H1 hxs hJ
  obtain ⟨v0, rfl⟩ := hJ
  refine PostH.weak SubH.in3 ?_
  refine Pb ?_
  refine Pq ?_
  refine Sr ?_
  refine Y Ld ?_
  refine Y As ?_
  refine Nq ?_
  refine Rt ?_
  refine RvM1 (xs := [.tmp 4]) (.rw EA 215 v0 xs :: own) (by repeat (first | exact Pick.head | apply Pick.tail)) (ResH.tmp ResH.nil) ?_ (hH := by first | exact SubH.refl | exact SubH.cons Pick.head (SubH.skip SubH.refl) | skip)
  exact ⟨xs, hxs, rfl⟩

set_option maxRecDepth 100000 in
set_option maxHeartbeats 4000000 in
theorem collectA_sp {k : FuncId} {caps : List Value} {own : List Assn} {S : List Arc → Prop} [TEnter Tryz.prog k] (hseq : SeqH Tryz.prog k caps own (fun v (x : Arc) => v = arcV x) S) (hS : ∀ xs, S xs → xs.length ≤ 1000000) : Sp Tryz.prog 148 [.func (.func k) #[] caps.toArray] own fun v H' => ∃ xs, S xs ∧ H' = .rw EA 215 v xs :: own := by
 refine Sp.of 5 Tryz.func148 rfl rfl rfl ?_
 intro F
 refine Sr ?_
 refine Y As ?_
 refine Nq ?_
 refine Sr ?_
 refine Y Mv ?_
 refine D (Cf (hs := (appendSeqA_sp hseq hS)) (ht := Take.app)) ?_
 rintro v4 _ ⟨_, ⟨xs, hxs, rfl⟩, rfl⟩
 refine Y As ?_
 refine Nq ?_
 refine Rt ?_
 refine Rv (.rw EA 215 v4 xs :: own) ?_
 exact ⟨xs, hxs, rfl⟩

set_option maxRecDepth 100000 in
set_option maxHeartbeats 4000000 in
theorem graph_sp {Z : Hp} {b s pb : Nat} {l : List Rep} {iv : Value} (hB : BeaZ Z b l s iv pb := by assumption) (hil : (idsL l).length ≤ 1000000 := by assumption) : Sp Tryz.prog 82 [ptr b 0] [.zm Z] fun v H' => ∃ g av Za, v = ptr g 0 ∧ SlZ EA Za av (arcsL l) ∧ H' = [.cl g [av, .slice none 0 0] 213, .zm Za] := by
 refine Sp.of 8 Tryz.func82 rfl rfl rfl ?_
 intro F
 obtain ⟨lv, mb, ub, hb, hS⟩ := hB.st
 have hba := hB.at_
 have hbp := hB.ps
 have hbi := hB.ids
 have hat := hS.at_
 have hmk := hS.mm
 have hus := hS.us
 refine Sr ?_
 refine Y As ?_
 refine Nq ?_
 refine Sr ?_
 refine Y Mv ?_
 refine D (Cf (hs := arcs_sp)) ?_
 rintro _ _ ⟨_, ⟨b4, rfl, rfl⟩, rfl⟩
 refine D (Cf (hs := collectA_sp (arcs1_seq (b1 := b4)) (fun xs h => by rw [h]; simpa [arcsL] using hil))) ?_
 rintro v5 _ ⟨_, ⟨_, rfl, rfl⟩, rfl⟩
 refine Ks (fun is5 => ?_)
 obtain ⟨A5, n5, c5, rfl⟩ := is5
 refine Y Bd ?_
 refine Dbx (fun b7 => ?_)
 refine Y As ?_
 refine Nq ?_
 refine Rt ?_
 refine FzP (E := EA) (v := .slice A5 n5 c5) fun Za hza => ?_
 refine Rv [.cl b7 [.slice A5 n5 c5, .slice none 0 0] 213, .zm Za] ?_
 exact ⟨b7, _, Za, rfl, hza, rfl⟩

end Go.Lag

namespace Go.Lag
open Go Go.RowKit Go.Proofs
set_option maxRecDepth 100000 in
set_option maxHeartbeats 4000000 in
theorem path_sp {fk : FuncId} {ff fc : List Value} {W : Int → List Assn} {want : Int → Bool} [TEnter Tryz.prog fk] (hw : ∀ x v, Sp Tryz.prog fk (ff ++ [.int .i64 v] ++ fc) (W x) fun u H' => u = .bool (want v) ∧ W v = H') {g : Nat} {av fv : Value} {Za : Hp} {A : List Arc} (hA : SlZ EA Za av A := by assumption) {fl : List Int} (hfl : fl.length = A.length := by assumption) (hAn : A.length ≤ 1000000 := by assumption) {skip fr x0 : Int} : Sp Tryz.prog 143 [ptr g 0, .int .i64 fr, .func (.func fk) ff.toArray fc.toArray, .int .i64 skip] (.cl g [av, fv] 213 :: .rw (EI .i64) 3 fv fl :: .zm Za :: W x0) fun v H' => (∃ u sv, (bfs A fl skip want (2 * A.length + 3) (start fr)).1 = some u ∧ v = .tuple #[sv, .map none] ∧ H' = .rw ES 320 sv (trace A (bfs A fl skip want (2 * A.length + 3) (start fr)).2.by_ fr (bfs A fl skip want (2 * A.length + 3) (start fr)).2.seen.length u) :: .cl g [av, fv] 213 :: .rw (EI .i64) 3 fv fl :: .zm Za :: W u) ∨ (∃ m x, (bfs A fl skip want (2 * A.length + 3) (start fr)).1 = none ∧ v = .tuple #[.slice none 0 0, .map (some m)] ∧ H' = .mp EB m (bfs A fl skip want (2 * A.length + 3) (start fr)).2.seen :: .cl g [av, fv] 213 :: .rw (EI .i64) 3 fv fl :: .zm Za :: W x) := by
 refine Sp.of 154 Tryz.func143 rfl rfl rfl ?_
 intro F
 refine KeW (v := fv) (fun hE => ?_)
 have hAl := hA.len_le
 refine Sr ?_
 refine Y As ?_
 refine Y As ?_
 refine Nq ?_
 refine Sr ?_
 refine D (Mm (StpV)) ?_
 rintro _ _ ⟨m18, rfl, rfl⟩
 refine Y As ?_
 refine Nq ?_
 refine Sr ?_
 refine D (Mm (EB)) ?_
 rintro _ _ ⟨m19, rfl, rfl⟩
 refine Y Mv ?_
 refine Dn (In true) ?_
 rintro _ _ rfl
 refine Y Mv ?_
 refine Y As ?_
 refine Nq ?_
 refine Sr ?_
 refine Y Mv ?_
 refine D Bs ?_
 rintro _ _ ⟨b23, rfl, rfl⟩
 refine ToRwI [fr] ?_
 refine Y As ?_
 refine Nq ?_
 refine Sq ?_
 refine Bk ?_
 refine Lp (fun n_ l_ H_ => ∃ (n : Nat) (s : BSt) (rv : Value) (x : Int), n_ = 0 + n ∧ l_ = [(0, ptr g 0), (1, .int .i64 fr), (2, .func (.func fk) ff.toArray fc.toArray), (3, .int .i64 skip), (10, .map (some m18)), (11, .map (some m19)), (12, rv)] ∧ H_ = .mp StpV m18 (s.by_) :: .mp EB m19 (s.seen) :: .rw (EI .i64) 3 rv (s.row) :: .cl g [av, fv] 213 :: .rw (EI .i64) 3 fv fl :: .zm Za :: (W x ++ F) ∧ (n ≤ (2 * A.length + 3)) ∧ (bfs A fl skip want n s = bfs A fl skip want (2 * A.length + 3) (start fr)) ∧ (todo A fr s < n) ∧ (BAll A fl skip fr s)) ⟨(2 * A.length + 3), (start fr), _, x0, rfl, rfl, rfl, (Nat.le_refl _), rfl, (start_todo A fr), (start_all A fl skip fr)⟩ ⟨rfl, rfl, rfl, rfl, rfl, rfl, rfl, trivial⟩ ?_
 rintro _ _ _ ⟨n, s, rv, x, rfl, rfl, rfl, hnN, hres, hn, hall⟩
 refine Sq ?_
 refine Sr ?_
 refine Y Mv ?_
 refine Y Ln ?_
 refine Y Gr ?_
 refine Nq ?_
 refine Cp (fun h2 => ?_) fun h2 => ?_
 ·
  refine Sk ?_
  refine Pq ?_
  refine Bk ?_
  refine Sr ?_
  refine Y Mv ?_
  refine IxN (i := 0) fun x28 b28 o28 hx28 he28 => ?_
  refine Y Ld ?_
  refine Y As ?_
  refine Nq ?_
  refine Sr ?_
  refine Y Mv ?_
  refine SlOd (i := 1) (fun v31 => ?_)
  refine Y As ?_
  refine Nq ?_
  refine Sq ?_
  refine Sr ?_
  have hvis : visB s.seen x28 = true := by obtain ⟨⟨rk, hb⟩, _⟩ := hall; exact hb.row x28 (mem_get hx28)
  refine Y Mv ?_
  refine Y Mv ?_
  refine D (Cc (hs := (hw x x28)) (ht := by repeat (first | exact Take.app | apply Take.skip))) ?_
  rintro _ _ ⟨_, ⟨rfl, rfl⟩, rfl⟩
  refine RegH.weak (SubH.mid (Xs := [_, _, _, _, _, _])) ?_
  refine Nq ?_
  refine Ct (fun h4 => ?_) fun h4 => ?_
  ·
   refine Sr ?_
   have hwt := h4
   obtain ⟨⟨rk, hinv⟩, hT⟩ := hall
   have hsl := seen_len hinv
   refine Y As ?_
   refine Nq ?_
   refine Sq ?_
   refine Bk ?_
   refine NilRwW ES 320 ?_
   refine Lp (fun n_ l_ H_ => ∃ (k : Nat) (v : Int) (ov : Value) (out : List Stp), n_ = 0 + k ∧ l_ = [(0, ptr g 0), (1, .int .i64 fr), (10, .map (some m18)), (13, .int .i64 v), (14, ov)] ∧ H_ = .rw ES 320 ov out :: .mp StpV m18 s.by_ :: .cl g [av, fv] 213 :: .rw (EI .i64) 3 fv fl :: .zm Za :: (W x28 ++ F) ∧ (visB s.seen v = true) ∧ (rk v < k) ∧ (out ++ trace A s.by_ fr k v = trace A s.by_ fr s.seen.length x28) ∧ (out.length + k ≤ s.seen.length)) ⟨s.seen.length, x28, (.slice none 0 0), [], rfl, rfl, rfl, hvis, (hinv.lt _ hvis), rfl, (by simp)⟩ ⟨rfl, rfl, rfl, rfl, rfl, trivial⟩ ?_
   rintro _ _ _ ⟨k, v, ov, out, rfl, rfl, rfl, hv, hrk, ho, hol⟩
   refine Sq ?_
   refine Sr ?_
   refine Y Mv ?_
   refine Y Mv ?_
   refine Y Ne_ ?_
   refine Nq ?_
   refine Cn (fun h6 => ?_) fun h6 => ?_
   ·
    refine Sk ?_
    refine Pq ?_
    refine Bk ?_
    refine Sr ?_
    refine Y Mv ?_
    refine Y Mv ?_
    refine Y LkS ?_
    obtain ⟨st, hst, hok, hpv, hpr⟩ := hinv.by_ v hv h6
    have hsg : (aget s.by_ v).getD ⟨0, 0⟩ = st := by rw [hst]; rfl
    rw [hsg]
    obtain ⟨ha0, ha1, hask, hway⟩ := hok
    refine Dal fun b15 => ?_
    refine Dsw ?_
    refine Nq ?_
    refine Sr ?_
    refine Y Mv ?_
    refine Y LdN ?_
    refine D Bs ?_
    rintro _ _ ⟨b43, rfl, rfl⟩
    refine D (Ap1 st (hm := by omega)) ?_
    rintro v44 _ rfl
    refine Y As ?_
    refine Nq ?_
    refine Sr ?_
    refine Y Fa ?_
    refine Y Ld ?_
    refine Y Gr ?_
    refine Nq ?_
    refine Cp (fun h8 => ?_) fun h8 => ?_
    ·
     refine Dr (fun i => false) _ SubH.refl ?_
     refine Tk 0 [] rfl Mv ?_
     refine Tk 1 [] rfl Nc ?_
     refine Tk 2 [] rfl Fa ?_
     refine Tk 3 [] rfl Ld ?_
     refine Tk 4 [] rfl Fa ?_
     refine Tk 5 [] rfl Ld ?_
     obtain ⟨x54, b54, o54, hx54, he54, hc54⟩ := SlZ.atF (fun x => arcCells x) (fun _ _ h => h) hA st.arc.toNat (by omega)
     refine Tk 6 [] rfl (IxY rfl rfl (by omega) he54) ?_
     refine Tk 7 [] rfl Fa ?_
     refine Tk 8 [] rfl Ld ?_
     refine Tk 9 [] rfl As ?_
     refine An ?_
     refine Pb ?_
     have hpa : prevA A st = x54.from_ := by simp [prevA, aAt, hx54, h8]
     refine Re ⟨(k - 1), x54.from_, v44, (out ++ [st]), rfl, rfl, rfl, (by rw [← hpa]; exact hpv), (by rw [hpa] at hpr; omega), (by rw [← ho, trace_step h6 hst hpa (by omega)]; simp), (by simp; omega)⟩ (by omega) ⟨rfl, rfl, rfl, rfl, rfl, trivial⟩
    ·
     refine Dr (fun i => false) _ SubH.refl ?_
     refine Tk 0 [] rfl Mv ?_
     refine Tk 1 [] rfl Nc ?_
     refine Tk 2 [] rfl Fa ?_
     refine Tk 3 [] rfl Ld ?_
     refine Tk 4 [] rfl Fa ?_
     refine Tk 5 [] rfl Ld ?_
     obtain ⟨x63, b63, o63, hx63, he63, hc63⟩ := SlZ.atF (fun x => arcCells x) (fun _ _ h => h) hA st.arc.toNat (by omega)
     refine Tk 6 [] rfl (IxY rfl rfl (by omega) he63) ?_
     refine Tk 7 [] rfl Fa ?_
     refine Tk 8 [] rfl Ld ?_
     refine Tk 9 [] rfl As ?_
     refine An ?_
     refine Pb ?_
     have hpa : prevA A st = x63.to := by simp [prevA, aAt, hx63, h8]
     refine Re ⟨(k - 1), x63.to, v44, (out ++ [st]), rfl, rfl, rfl, (by rw [← hpa]; exact hpv), (by rw [hpa] at hpr; omega), (by rw [← ho, trace_step h6 hst hpa (by omega)]; simp), (by simp; omega)⟩ (by omega) ⟨rfl, rfl, rfl, rfl, rfl, trivial⟩
   ·
    refine Ex ?_
    refine Xt ?_
    refine Xt ?_
    refine Xb ?_
    refine Pq ?_
    refine Sr ?_
    refine Y Mv ?_
    refine Y As ?_
    refine Y As ?_
    refine Nq ?_
    refine Rt ?_
    refine Rh ?_
    refine Rb ?_
    refine Rh ?_
    refine Rb ?_
    refine Rh ?_
    have hR := hres.symm.trans (bfs_found hn hx28 hwt)
    refine Rv2 (.rw ES 320 ov out :: .cl g [av, fv] 213 :: .rw (EI .i64) 3 fv fl :: .zm Za :: W x28) ?_
    rw [hR]
    exact .inl ⟨x28, ov, rfl, rfl, by rw [← ho, h6, trace_end, List.append_nil]⟩
  ·
   refine Sk ?_
   refine Pq ?_
   refine Sr ?_
   have hbn := bfs_next (skip := skip) (fl := fl) (want := want) hn hx28 h4
   have htd0 : todo A fr ⟨s.by_, s.seen, s.row.drop 1⟩ < n := by simp only [todo, List.length_drop] at hn ⊢; omega
   refine Y Mv ?_
   refine Y Nc ?_
   refine Y Fa ?_
   refine Y Ld ?_
   refine Y Ln ?_
   refine Y Mv ?_
   refine Nq ?_
   refine Bk ?_
   refine Lp (fun n_ l_ H_ => ∃ (i : Nat) (rv2 : Value) (s2 : BSt), n_ = A.length - i ∧ l_ = [(0, ptr g 0), (1, .int .i64 fr), (2, .func (.func fk) ff.toArray fc.toArray), (3, .int .i64 skip), (10, .map (some m18)), (11, .map (some m19)), (13, .int .i64 x28), (12, rv2), (70, av), (71, .int .i64 (A.length : Int)), (72, .int .i64 (i : Int))] ∧ H_ = .mp StpV m18 (s2.by_) :: .mp EB m19 (s2.seen) :: .rw (EI .i64) 3 rv2 (s2.row) :: .cl g [av, fv] 213 :: .rw (EI .i64) 3 fv fl :: .zm Za :: (W x28 ++ F) ∧ (i ≤ A.length) ∧ (s2 = bRow A fl skip x28 ⟨s.by_, s.seen, s.row.drop 1⟩ i)) ⟨0, v31, ⟨s.by_, s.seen, s.row.drop 1⟩, rfl, rfl, rfl, (by omega), rfl⟩ ⟨rfl, rfl, rfl, rfl, rfl, rfl, rfl, rfl, rfl, rfl, rfl, trivial⟩ ?_
   rintro _ _ _ ⟨i, rv2, s2, rfl, rfl, rfl, hi, hs2⟩
   have htd : todo A fr s2 < n := by rw [hs2]; exact Nat.lt_of_le_of_lt (bRow_todo hi) htd0
   have hrl := row_le htd
   refine Sr ?_
   refine Y Lt ?_
   refine Nq ?_
   refine Sq ?_
   refine Cp (fun h10 => ?_) fun h10 => ?_
   ·
    refine Sk ?_
    refine Pq ?_
    refine Sq ?_
    refine Bk ?_
    refine Sr ?_
    refine Y Mv ?_
    obtain ⟨x75, b75, o75, hx75, he75, hc75⟩ := SlZ.atF (fun x => arcCells x) (fun _ _ h => h) hA i (by omega)
    refine Y (IxY rfl rfl (by omega) he75) ?_
    refine Y LdN ?_
    refine Dal fun b17 => ?_
    refine Y As ?_
    refine Dsw ?_
    refine Nq ?_
    refine Sq ?_
    refine Sr ?_
    refine Y Mv ?_
    refine Y Mv ?_
    refine Y Eq_ ?_
    refine Nq ?_
    refine Cp (fun h12 => ?_) fun h12 => ?_
    ·
     refine Ex ?_
     refine Xt ?_
     refine Xb ?_
     refine Pq ?_
     refine Rg ?_
     refine Y Ad ?_
     refine Y Mv ?_
     refine Nl ?_
     refine Re ⟨(i + 1), rv2, s2, rfl, rfl, rfl, (by omega), (by rw [bRow_succ, ← hs2]; exact bArc_skip h12)⟩ (by omega) ⟨rfl, rfl, rfl, rfl, rfl, rfl, rfl, rfl, rfl, rfl, rfl, trivial⟩
    ·
     refine Sk ?_
     refine Pq ?_
     refine Cut (fun l_ H_ => ∃ rv3 s3, s3 = bUp (aAt A i) (fAt fl i) x28 i s2 ∧ l_ = [(0, ptr g 0), (1, .int .i64 fr), (2, .func (.func fk) ff.toArray fc.toArray), (3, .int .i64 skip), (10, .map (some m18)), (11, .map (some m19)), (13, .int .i64 x28), (16, .int .i64 (i : Int)), (17, ptr b17 0), (70, av), (71, .int .i64 (A.length : Int)), (72, .int .i64 (i : Int)), (12, rv3)] ∧ H_ = .cl b17 (arcCells x75) 215 :: .mp StpV m18 (s3.by_) :: .mp EB m19 (s3.seen) :: .rw (EI .i64) 3 rv3 (s3.row) :: .cl g [av, fv] 213 :: .rw (EI .i64) 3 fv fl :: .zm Za :: (W x28 ++ F)) ?_ ?_
     ·
      refine Drq (fun i => false) _ SubH.refl ?_
      refine Tk 0 [] rfl Fa ?_
      refine Tk 1 [] rfl Ld ?_
      refine Tk 2 [] rfl Mv ?_
      refine Tk 3 [] rfl Eq_ ?_
      refine Tk 4 [] rfl Mv ?_
      refine GcDA 83 (fun h14 => ?_) fun h14 => ?_
      ·
       refine TkG 5 [] rfl (decide_eq_true h14) Mv ?_
       refine TkG 6 [] rfl (decide_eq_true h14) Fa ?_
       refine TkG 7 [] rfl (decide_eq_true h14) Ld ?_
       refine TkG 8 [] rfl (decide_eq_true h14) LkB ?_
       refine TkG 9 [] rfl (decide_eq_true h14) Nt ?_
       refine Tk 10 [] rfl (PkT (hb := decide_eq_true h14)) ?_
       refine Tk 11 [] rfl Mv ?_
       refine GcBA 88 (fun h16 => ?_) fun h16 => ?_
       ·
        refine TkF 12 [] rfl (nb_f h16) ?_
        refine TkF 13 [] rfl (nb_f h16) ?_
        refine TkF 14 [] rfl (nb_f h16) ?_
        refine TkF 15 [] rfl (nb_f h16) ?_
        refine TkF 16 [] rfl (nb_f h16) ?_
        refine TkF 17 [] rfl (nb_f h16) ?_
        refine TkF 18 [] rfl (nb_f h16) ?_
        refine TkF 19 [] rfl (nb_f h16) ?_
        refine TkF 20 [] rfl (nb_f h16) ?_
        refine TkF 21 [] rfl (nb_f h16) ?_
        refine Tk 22 [] rfl (PkF (hb := nb_f h16)) ?_
        refine Anq ?_
        refine CtF rfl ?_
        refine Sk ?_
        refine Cx ⟨rv2, s2, (bUp_2 hx75 h16).symm, rfl, rfl⟩ ⟨rfl, rfl, rfl, rfl, rfl, rfl, rfl, rfl, rfl, rfl, rfl, rfl, rfl, trivial⟩
       ·
        refine TkG 12 [] rfl (nb_t h16) Mv ?_
        refine TkG 13 [] rfl (nb_t h16) Nc ?_
        refine TkG 14 [] rfl (nb_t h16) Fa ?_
        refine TkG 15 [] rfl (nb_t h16) Ld ?_
        refine TkG 16 [] rfl (nb_t h16) Mv ?_
        obtain ⟨b97, o97, he97⟩ := hE i (by omega)
        obtain ⟨f97, hf97⟩ : ∃ f, fl[i]? = some f := ⟨_, List.getElem?_eq_getElem (by omega)⟩
        refine TkG 17 [] rfl (nb_t h16) (IxY rfl rfl (by omega) he97) ?_
        refine TkG 18 [] rfl (nb_t h16) Ld ?_
        refine TkG 19 [] rfl (nb_t h16) Fa ?_
        refine TkG 20 [] rfl (nb_t h16) Ld ?_
        refine TkG 21 [] rfl (nb_t h16) Lt ?_
        refine Tk 22 [] rfl (PkT (hb := nb_t h16)) ?_
        refine Anq ?_
        refine Cp (fun h18 => ?_) fun h18 => ?_
        ·
         refine Drq (fun i => false) [.cl b17 (arcCells x75) 215] (by repeat (first | exact SubH.refl | exact SubH.nil | refine SubH.cons (by repeat (first | exact Pick.head | apply Pick.tail)) ?_ | refine SubH.skip ?_)) ?_
         refine Tk 0 [] rfl Mv ?_
         refine Tk 1 [] rfl Fa ?_
         refine Tk 2 [] rfl Ld ?_
         refine Tk 3 [] rfl Mv ?_
         refine Tk 4 [] rfl Fa ?_
         refine Tk 5 [] rfl Ld ?_
         refine Tk 6 [] rfl Mv ?_
         refine Tk 7 [] rfl Bd ?_
         refine Gxn 8 rfl (Mu true) ?_
         rintro _ _ rfl
         refine ⟨fun _ => (by repeat (first | exact SubH.refl | exact SubH.nil | refine SubH.cons (by repeat (first | exact Pick.head | apply Pick.tail)) ?_ | refine SubH.skip ?_)), ?_⟩
         refine Gxn 9 rfl (Mu (⟨(i : Int), 1⟩ : Stp)) ?_
         rintro _ _ rfl
         refine ⟨fun _ => (by repeat (first | exact SubH.refl | exact SubH.nil | refine SubH.cons (by repeat (first | exact Pick.head | apply Pick.tail)) ?_ | refine SubH.skip ?_)), ?_⟩
         refine Anq ?_
         refine Rg ?_
         refine Y Mv ?_
         refine Y Fa ?_
         refine Y Ld ?_
         refine D Bs ?_
         rintro _ _ ⟨b114, rfl, rfl⟩
         refine D (Ap1 x75.to (hm := by omega)) ?_
         rintro v115 _ rfl
         refine Y As ?_
         refine Nl ?_
         refine Cx ⟨v115, (push s2 x75.to ⟨i, 1⟩), (bUp_t hx75 hf97 h14 h16 h18).symm, rfl, rfl⟩ ⟨rfl, rfl, rfl, rfl, rfl, rfl, rfl, rfl, rfl, rfl, rfl, rfl, rfl, trivial⟩
        ·
         refine Sk ?_
         refine Cx ⟨rv2, s2, (bUp_3 hx75 hf97 h18).symm, rfl, rfl⟩ ⟨rfl, rfl, rfl, rfl, rfl, rfl, rfl, rfl, rfl, rfl, rfl, rfl, rfl, trivial⟩
      ·
       refine TkF 5 [] rfl (decide_eq_false h14) ?_
       refine TkF 6 [] rfl (decide_eq_false h14) ?_
       refine TkF 7 [] rfl (decide_eq_false h14) ?_
       refine TkF 8 [] rfl (decide_eq_false h14) ?_
       refine TkF 9 [] rfl (decide_eq_false h14) ?_
       refine Tk 10 [] rfl (PkF (hb := decide_eq_false h14)) ?_
       refine Tk 11 [] rfl Mv ?_
       refine TkF 12 [] rfl rfl ?_
       refine TkF 13 [] rfl rfl ?_
       refine TkF 14 [] rfl rfl ?_
       refine TkF 15 [] rfl rfl ?_
       refine TkF 16 [] rfl rfl ?_
       refine TkF 17 [] rfl rfl ?_
       refine TkF 18 [] rfl rfl ?_
       refine TkF 19 [] rfl rfl ?_
       refine TkF 20 [] rfl rfl ?_
       refine TkF 21 [] rfl rfl ?_
       refine Tk 22 [] rfl (PkF (hb := rfl)) ?_
       refine Anq ?_
       refine CtF rfl ?_
       refine Sk ?_
       refine Cx ⟨rv2, s2, (bUp_1 hx75 h14).symm, rfl, rfl⟩ ⟨rfl, rfl, rfl, rfl, rfl, rfl, rfl, rfl, rfl, rfl, rfl, rfl, rfl, trivial⟩
     ·
      rintro _ _ ⟨rv3, s3, hs3, rfl, rfl⟩
      have htd3 : todo A fr s3 < n := by rw [hs3]; exact Nat.lt_of_le_of_lt (bUp_todo (by omega)) htd
      have hrl3 := row_le htd3
      refine Drq (fun i => false) _ SubH.refl ?_
      refine Tk 0 [] rfl Fa ?_
      refine Tk 1 [] rfl Ld ?_
      refine Tk 2 [] rfl Mv ?_
      refine Tk 3 [] rfl Eq_ ?_
      refine Tk 4 [] rfl Mv ?_
      refine GcDA 119 (fun h20 => ?_) fun h20 => ?_
      ·
       refine TkG 5 [] rfl (decide_eq_true h20) Mv ?_
       refine TkG 6 [] rfl (decide_eq_true h20) Fa ?_
       refine TkG 7 [] rfl (decide_eq_true h20) Ld ?_
       refine TkG 8 [] rfl (decide_eq_true h20) LkB ?_
       refine TkG 9 [] rfl (decide_eq_true h20) Nt ?_
       refine Tk 10 [] rfl (PkT (hb := decide_eq_true h20)) ?_
       refine Tk 11 [] rfl Mv ?_
       refine GcBA 124 (fun h22 => ?_) fun h22 => ?_
       ·
        refine TkF 12 [] rfl (nb_f h22) ?_
        refine TkF 13 [] rfl (nb_f h22) ?_
        refine TkF 14 [] rfl (nb_f h22) ?_
        refine TkF 15 [] rfl (nb_f h22) ?_
        refine TkF 16 [] rfl (nb_f h22) ?_
        refine TkF 17 [] rfl (nb_f h22) ?_
        refine TkF 18 [] rfl (nb_f h22) ?_
        refine TkF 19 [] rfl (nb_f h22) ?_
        refine TkF 20 [] rfl (nb_f h22) ?_
        refine TkF 21 [] rfl (nb_f h22) ?_
        refine Tk 22 [] rfl (PkF (hb := nb_f h22)) ?_
        refine Anq ?_
        refine CtF rfl ?_
        refine Sk ?_
        refine Pb ?_
        refine Pq ?_
        refine Rg ?_
        refine Y Ad ?_
        refine Y Mv ?_
        refine Nl ?_
        refine Re ⟨(i + 1), rv3, s3, rfl, rfl, rfl, (by omega), (by rw [bRow_succ, ← hs2, bArc_do h12, ← hs3, bDn_2 hx75 h22])⟩ (by omega) ⟨rfl, rfl, rfl, rfl, rfl, rfl, rfl, rfl, rfl, rfl, rfl, trivial⟩
       ·
        refine TkG 12 [] rfl (nb_t h22) Mv ?_
        refine TkG 13 [] rfl (nb_t h22) Nc ?_
        refine TkG 14 [] rfl (nb_t h22) Fa ?_
        refine TkG 15 [] rfl (nb_t h22) Ld ?_
        refine TkG 16 [] rfl (nb_t h22) Mv ?_
        obtain ⟨b133, o133, he133⟩ := hE i (by omega)
        obtain ⟨f133, hf133⟩ : ∃ f, fl[i]? = some f := ⟨_, List.getElem?_eq_getElem (by omega)⟩
        refine TkG 17 [] rfl (nb_t h22) (IxY rfl rfl (by omega) he133) ?_
        refine TkG 18 [] rfl (nb_t h22) Ld ?_
        refine TkG 19 [] rfl (nb_t h22) Fa ?_
        refine TkG 20 [] rfl (nb_t h22) Ld ?_
        refine TkG 21 [] rfl (nb_t h22) Gr ?_
        refine Tk 22 [] rfl (PkT (hb := nb_t h22)) ?_
        refine Anq ?_
        refine Cp (fun h24 => ?_) fun h24 => ?_
        ·
         refine Drq (fun i => false) [.cl b17 (arcCells x75) 215] (by repeat (first | exact SubH.refl | exact SubH.nil | refine SubH.cons (by repeat (first | exact Pick.head | apply Pick.tail)) ?_ | refine SubH.skip ?_)) ?_
         refine Tk 0 [] rfl Mv ?_
         refine Tk 1 [] rfl Fa ?_
         refine Tk 2 [] rfl Ld ?_
         refine Tk 3 [] rfl Mv ?_
         refine Tk 4 [] rfl Fa ?_
         refine Tk 5 [] rfl Ld ?_
         refine Tk 6 [] rfl Mv ?_
         refine Tk 7 [] rfl Bd ?_
         refine Gxn 8 rfl (Mu true) ?_
         rintro _ _ rfl
         refine ⟨fun _ => (by repeat (first | exact SubH.refl | exact SubH.nil | refine SubH.cons (by repeat (first | exact Pick.head | apply Pick.tail)) ?_ | refine SubH.skip ?_)), ?_⟩
         refine Gxn 9 rfl (Mu (⟨(i : Int), -1⟩ : Stp)) ?_
         rintro _ _ rfl
         refine ⟨fun _ => (by repeat (first | exact SubH.refl | exact SubH.nil | refine SubH.cons (by repeat (first | exact Pick.head | apply Pick.tail)) ?_ | refine SubH.skip ?_)), ?_⟩
         refine Anq ?_
         refine Rg ?_
         refine Y Mv ?_
         refine Y Fa ?_
         refine Y Ld ?_
         refine D Bs ?_
         rintro _ _ ⟨b150, rfl, rfl⟩
         refine D (Ap1 x75.from_ (hm := by omega)) ?_
         rintro v151 _ rfl
         refine Y As ?_
         refine Nl ?_
         refine Pb ?_
         refine Pq ?_
         refine Rg ?_
         refine Y Ad ?_
         refine Y Mv ?_
         refine Nl ?_
         refine Re ⟨(i + 1), v151, (push s3 x75.from_ ⟨i, -1⟩), rfl, rfl, rfl, (by omega), (by rw [bRow_succ, ← hs2, bArc_do h12, ← hs3, bDn_t hx75 hf133 h20 h22 h24])⟩ (by omega) ⟨rfl, rfl, rfl, rfl, rfl, rfl, rfl, rfl, rfl, rfl, rfl, trivial⟩
        ·
         refine Sk ?_
         refine Pb ?_
         refine Pq ?_
         refine Rg ?_
         refine Y Ad ?_
         refine Y Mv ?_
         refine Nl ?_
         refine Re ⟨(i + 1), rv3, s3, rfl, rfl, rfl, (by omega), (by rw [bRow_succ, ← hs2, bArc_do h12, ← hs3, bDn_3 hx75 hf133 h24])⟩ (by omega) ⟨rfl, rfl, rfl, rfl, rfl, rfl, rfl, rfl, rfl, rfl, rfl, trivial⟩
      ·
       refine TkF 5 [] rfl (decide_eq_false h20) ?_
       refine TkF 6 [] rfl (decide_eq_false h20) ?_
       refine TkF 7 [] rfl (decide_eq_false h20) ?_
       refine TkF 8 [] rfl (decide_eq_false h20) ?_
       refine TkF 9 [] rfl (decide_eq_false h20) ?_
       refine Tk 10 [] rfl (PkF (hb := decide_eq_false h20)) ?_
       refine Tk 11 [] rfl Mv ?_
       refine TkF 12 [] rfl rfl ?_
       refine TkF 13 [] rfl rfl ?_
       refine TkF 14 [] rfl rfl ?_
       refine TkF 15 [] rfl rfl ?_
       refine TkF 16 [] rfl rfl ?_
       refine TkF 17 [] rfl rfl ?_
       refine TkF 18 [] rfl rfl ?_
       refine TkF 19 [] rfl rfl ?_
       refine TkF 20 [] rfl rfl ?_
       refine TkF 21 [] rfl rfl ?_
       refine Tk 22 [] rfl (PkF (hb := rfl)) ?_
       refine Anq ?_
       refine CtF rfl ?_
       refine Sk ?_
       refine Pb ?_
       refine Pq ?_
       refine Rg ?_
       refine Y Ad ?_
       refine Y Mv ?_
       refine Nl ?_
       refine Re ⟨(i + 1), rv3, s3, rfl, rfl, rfl, (by omega), (by rw [bRow_succ, ← hs2, bArc_do h12, ← hs3, bDn_1 hx75 h20])⟩ (by omega) ⟨rfl, rfl, rfl, rfl, rfl, rfl, rfl, rfl, rfl, rfl, rfl, trivial⟩
   ·
    refine Ex ?_
    refine Xt ?_
    refine Xt ?_
    refine Xb ?_
    refine Pb ?_
    have hie : i = A.length := by omega
    refine Re ⟨(n - 1), s2, rv2, x28, rfl, rfl, rfl, (by omega), (by rw [hs2, hie, ← hbn.1]; exact hres), (by rw [hs2, hie]; exact hbn.2), (by rw [hs2, hie]; exact (bRow_inv (pop_inv hall 1) hvis (Nat.le_refl _)).1)⟩ (by unfold todo at hn; omega) ⟨rfl, rfl, rfl, rfl, rfl, rfl, rfl, trivial⟩
 ·
  refine Ex ?_
  refine Xt ?_
  refine Xt ?_
  refine Xb ?_
  refine Pq ?_
  refine Sr ?_
  refine Y Mv ?_
  refine Y As ?_
  refine Y As ?_
  refine Nq ?_
  refine Rt ?_
  have hR := hres.symm.trans (bfs_end h2)
  refine Rv2 (.mp EB m19 s.seen :: .cl g [av, fv] 213 :: .rw (EI .i64) 3 fv fl :: .zm Za :: W x) ?_
  rw [hR]
  exact .inr ⟨m19, x, rfl, rfl, rfl⟩

end Go.Lag

namespace Go.Lag
open Go Go.RowKit Go.Proofs
set_option maxRecDepth 100000 in
set_option maxHeartbeats 4000000 in
theorem room_sp {g : Nat} {av fv sv : Value} {Za : Hp} {A : List Arc} (hA : SlZ EA Za av A := by assumption) {fl : List Int} (hfl : fl.length = A.length := by assumption) {out : List Stp} (hol : out.length ≤ 100000000 := by first | assumption | omega) (hoA : ∀ s ∈ out, 0 ≤ s.arc ∧ s.arc < (A.length : Int) := by assumption) {n : Int} (hAb : ABnd A := by assumption) (hfb : FBnd fl 100000000 := by assumption) : Sp Tryz.prog 146 [ptr g 0, sv, .int .i64 n] [.rw ES 320 sv out, .cl g [av, fv] 213, .rw (EI .i64) 3 fv fl, .zm Za] fun v H' => v = .int .i64 (roomL A fl out n) ∧ [.rw ES 320 sv out, .cl g [av, fv] 213, .rw (EI .i64) 3 fv fl, .zm Za] = H' := by
 refine Sp.of 60 Tryz.func146 rfl rfl rfl ?_
 intro F
 refine KeW (v := fv) (fun hE => ?_)
 have hAl := hA.len_le
 refine Sr ?_
 refine Y As ?_
 refine Nq ?_
 refine Sq ?_
 refine Sr ?_
 refine Y Mv ?_
 refine Y Ln ?_
 refine Y Mv ?_
 refine Nq ?_
 refine Bk ?_
 refine Lp (fun n_ l_ H_ => ∃ (i : Nat) (m : Int), n_ = out.length - i ∧ l_ = [(0, ptr g 0), (2, .int .i64 m), (9, sv), (10, .int .i64 (out.length : Int)), (11, .int .i64 (i : Int))] ∧ H_ = .rw ES 320 sv out :: .cl g [av, fv] 213 :: .rw (EI .i64) 3 fv fl :: .zm Za :: F ∧ (i ≤ out.length) ∧ (m = (out.take i).foldl (room1 A fl) n)) ⟨0, n, rfl, rfl, rfl, (by omega), rfl⟩ ⟨rfl, rfl, rfl, rfl, rfl, trivial⟩ ?_
 rintro _ _ _ ⟨i, m, rfl, rfl, rfl, hi, hm⟩
 refine Sr ?_
 refine Y Lt ?_
 refine Nq ?_
 refine Sq ?_
 refine Cp (fun h2 => ?_) fun h2 => ?_
 ·
  refine Sk ?_
  refine Pq ?_
  refine Sq ?_
  refine Bk ?_
  refine Sr ?_
  refine IxN fun x13 b13 o13 hx13 he13 => ?_
  refine Y LdN ?_
  refine Dal fun b8 => ?_
  refine Dsw ?_
  refine Nq ?_
  refine Sr ?_
  obtain ⟨ha0, ha1⟩ := hoA x13 (mem_get hx13)
  refine Y Fa ?_
  refine Y Ld ?_
  refine Y Gr ?_
  refine Nq ?_
  refine Cp (fun h4 => ?_) fun h4 => ?_
  ·
   refine Dr (fun i => false) _ SubH.refl ?_
   refine Tk 0 [] rfl Mv ?_
   refine Tk 1 [] rfl Mv ?_
   refine Tk 2 [] rfl Nc ?_
   refine Tk 3 [] rfl Fa ?_
   refine Tk 4 [] rfl Ld ?_
   refine Tk 5 [] rfl Fa ?_
   refine Tk 6 [] rfl Ld ?_
   obtain ⟨x25, b25, o25, hx25, he25, hc25⟩ := SlZ.atF (fun x => arcCells x) (fun _ _ h => h) hA x13.arc.toNat (by omega)
   refine Tk 7 [] rfl (IxY rfl rfl (by omega) he25) ?_
   refine Tk 8 [] rfl Fa ?_
   refine Tk 9 [] rfl Ld ?_
   refine Tk 10 [] rfl Mv ?_
   refine Tk 11 [] rfl Nc ?_
   refine Tk 12 [] rfl Fa ?_
   refine Tk 13 [] rfl Ld ?_
   refine Tk 14 [] rfl Fa ?_
   refine Tk 15 [] rfl Ld ?_
   obtain ⟨b34, o34, he34⟩ := hE x13.arc.toNat (by omega)
   obtain ⟨f34, hf34⟩ : ∃ f, fl[x13.arc.toNat]? = some f := ⟨_, List.getElem?_eq_getElem (by omega)⟩
   refine Tk 16 [] rfl (IxY rfl rfl (by omega) he34) ?_
   refine Tk 17 [] rfl Ld ?_
   have hab := hAb _ (mem_get hx25)
   have hfbb := hfb _ (mem_get hf34)
   refine Tk 18 [] rfl Su ?_
   refine Tk 19 [] rfl Mn ?_
   refine Tk 20 [] rfl As ?_
   refine An ?_
   refine Pb ?_
   refine Pq ?_
   refine Rg ?_
   refine Y Ad ?_
   refine Y Mv ?_
   refine Nl ?_
   refine Re ⟨(i + 1), _, rfl, rfl, rfl, (by omega), (by rw [foldl_take_succ hx13, ← hm]; exact room_t hx25 hf34 h4)⟩ (by omega) ⟨rfl, rfl, rfl, rfl, rfl, trivial⟩
  ·
   refine Dr (fun i => false) _ SubH.refl ?_
   refine Tk 0 [] rfl Mv ?_
   refine Tk 1 [] rfl Mv ?_
   refine Tk 2 [] rfl Nc ?_
   refine Tk 3 [] rfl Fa ?_
   refine Tk 4 [] rfl Ld ?_
   refine Tk 5 [] rfl Fa ?_
   refine Tk 6 [] rfl Ld ?_
   obtain ⟨b45, o45, he45⟩ := hE x13.arc.toNat (by omega)
   obtain ⟨f45, hf45⟩ : ∃ f, fl[x13.arc.toNat]? = some f := ⟨_, List.getElem?_eq_getElem (by omega)⟩
   refine Tk 7 [] rfl (IxY rfl rfl (by omega) he45) ?_
   refine Tk 8 [] rfl Ld ?_
   refine Tk 9 [] rfl Mv ?_
   refine Tk 10 [] rfl Nc ?_
   refine Tk 11 [] rfl Fa ?_
   refine Tk 12 [] rfl Ld ?_
   refine Tk 13 [] rfl Fa ?_
   refine Tk 14 [] rfl Ld ?_
   obtain ⟨x53, b53, o53, hx53, he53, hc53⟩ := SlZ.atF (fun x => arcCells x) (fun _ _ h => h) hA x13.arc.toNat (by omega)
   refine Tk 15 [] rfl (IxY rfl rfl (by omega) he53) ?_
   refine Tk 16 [] rfl Fa ?_
   refine Tk 17 [] rfl Ld ?_
   have hab := hAb _ (mem_get hx53)
   have hfbb := hfb _ (mem_get hf45)
   refine Tk 18 [] rfl Su ?_
   refine Tk 19 [] rfl Mn ?_
   refine Tk 20 [] rfl As ?_
   refine An ?_
   refine Pb ?_
   refine Pq ?_
   refine Rg ?_
   refine Y Ad ?_
   refine Y Mv ?_
   refine Nl ?_
   refine Re ⟨(i + 1), _, rfl, rfl, rfl, (by omega), (by rw [foldl_take_succ hx13, ← hm]; exact room_f hx53 hf45 h4)⟩ (by omega) ⟨rfl, rfl, rfl, rfl, rfl, trivial⟩
 ·
  refine Ex ?_
  refine Xt ?_
  refine Xt ?_
  refine Xb ?_
  refine Pq ?_
  refine Sr ?_
  refine Y Mv ?_
  refine Y As ?_
  refine Nq ?_
  refine Rt ?_
  rw [take_all (by assumption)] at hm
  subst hm
  refine Rv [.rw ES 320 sv out, .cl g [av, fv] 213, .rw (EI .i64) 3 fv fl, .zm Za] ?_
  exact ⟨rfl, rfl⟩

set_option maxRecDepth 100000 in
set_option maxHeartbeats 4000000 in
theorem lead_sp {g : Nat} {av fv sv : Value} {Za : Hp} {A : List Arc} (hA : SlZ EA Za av A := by assumption) {fl : List Int} (hfl : fl.length = A.length := by assumption) {out : List Stp} (hol : out.length ≤ 100000000 := by first | assumption | omega) (hoA : ∀ s ∈ out, 0 ≤ s.arc ∧ s.arc < (A.length : Int) := by assumption) {n : Int} (hfb : FBnd fl 100000000 := by assumption) (hwy : ∀ s ∈ out, s.way = 1 ∨ s.way = -1 := by assumption) (hn0 : 0 ≤ n ∧ n ≤ 100000000 := by assumption) (hol3 : out.length ≤ 3000000 := by assumption) : Sp Tryz.prog 147 [ptr g 0, sv, .int .i64 n] [.rw ES 320 sv out, .cl g [av, fv] 213, .rw (EI .i64) 3 fv fl, .zm Za] fun v H' => v = .tuple #[] ∧ [.rw ES 320 sv out, .cl g [av, fv] 213, .rw (EI .i64) 3 fv (leadL fl out n), .zm Za] = H' := by
 refine Sp.of 29 Tryz.func147 rfl rfl rfl ?_
 intro F
 have hAl := hA.len_le
 refine Sr ?_
 refine Y Mv ?_
 refine Y Ln ?_
 refine Y Mv ?_
 refine Nq ?_
 refine Bk ?_
 refine Lp (fun n_ l_ H_ => ∃ (i : Nat) (f2 : List Int), n_ = out.length - i ∧ l_ = [(0, ptr g 0), (2, .int .i64 n), (8, sv), (9, .int .i64 (out.length : Int)), (10, .int .i64 (i : Int))] ∧ H_ = .rw ES 320 sv out :: .cl g [av, fv] 213 :: .rw (EI .i64) 3 fv f2 :: .zm Za :: F ∧ (i ≤ out.length) ∧ (f2 = (out.take i).foldl (lead1 n) fl) ∧ (FBnd f2 (100000000 * ((i : Int) + 1)))) ⟨0, fl, rfl, rfl, rfl, (by omega), rfl, (by simpa using hfb)⟩ ⟨rfl, rfl, rfl, rfl, rfl, trivial⟩ ?_
 rintro _ _ _ ⟨i, f2, rfl, rfl, rfl, hi, hf2, hfb2⟩
 have hf2l : f2.length = A.length := by rw [hf2, lead_len, hfl]
 refine KeW (v := fv) (fun hE => ?_)
 refine Sr ?_
 refine Y Lt ?_
 refine Nq ?_
 refine Sq ?_
 refine Cp (fun h2 => ?_) fun h2 => ?_
 ·
  refine Sk ?_
  refine Pq ?_
  refine Sq ?_
  refine Bk ?_
  refine Sr ?_
  refine IxN fun x12 b12 o12 hx12 he12 => ?_
  refine Y LdN ?_
  refine Dal fun b7 => ?_
  refine Dsw ?_
  refine Nq ?_
  refine Dr (fun i => Nat.beq i 14) _ SubH.refl ?_
  obtain ⟨ha0, ha1⟩ := hoA x12 (mem_get hx12)
  refine Tk 0 [1, 2, 3, 6, 7, 12, 13, 14] rfl Mv ?_
  refine Tk 1 [2, 3, 6, 7, 12, 13, 14] rfl Nc ?_
  refine Tk 2 [3, 6, 7, 12, 13, 14] rfl Fa ?_
  refine Tk 3 [6, 7, 12, 13, 14] rfl Ld ?_
  refine Tk 4 [5, 6, 7, 12, 13, 14] rfl Fa ?_
  refine Tk 5 [6, 7, 12, 13, 14] rfl Ld ?_
  obtain ⟨b20, o20, he20⟩ := hE x12.arc.toNat (by omega)
  obtain ⟨f20, hf20⟩ : ∃ f, f2[x12.arc.toNat]? = some f := ⟨_, List.getElem?_eq_getElem (by omega)⟩
  refine Tk 6 [7, 12, 13, 14] rfl (IxY rfl rfl (by omega) he20) ?_
  refine Tk 7 [12, 13, 14] rfl Ld ?_
  refine Tk 8 [9, 11, 12, 13, 14] rfl Fa ?_
  refine Tk 9 [11, 12, 13, 14] rfl Ld ?_
  refine Tk 10 [11, 12, 13, 14] rfl Mv ?_
  have hfbb := hfb2 _ (mem_get hf20)
  have hw1 := hwy _ (mem_get hx12)
  have hpn : -100000000 ≤ x12.way * n ∧ x12.way * n ≤ 100000000 := by rcases hw1 with h | h <;> rw [h] <;> omega
  have hnew : -(100000000 * (((i + 1 : Nat) : Int) + 1)) ≤ f20 + x12.way * n ∧ f20 + x12.way * n ≤ 100000000 * (((i + 1 : Nat) : Int) + 1) := by omega
  refine Tk 11 [12, 13, 14] rfl Ml ?_
  refine Tk 12 [13, 14] rfl Ad ?_
  refine Tk 13 [14] rfl (IxY rfl rfl (by omega) he20) ?_
  refine Gxn 14 rfl (StO (a := f20 + x12.way * n) he20) ?_
  rintro _ _ rfl
  refine ⟨fun h_ => absurd h_ (by decide), ?_⟩
  refine An ?_
  refine Pb ?_
  refine Pq ?_
  refine Rg ?_
  refine Y Ad ?_
  refine Y Mv ?_
  refine Nl ?_
  refine Re ⟨(i + 1), _, rfl, rfl, rfl, (by omega), (by rw [foldl_take_succ hx12, ← hf2]; exact lead_1 hf20), (FBnd.set hfb2 (by omega) hnew)⟩ (by omega) ⟨rfl, rfl, rfl, rfl, rfl, trivial⟩
 ·
  refine Ex ?_
  refine Xt ?_
  refine Xt ?_
  refine Xb ?_
  rw [take_all (by assumption)] at hf2
  subst hf2
  refine Rn [.rw ES 320 sv out, .cl g [av, fv] 213, .rw (EI .i64) 3 fv (leadL fl out n), .zm Za] ?_
  exact ⟨rfl, rfl⟩

set_option maxRecDepth 100000 in
set_option maxHeartbeats 4000000 in
theorem side_sp {Z : Hp} {b s pb : Nat} {l : List Rep} {iv : Value} (hB : BeaZ Z b l s iv pb := by assumption) (hln : l.length ≤ 1000 := by assumption) {m : Nat} {mm : List (Int × Bool)} : Sp Tryz.prog 145 [ptr b 0, .map (some m)] [.mp EB m mm, .zm Z] fun v H' => H' = [.rw (EI .i64) 3 v (sideL l mm)] := by
 refine Sp.of 48 Tryz.func145 rfl rfl rfl ?_
 intro F
 obtain ⟨lv, mb, ub, hb, hS⟩ := hB.st
 have hba := hB.at_
 have hbp := hB.ps
 have hbi := hB.ids
 have hat := hS.at_
 have hmk := hS.mm
 have hus := hS.us
 have hls := hS.ls
 refine Sr ?_
 refine Y As ?_
 refine Nq ?_
 refine Sr ?_
 refine Y As ?_
 refine Nq ?_
 refine Sq ?_
 refine Sr ?_
 refine Y Mv ?_
 refine Y Nc ?_
 refine Y Fa ?_
 refine Y Ld ?_
 refine Y Nc ?_
 refine Y Fa ?_
 refine Y Ld ?_
 refine Y Ln ?_
 refine Y Mv ?_
 refine Nq ?_
 refine Bk ?_
 refine NilRwW (EI .i64) 3 ?_
 refine Lp (fun n_ l_ H_ => ∃ (i : Nat) (ov : Value), n_ = l.length - i ∧ l_ = [(1, .map (some m)), (5, ov), (15, lv), (16, .int .i64 (l.length : Int)), (17, .int .i64 (i : Int))] ∧ H_ = .rw (EI .i64) 3 ov (((l.take i).filter (acrossB mm)).map (·.id)) :: .mp EB m mm :: .zm Z :: F ∧ (i ≤ l.length)) ⟨0, (.slice none 0 0), rfl, rfl, rfl, (by omega)⟩ ⟨rfl, rfl, rfl, rfl, rfl, trivial⟩ ?_
 rintro _ _ _ ⟨i, ov, rfl, rfl, rfl, hi⟩
 refine Sr ?_
 refine Y Lt ?_
 refine Nq ?_
 refine Sq ?_
 refine Cp (fun h2 => ?_) fun h2 => ?_
 ·
  refine Sk ?_
  refine Pq ?_
  refine Sq ?_
  refine Bk ?_
  refine Sr ?_
  refine IxR fun x19 b19 o19 pv19 hx19 hp19 hc19 => ?_
  refine Y LdN ?_
  refine Dal fun b7 => ?_
  refine Dsw ?_
  refine Nq ?_
  refine Sr ?_
  refine Y Fa ?_
  refine Y Ld ?_
  refine Y Eq_ ?_
  refine Y Mv ?_
  refine Ga 3 3 false 27 (fun h4 => by
   refine Yg h4 Fa ?_
   refine Yg h4 Ld ?_
   refine Yg h4 Eq_ ?_
   exact Gg) ?_
  refine Y PkO ?_
  refine Y As ?_
  refine Nq ?_
  refine Sr ?_
  refine Y Mv ?_
  refine Y Mv ?_
  refine Ga 7 1 true 37 (fun h7 => by
   refine Yg h7 Mv ?_
   refine Yg h7 Fa ?_
   refine Yg h7 Ld ?_
   refine Yg h7 LkB ?_
   refine Yg h7 Mv ?_
   refine Yg h7 LkB ?_
   refine Yg h7 NeB ?_
   exact Gg) ?_
  refine Y PkA ?_
  refine Nq ?_
  refine Ct (fun h12 => ?_) fun h12 => ?_
  ·
   refine Rg ?_
   refine Y Mv ?_
   refine Y Fa ?_
   refine Y Ld ?_
   refine D Bs ?_
   rintro _ _ ⟨b42, rfl, rfl⟩
   refine D (Ap1 x19.id (hm := by simp only [List.length_map]; have := List.length_filter_le (acrossB mm) (l.take i); simp only [List.length_take] at this; omega)) ?_
   rintro v43 _ rfl
   refine Y As ?_
   refine Nl ?_
   refine Pb ?_
   refine Pq ?_
   refine Rg ?_
   refine Y Ad ?_
   refine Y Mv ?_
   refine Nl ?_
   have hac : acrossB mm x19 = true := by simpa [acrossB, moveB] using h12
   rw [side_t hx19 hac]
   refine Re ⟨(i + 1), v43, rfl, rfl, rfl, (by omega)⟩ (by omega) ⟨rfl, rfl, rfl, rfl, rfl, trivial⟩
  ·
   refine Sk ?_
   refine Pb ?_
   refine Pq ?_
   refine Rg ?_
   refine Y Ad ?_
   refine Y Mv ?_
   refine Nl ?_
   have hac : acrossB mm x19 = false := by simpa [acrossB, moveB] using h12
   rw [side_f hx19 hac]
   refine Re ⟨(i + 1), ov, rfl, rfl, rfl, (by omega)⟩ (by omega) ⟨rfl, rfl, rfl, rfl, rfl, trivial⟩
 ·
  refine Ex ?_
  refine Xt ?_
  refine Xt ?_
  refine Xb ?_
  refine Pq ?_
  refine Sr ?_
  rw [take_all (by assumption)]
  refine Y Mv ?_
  refine D (Cf (hs := sort_sp (xs := (l.filter (acrossB mm)).map (·.id)) (hn := by simp only [List.length_map]; have := List.length_filter_le (acrossB mm) l; omega))) ?_
  rintro _ _ ⟨_, ⟨rfl, rfl⟩, rfl⟩
  refine Nq ?_
  refine Sr ?_
  refine Y Mv ?_
  refine Y As ?_
  refine Nq ?_
  refine Rt ?_
  refine Rv [.rw (EI .i64) 3 ov (sideL l mm)] ?_
  rfl

end Go.Lag

namespace Go.Lag
open Go Go.RowKit Go.Proofs
set_option maxRecDepth 100000 in
set_option maxHeartbeats 4000000 in
theorem bal1_sp {b1 b2 m : Nat} {mu : List (Int × Int)} {x v : Int} : Sp Tryz.prog 144 [.int .i64 v, ptr b1 0, ptr b2 0] [.cl b1 [.int .i64 x] 3, .cl b2 [.map (some m)] 135, .mp EN m mu] fun u H' => u = .bool (lacks mu v) ∧ [.cl b1 [.int .i64 v] 3, .cl b2 [.map (some m)] 135, .mp EN m mu] = H' := by
 refine Sp.of 10 Tryz.func144 rfl rfl rfl ?_
 intro F
 refine Sr ?_
 refine Y As ?_
 refine Nq ?_
 refine Sr ?_
 refine Y Mv ?_
 refine Dst ?_
 refine Nq ?_
 refine Sr ?_
 refine Y Ld ?_
 refine Y Mv ?_
 refine Y LkN ?_
 refine Y Lt ?_
 refine Y As ?_
 refine Nq ?_
 refine Rt ?_
 refine Rv [.cl b1 [.int .i64 v] 3, .cl b2 [.map (some m)] 135, .mp EN m mu] ?_
 exact ⟨rfl, rfl⟩

set_option maxRecDepth 100000 in
set_option maxHeartbeats 4000000 in
theorem balance_sp {Z : Hp} {b s pb : Nat} {l : List Rep} {iv : Value} (hB : BeaZ Z b l s iv pb := by assumption) (hln : l.length ≤ 1000 := by assumption) {g : Nat} {av : Value} {Za : Hp} {A : List Arc} (hA : SlZ EA Za av A := by assumption) (hAn : A.length ≤ 1000000 := by assumption) (hAb : ABnd A := by assumption) : Sp Tryz.prog 81 [ptr b 0, ptr g 0] [.cl g [av, .slice none 0 0] 213, .zm Za, .zm Z] fun v H' => (∃ a, A.find? (fun a => decide (a.high < a.low)) = some a ∧ v = .tuple #[.agg #[.int .i64 a.parcel, .slice none 0 0], .bool false] ∧ H' = []) ∨ (A.find? (fun a => decide (a.high < a.low)) = none ∧ ∃ sv seen, balAll A (nodesL l) (A.map (·.low), mu0 A) = .inr seen ∧ v = .tuple #[.agg #[.int .i64 0, sv], .bool false] ∧ H' = [.rw (EI .i64) 3 sv (sideL l seen)]) ∨ (A.find? (fun a => decide (a.high < a.low)) = none ∧ ∃ st fv, balAll A (nodesL l) (A.map (·.low), mu0 A) = .inl st ∧ v = .tuple #[.agg #[.int .i64 0, .slice none 0 0], .bool true] ∧ BOk A st ∧ H' = [.cl g [av, fv] 213, .rw (EI .i64) 3 fv st.1]) := by
 refine Sp.of 138 Tryz.func81 rfl rfl rfl ?_
 intro F
 obtain ⟨lv, mb, ub, hb, hS⟩ := hB.st
 have hba := hB.at_
 have hbp := hB.ps
 have hbi := hB.ids
 have hat := hS.at_
 have hmk := hS.mm
 have hus := hS.us
 have hls := hS.ls
 have hll0 := hls.len_le
 have hnl : (nodesL l).length = l.length + 1 := by simp [nodesL]
 refine Sr ?_
 refine Dal fun b4 => ?_
 refine Y As ?_
 refine Nq ?_
 refine Sr ?_
 refine Y Mv ?_
 refine Y Mv ?_
 refine Y Nc ?_
 refine Y Fa ?_
 refine Y Ld ?_
 refine Y Ln ?_
 refine D Ms ?_
 rintro _ _ ⟨b24, rfl, rfl⟩
 refine Y Nc ?_
 refine Y Fa ?_
 refine Dst ?_
 refine Nq ?_
 refine Sr ?_
 refine D (Mm (EN)) ?_
 rintro _ _ ⟨m27, rfl, rfl⟩
 refine Dal fun b6 => ?_
 refine Dsw ?_
 refine Nq ?_
 refine Sq ?_
 refine Sr ?_
 refine Y Mv ?_
 refine Y Nc ?_
 refine Y Fa ?_
 refine Y Ld ?_
 refine Y Ln ?_
 refine Y Mv ?_
 refine Nq ?_
 refine Bk ?_
 rw [low0_0]
 refine Lp (fun n_ l_ H_ => ∃ (i : Nat) (mu : List (Int × Int)), n_ = A.length - i ∧ l_ = [(0, ptr b 0), (1, ptr g 0), (4, ptr b4 0), (6, ptr b6 0), (31, av), (32, .int .i64 (A.length : Int)), (33, .int .i64 (i : Int))] ∧ H_ = .rw (EI .i64) 3 (.slice (some ⟨b24, 0, none⟩) A.length A.length) (low0 A i) :: .mp EN m27 mu :: .cl b6 [.map (some m27)] 135 :: .cl b4 [.int .i64 0, .slice none 0 0] 35 :: .cl g [av, (.slice (some ⟨b24, 0, none⟩) A.length A.length)] 213 :: .zm Za :: .zm Z :: F ∧ (i ≤ A.length) ∧ (∀ a ∈ A.take i, ¬ a.high < a.low) ∧ (mu = (A.take i).foldl mu1 []) ∧ (∀ w, -(200000000 * (i : Int)) ≤ gN mu w ∧ gN mu w ≤ 200000000 * (i : Int))) ⟨0, [], rfl, rfl, rfl, (by omega), (by simp), rfl, (by intro w; simp [gN, aget_nil])⟩ ⟨rfl, rfl, rfl, rfl, rfl, rfl, rfl, trivial⟩ ?_
 rintro _ _ _ ⟨i, mu, rfl, rfl, rfl, hi, hlow, hmu, hmb⟩
 refine KeW (v := (.slice (some ⟨b24, 0, none⟩) A.length A.length)) (fun hE => ?_)
 have hll := low0_len A hi
 refine Sr ?_
 refine Y Lt ?_
 refine Nq ?_
 refine Sq ?_
 refine Cp (fun h2 => ?_) fun h2 => ?_
 ·
  refine Sk ?_
  refine Pq ?_
  refine Sq ?_
  refine Bk ?_
  refine Sr ?_
  refine Y Mv ?_
  obtain ⟨x36, b36, o36, hx36, he36, hc36⟩ := SlZ.atF (fun x => arcCells x) (fun _ _ h => h) hA i (by omega)
  refine Y (IxY rfl rfl (by omega) he36) ?_
  refine Y LdN ?_
  refine Dal fun b8 => ?_
  refine Y As ?_
  refine Dsw ?_
  refine Nq ?_
  refine Sq ?_
  refine Sr ?_
  have hab := hAb _ (mem_get hx36)
  refine Y Fa ?_
  refine Y Ld ?_
  refine Y Fa ?_
  refine Y Ld ?_
  refine Y Gr ?_
  refine Nq ?_
  refine Cp (fun h4 => ?_) fun h4 => ?_
  ·
   refine Sr ?_
   refine Y Fa ?_
   refine Y Ld ?_
   refine Y Bd ?_
   refine Dst ?_
   refine Y As ?_
   refine Nq ?_
   refine Rt ?_
   refine Rh ?_
   refine Rb ?_
   refine Rh ?_
   refine Rh ?_
   refine Rb ?_
   refine Rh ?_
   refine RvC (xs := [.cell 4 35, .tmp 5]) [] (ResH.cell (ResH.tmp ResH.nil)) ?_
   exact .inl ⟨x36, find_here hx36 hlow h4, rfl, rfl⟩
  ·
   refine Sk ?_
   refine Pq ?_
   refine Drq (fun i => Nat.beq i 8) _ SubH.refl ?_
   refine Tk 0 [1, 2, 3, 7, 8] rfl Mv ?_
   refine Tk 1 [2, 3, 7, 8] rfl Nc ?_
   refine Tk 2 [3, 7, 8] rfl Fa ?_
   refine Tk 3 [7, 8] rfl Ld ?_
   refine Tk 4 [7, 8] rfl Mv ?_
   refine Tk 5 [6, 7, 8] rfl Fa ?_
   refine Tk 6 [7, 8] rfl Ld ?_
   obtain ⟨b53, o53, he53⟩ := hE i (by omega)
   refine Tk 7 [8] rfl (IxY rfl rfl (by omega) he53) ?_
   refine Gxn 8 rfl (StO (a := x36.low) he53) ?_
   rintro _ _ rfl
   refine ⟨fun h_ => absurd h_ (by decide), ?_⟩
   refine Anq ?_
   refine Sr ?_
   refine Y Ld ?_
   refine Y Fa ?_
   refine Y Ld ?_
   have hm1 : -(200000000 * (i : Int)) ≤ (aget mu x36.to).getD 0 ∧ (aget mu x36.to).getD 0 ≤ 200000000 * (i : Int) := hmb x36.to
   refine Y LkN ?_
   refine Y Fa ?_
   refine Y Ld ?_
   refine Y Ad ?_
   refine Dn (Mu (gN mu x36.to + x36.low)) ?_
   rintro _ _ rfl
   refine Nq ?_
   refine Rg ?_
   refine Y Ld ?_
   refine Y Fa ?_
   refine Y Ld ?_
   have hm2 : -(200000000 * (i : Int) + 100000000) ≤ (aget (aset mu x36.to (gN mu x36.to + x36.low)) x36.from_).getD 0 ∧ (aget (aset mu x36.to (gN mu x36.to + x36.low)) x36.from_).getD 0 ≤ 200000000 * (i : Int) + 100000000 := gN_to hmb ⟨hab.1, hab.2.1⟩ x36.from_
   refine Y LkN ?_
   refine Y Fa ?_
   refine Y Ld ?_
   refine Y Su ?_
   refine Dn (Mu (gN (aset mu x36.to (gN mu x36.to + x36.low)) x36.from_ - x36.low)) ?_
   rintro _ _ rfl
   refine Nl ?_
   refine Pb ?_
   refine Pq ?_
   refine Rg ?_
   refine Y Ad ?_
   refine Y Mv ?_
   refine Nl ?_
   rw [low0_set hx36]
   refine Re ⟨(i + 1), (mu1 mu x36), rfl, rfl, rfl, (by omega), (low_step hlow hx36 h4), (by rw [foldl_take_succ hx36, ← hmu]), (gN_mu1 hmb ⟨hab.1, hab.2.1⟩)⟩ (by omega) ⟨rfl, rfl, rfl, rfl, rfl, rfl, rfl, trivial⟩
 ·
  refine Ex ?_
  refine Xt ?_
  refine Xt ?_
  refine Xb ?_
  refine Pq ?_
  refine Sr ?_
  rw [low0_end (by assumption)]
  have hie : i = A.length := by omega
  rw [take_all (by assumption)] at hmu
  rw [take_all (by assumption)] at hlow
  subst hmu
  have hb0 : BOk A (A.map (·.low), mu0 A) := bal_start hlow hAn (by intro w; have := hmb w; rw [hie] at this; exact this)
  refine D Bs ?_
  rintro _ _ ⟨b69, rfl, rfl⟩
  refine ToRwI [0] ?_
  refine Y As ?_
  refine Nq ?_
  refine Sq ?_
  refine Sr ?_
  refine Y Mv ?_
  refine Y Nc ?_
  refine Y Fa ?_
  refine Y Ld ?_
  refine Y Nc ?_
  refine Y Fa ?_
  refine Y Ld ?_
  refine Y Ln ?_
  refine Y Mv ?_
  refine Nq ?_
  refine Bk ?_
  refine Lp (fun n_ l_ H_ => ∃ (i : Nat) (nv : Value), n_ = l.length - i ∧ l_ = [(0, ptr b 0), (1, ptr g 0), (4, ptr b4 0), (6, ptr b6 0), (9, nv), (76, lv), (77, .int .i64 (l.length : Int)), (78, .int .i64 (i : Int))] ∧ H_ = .rw (EI .i64) 3 nv (0 :: (l.take i).map (·.id)) :: .rw (EI .i64) 3 (.slice (some ⟨b24, 0, none⟩) A.length A.length) (A.map (·.low)) :: .mp EN m27 (mu0 A) :: .cl b6 [.map (some m27)] 135 :: .cl b4 [.int .i64 0, .slice none 0 0] 35 :: .cl g [av, (.slice (some ⟨b24, 0, none⟩) A.length A.length)] 213 :: .zm Za :: .zm Z :: F ∧ (i ≤ l.length)) ⟨0, _, rfl, rfl, rfl, (by omega)⟩ ⟨rfl, rfl, rfl, rfl, rfl, rfl, rfl, rfl, trivial⟩ ?_
  rintro _ _ _ ⟨i, nv, rfl, rfl, rfl, hi⟩
  refine Sr ?_
  refine Y Lt ?_
  refine Nq ?_
  refine Sq ?_
  refine Cp (fun h6 => ?_) fun h6 => ?_
  ·
   refine Sk ?_
   refine Pq ?_
   refine Sq ?_
   refine Bk ?_
   refine Sr ?_
   refine IxR fun x80 b80 o80 pv80 hx80 hp80 hc80 => ?_
   refine Y LdN ?_
   refine Dal fun b11 => ?_
   refine Dsw ?_
   refine Nq ?_
   refine Rg ?_
   refine Y Mv ?_
   refine Y Fa ?_
   refine Y Ld ?_
   refine D Bs ?_
   rintro _ _ ⟨b85, rfl, rfl⟩
   refine D (Ap1 x80.id (hm := by simp; omega)) ?_
   rintro v86 _ rfl
   refine Y As ?_
   refine Nl ?_
   refine Pb ?_
   refine Pq ?_
   refine Rg ?_
   refine Y Ad ?_
   refine Y Mv ?_
   refine Nl ?_
   rw [show (0 :: (l.take i).map (·.id)) ++ [x80.id] = 0 :: (l.take (i + 1)).map (·.id) from by rw [take_get hx80]; simp]
   refine Re ⟨(i + 1), v86, rfl, rfl, rfl, (by omega)⟩ (by omega) ⟨rfl, rfl, rfl, rfl, rfl, rfl, rfl, rfl, trivial⟩
  ·
   refine Ex ?_
   refine Xt ?_
   refine Xt ?_
   refine Xb ?_
   refine Pq ?_
   refine Sq ?_
   refine Sr ?_
   rw [take_all (by assumption)]
   refine Y Mv ?_
   refine Y Ln ?_
   refine Y Mv ?_
   refine Nq ?_
   refine Bk ?_
   refine Lp (fun n_ l_ H_ => ∃ (i : Nat) (fl : List Int) (mu : List (Int × Int)), n_ = (nodesL l).length - i ∧ l_ = [(0, ptr b 0), (1, ptr g 0), (4, ptr b4 0), (6, ptr b6 0), (88, nv), (89, .int .i64 ((nodesL l).length : Int)), (90, .int .i64 (i : Int))] ∧ H_ = .rw (EI .i64) 3 nv (nodesL l) :: .rw (EI .i64) 3 (.slice (some ⟨b24, 0, none⟩) A.length A.length) fl :: .mp EN m27 mu :: .cl b6 [.map (some m27)] 135 :: .cl b4 [.int .i64 0, .slice none 0 0] 35 :: .cl g [av, (.slice (some ⟨b24, 0, none⟩) A.length A.length)] 213 :: .zm Za :: .zm Z :: F ∧ (i ≤ (nodesL l).length) ∧ (BOk A (fl, mu)) ∧ (balAll A ((nodesL l).drop i) (fl, mu) = balAll A (nodesL l) (A.map (·.low), mu0 A))) ⟨0, (A.map (·.low)), (mu0 A), rfl, rfl, rfl, (by omega), hb0, (by rw [List.drop_zero])⟩ ⟨rfl, rfl, rfl, rfl, rfl, rfl, rfl, trivial⟩ ?_
   rintro _ _ _ ⟨i, fl, mu, rfl, rfl, rfl, hi, hok, hres⟩
   refine Sr ?_
   refine Y Lt ?_
   refine Nq ?_
   refine Sq ?_
   refine Cp (fun h8 => ?_) fun h8 => ?_
   ·
    refine Sk ?_
    refine Pq ?_
    refine Sq ?_
    refine Bk ?_
    refine Sr ?_
    refine IxN fun x92 b92 o92 hx92 he92 => ?_
    refine Y Ld ?_
    refine Y As ?_
    refine Nq ?_
    refine Bk ?_
    refine Lp (fun n_ l_ H_ => ∃ (n : Nat) (fl3 : List Int) (mu3 : List (Int × Int)), n_ = 0 + n ∧ l_ = [(0, ptr b 0), (1, ptr g 0), (4, ptr b4 0), (6, ptr b6 0), (13, .int .i64 x92), (88, nv), (89, .int .i64 ((nodesL l).length : Int)), (90, .int .i64 (i : Int))] ∧ H_ = .rw (EI .i64) 3 nv (nodesL l) :: .rw (EI .i64) 3 (.slice (some ⟨b24, 0, none⟩) A.length A.length) fl3 :: .mp EN m27 mu3 :: .cl b6 [.map (some m27)] 135 :: .cl b4 [.int .i64 0, .slice none 0 0] 35 :: .cl g [av, (.slice (some ⟨b24, 0, none⟩) A.length A.length)] 213 :: .zm Za :: .zm Z :: F ∧ ((gN mu3 x92).toNat < n) ∧ (BOk A (fl3, mu3)) ∧ (balV A n (fl3, mu3) x92 = balV A ((gN mu x92).toNat + 1) (fl, mu) x92)) ⟨((gN mu x92).toNat + 1), fl, mu, rfl, rfl, rfl, (Nat.lt_succ_self _), hok, (Eq.refl _)⟩ ⟨rfl, rfl, rfl, rfl, rfl, rfl, rfl, rfl, trivial⟩ ?_
    rintro _ _ _ ⟨n, fl3, mu3, rfl, rfl, rfl, hn3, hok3, hb3⟩
    refine Sq ?_
    refine Sr ?_
    refine Y Ld ?_
    refine Y Mv ?_
    refine Y LkN ?_
    refine Y Gr ?_
    refine Nq ?_
    refine Cp (fun h10 => ?_) fun h10 => ?_
    ·
     refine Sk ?_
     refine Pq ?_
     refine Bk ?_
     refine Sr ?_
     refine Dal fun b14 => ?_
     refine Dsw ?_
     refine Nq ?_
     refine Sr ?_
     refine Y Mv ?_
     refine Y Mv ?_
     refine Y Mf ?_
     refine D (Cf (hs := path_sp (hw := fun x v => bal1_sp (b1 := b14) (b2 := b6) (m := m27) (mu := mu3)) (ff := []) (fc := [ptr b14 0, ptr b6 0]) (W := (fun x => [.cl b14 [.int .i64 x] 3, .cl b6 [.map (some m27)] 135, .mp EN m27 mu3])) (want := lacks mu3) (x0 := 0) (A := A) (fl := fl3) (hfl := hok3.fl.1))) ?_
     rintro _ _ ⟨_, (⟨u, sv, hu, rfl, rfl⟩ | ⟨mq, xq, hu, rfl, rfl⟩), rfl⟩
     ·
      refine Y Mv ?_
      refine Y Xc ?_
      refine Y Xc ?_
      refine Y As ?_
      refine Y As ?_
      refine Nq ?_
      refine Sq ?_
      refine Sr ?_
      refine Y Mv ?_
      refine Y NeM ?_
      refine Nq ?_
      refine CtF rfl ?_
      refine Sk ?_
      refine Pq ?_
      refine Sr ?_
      have hpo : PathOk A fl3 (-1) (stepsTo A fl3 (-1) x92 (lacks mu3) u) := (bfs_path hu).1
      have hrm := room_max (st := (fl3, mu3)) hok3 hAb h10 hu
      have hfb := hok3.fl.bnd hAb
      have hmx : -200000000000000 ≤ (aget mu3 x92).getD 0 ∧ (aget mu3 x92).getD 0 ≤ 200000000000000 := hok3.mu x92
      have hmu_ : -200000000000000 ≤ (aget mu3 u).getD 0 ∧ (aget mu3 u).getD 0 ≤ 200000000000000 := hok3.mu u
      have hpl := hpo.len
      refine Y Mv ?_
      refine Y Mv ?_
      refine Y Ld ?_
      refine Y Mv ?_
      refine Y LkN ?_
      refine Y Ld ?_
      refine Y Ld ?_
      refine Y LkN ?_
      refine Y Ng ?_
      refine Y Mn ?_
      refine D (Cf (hs := room_sp (out := (stepsTo A fl3 (-1) x92 (lacks mu3) u)) (hfl := hok3.fl.1) (hol := by omega) (hoA := hpo.rg))) ?_
      rintro _ _ ⟨_, ⟨rfl, rfl⟩, rfl⟩
      obtain ⟨K, hK⟩ : ∃ K, K = roomL A fl3 (stepsTo A fl3 (-1) x92 (lacks mu3) u) (min ((aget mu3 x92).getD 0) (-(aget mu3 u).getD 0)) := ⟨_, rfl⟩
      rw [← hK]
      have hk : 0 ≤ K ∧ K ≤ 100000000 := by rw [hK]; exact hrm
      refine Y As ?_
      refine Nq ?_
      refine Sr ?_
      refine Y Mv ?_
      refine Y Mv ?_
      refine Y Mv ?_
      refine D (Cf (hs := lead_sp (out := (stepsTo A fl3 (-1) x92 (lacks mu3) u)) (hfl := hok3.fl.1) (hol := by omega) (hoA := hpo.rg) (hwy := hpo.wy) (hol3 := by omega))) ?_
      rintro _ _ ⟨_, ⟨rfl, rfl⟩, rfl⟩
      refine Nq ?_
      refine Sr ?_
      refine Y Ld ?_
      refine Y Mv ?_
      refine Y LkN ?_
      refine Y Mv ?_
      refine Y Su ?_
      refine Dn (Mu (gN mu3 x92 - K)) ?_
      rintro _ _ rfl
      refine Nq ?_
      refine Rg ?_
      refine Y Ld ?_
      refine Y Ld ?_
      refine Y LkN ?_
      have hm3 : -(200000000000000 + 100000000) ≤ (aget (aset mu3 x92 (gN mu3 x92 - K)) u).getD 0 ∧ (aget (aset mu3 x92 (gN mu3 x92 - K)) u).getD 0 ≤ 200000000000000 + 100000000 := gN_sub hok3.mu hk u
      refine Y Mv ?_
      refine Y Ad ?_
      refine Dn (Mu (gN (aset mu3 x92 (gN mu3 x92 - K)) u + K)) ?_
      rintro _ _ rfl
      refine Nl ?_
      refine Pb ?_
      refine Re ⟨(n - 1), (leadL fl3 (stepsTo A fl3 (-1) x92 (lacks mu3) u) K), (aset (aset mu3 x92 (gN mu3 x92 - K)) u (gN (aset mu3 x92 (gN mu3 x92 - K)) u + K)), rfl, rfl, rfl, (by subst hK; exact Nat.lt_of_lt_of_le (balStep_ok (st := (fl3, mu3)) hok3 h10 hu).2 (Nat.le_sub_one_of_lt hn3)), (by subst hK; exact (balStep_ok (st := (fl3, mu3)) hok3 h10 hu).1), (by subst hK; rw [← hb3]; exact (balV_step (st := (fl3, mu3)) hn3 h10 hu).symm)⟩ (by omega) ⟨rfl, rfl, rfl, rfl, rfl, rfl, rfl, rfl, trivial⟩
     ·
      refine Y Mv ?_
      refine Y Xc ?_
      refine Y Xc ?_
      refine Y As ?_
      refine Y As ?_
      refine Nq ?_
      refine Sq ?_
      refine Sr ?_
      refine Y Mv ?_
      refine Y NeM ?_
      refine Nq ?_
      refine CtT rfl ?_
      refine Sr ?_
      refine Y Mv ?_
      refine Y Mv ?_
      refine D (Cf (hs := side_sp)) ?_
      rintro v109 _ ⟨_, rfl, rfl⟩
      refine Ks (fun is109 => ?_)
      obtain ⟨A9, n9, c9, rfl⟩ := is109
      refine Y Bd ?_
      refine Dst ?_
      refine Y As ?_
      refine Nq ?_
      refine Rt ?_
      refine Rh ?_
      refine Rb ?_
      refine Rh ?_
      refine Rb ?_
      refine Rb ?_
      refine Rh ?_
      refine Rh ?_
      refine Rb ?_
      refine Rh ?_
      have hno := balAll_no hx92 (hb3.symm.trans (balV_no (st := (fl3, mu3)) hn3 h10 hu))
      refine RvC (xs := [.cell 4 35, .tmp 5]) [.rw (EI .i64) 3 (.slice A9 n9 c9) (sideL l (pathTo A fl3 (-1) x92 (lacks mu3)).2.seen)] (ResH.cell (ResH.tmp ResH.nil)) ?_
      exact .inr (.inl ⟨find_no hlow, _, _, hres.symm.trans hno, rfl, rfl⟩)
    ·
     refine Ex ?_
     refine Xt ?_
     refine Xt ?_
     refine Xb ?_
     refine Pb ?_
     refine Pq ?_
     refine Rg ?_
     refine Y Ad ?_
     refine Y Mv ?_
     refine Nl ?_
     refine Re ⟨(i + 1), fl3, mu3, rfl, rfl, rfl, (by omega), hok3, (by rw [← balAll_ok hx92 (hb3.symm.trans (balV_end (st := (fl3, mu3)) h10))]; exact hres)⟩ (by omega) ⟨rfl, rfl, rfl, rfl, rfl, rfl, rfl, trivial⟩
   ·
    refine Ex ?_
    refine Xt ?_
    refine Xt ?_
    refine Xb ?_
    refine Pq ?_
    refine Sr ?_
    refine Y Bd ?_
    refine Dst ?_
    refine Y As ?_
    refine Nq ?_
    refine Rt ?_
    refine RvC (xs := [.cell 4 35, .tmp 5]) [.cl g [av, (.slice (some ⟨b24, 0, none⟩) A.length A.length)] 213, .rw (EI .i64) 3 (.slice (some ⟨b24, 0, none⟩) A.length A.length) fl] (ResH.cell (ResH.tmp ResH.nil)) ?_
    exact .inr (.inr ⟨find_no hlow, (fl, mu), _, hres.symm.trans (balAll_end (by assumption)), rfl, hok, rfl⟩)

end Go.Lag

namespace Go.Lag
open Go Go.RowKit Go.Proofs
set_option maxRecDepth 100000 in
set_option maxHeartbeats 4000000 in
theorem parcelOf_sp {Z : Hp} {l : List Rep} {lv : Value} (hl : SlZ (EZ Z) Z lv l := by assumption) {known : Int} (hn : l.length ≤ 1000 := by assumption) (hg : (checkE l).2 = 0 → GoodL (countL l known) := by first | assumption | exact good_of) {p : Int} : Sp Tryz.prog 42 [lv, .int .i64 known, .int .i64 p] [.zm Z] fun v H' => v = .tuple #[parV (if lookE l known [p] = 0 then parL (countL l known) p else Par.zero), .int .i64 (lookE l known [p])] ∧ H' = [] := by
 refine Sp.of 28 Tryz.func42 rfl rfl rfl ?_
 intro F
 refine Sr ?_
 refine Dal fun b6 => ?_
 refine Y As ?_
 refine Nq ?_
 refine Sr ?_
 refine Y Mv ?_
 refine Y Mv ?_
 refine Y Mv ?_
 refine D Bs ?_
 rintro _ _ ⟨b14, rfl, rfl⟩
 refine ToRwI [p] ?_
 refine FzI fun Zp hzp1 hzp2 => ?_
 have hl2 := hl.up hzp1
 refine D (Cf (hs := looks_sp (hl := hl2) (hps := hzp2))) ?_
 rintro _ _ ⟨_, ⟨Z15, bv15, hZ15, rfl, rfl, hb15, hc15⟩, rfl⟩
 refine Y Mv ?_
 refine Y Xc ?_
 refine Y Xc ?_
 refine Y As ?_
 refine Y As ?_
 refine Nq ?_
 refine Sq ?_
 refine Sr ?_
 refine Y Mv ?_
 refine Y Ne_ ?_
 refine Nq ?_
 refine Cn (fun h2 => ?_) fun h2 => ?_
 ·
  refine Sr ?_
  refine Y Bd ?_
  refine Y Mv ?_
  refine Dsw ?_
  refine Y As ?_
  refine Nq ?_
  refine Rt ?_
  refine Rh ?_
  refine RvC (xs := [.cell 6 42, .tmp 7]) [] (ResH.cell (ResH.tmp ResH.nil)) ?_
  rw [if_neg h2]
  exact ⟨rfl, rfl⟩
 ·
  refine Sk ?_
  refine Pq ?_
  refine Sr ?_
  have hE := h2
  obtain ⟨b, s, iv, pb, rfl, hB⟩ := hb15 hE
  have hba := hB.at_
  have hbp := hB.ps
  refine Y Mv ?_
  refine Y Nc ?_
  refine Y Fa ?_
  refine Y Ld ?_
  refine Y Mv ?_
  refine Y LkP ?_
  refine Dsw ?_
  refine Y As ?_
  refine Nq ?_
  refine Rt ?_
  refine RvC (xs := [.cell 6 42, .tmp 7]) [] (ResH.cell (ResH.tmp ResH.nil)) ?_
  rw [hE, if_pos rfl]
  exact ⟨rfl, rfl⟩

set_option maxRecDepth 100000 in
set_option maxHeartbeats 4000000 in
theorem parcels_sp {Z : Hp} {l : List Rep} {lv : Value} (hl : SlZ (EZ Z) Z lv l := by assumption) {known : Int} (hn : l.length ≤ 1000 := by assumption) (hg : (checkE l).2 = 0 → GoodL (countL l known) := by first | assumption | exact good_of) : Sp Tryz.prog 55 [lv, .int .i64 known] [.zm Z] fun v H' => ∃ sv, v = .tuple #[sv, .int .i64 (lookE l known [])] ∧ H' = [.rw EPr 42 sv (if lookE l known [] = 0 then (idsL (countL l known)).map (parL (countL l known)) else [])] := by
 refine Sp.of 40 Tryz.func55 rfl rfl rfl ?_
 intro F
 refine Sr ?_
 refine Y As ?_
 refine Y As ?_
 refine Nq ?_
 refine Sr ?_
 refine Y Mv ?_
 refine Y Mv ?_
 have hpn : SlZ (EI .i64) Z (.slice none 0 0) [] := SlZ.nil _ _
 refine D (Cf (hs := looks_sp (hl := hl) (hps := hpn))) ?_
 rintro _ _ ⟨_, ⟨Z14, bv14, hZ14, rfl, rfl, hb14, hc14⟩, rfl⟩
 refine Y Mv ?_
 refine Y Xc ?_
 refine Y Xc ?_
 refine Y As ?_
 refine Y As ?_
 refine Nq ?_
 refine Sq ?_
 refine Sr ?_
 refine Y Mv ?_
 refine Y Ne_ ?_
 refine Nq ?_
 refine Cn (fun h2 => ?_) fun h2 => ?_
 ·
  refine Sr ?_
  refine Y Mv ?_
  refine Y As ?_
  refine Y As ?_
  refine Nq ?_
  refine Rt ?_
  refine Rh ?_
  refine NilRwP EPr 42 ?_
  refine Rv2 [.rw EPr 42 (.slice none 0 0) []] ?_
  exact ⟨_, rfl, by rw [if_neg h2]⟩
 ·
  refine Sk ?_
  refine Pq ?_
  refine Sr ?_
  have hE := h2
  obtain ⟨b, s, iv, pb, rfl, hB⟩ := hb14 hE
  have hba := hB.at_
  have hbi := hB.ids
  have hbp := hB.ps
  have hil := hbi.len_le
  obtain ⟨hc0, _⟩ := look_mem hE
  have hr := checked_rep hc0
  have hsm : ∀ x ∈ countL l known, Small x := fun y hy => (report_small (hr y (count_mem hy))).1
  have hml := maker_len hsm
  have hcl := count_len l known
  have hid := ids_len (countL l known)
  refine Y As ?_
  refine Nq ?_
  refine Sq ?_
  refine Sr ?_
  refine Y Mv ?_
  refine Y Nc ?_
  refine Y Fa ?_
  refine Y Ld ?_
  refine Y Ln ?_
  refine Y Mv ?_
  refine Nq ?_
  refine Bk ?_
  refine NilRwW EPr 42 ?_
  refine Lp (fun n_ l_ H_ => ∃ (i : Nat) (ov : Value), n_ = (idsL (countL l known)).length - i ∧ l_ = [(6, ptr b 0), (8, ov), (23, iv), (24, .int .i64 ((idsL (countL l known)).length : Int)), (25, .int .i64 (i : Int))] ∧ H_ = .rw EPr 42 ov (((idsL (countL l known)).take i).map (parL (countL l known))) :: .zm Z14 :: F ∧ (i ≤ (idsL (countL l known)).length)) ⟨0, (.slice none 0 0), rfl, rfl, rfl, (by omega)⟩ ⟨rfl, rfl, rfl, rfl, rfl, trivial⟩ ?_
  rintro _ _ _ ⟨i, ov, rfl, rfl, rfl, hi⟩
  refine Sr ?_
  refine Y Lt ?_
  refine Nq ?_
  refine Sq ?_
  refine Cp (fun h4 => ?_) fun h4 => ?_
  ·
   refine Sk ?_
   refine Pq ?_
   refine Sq ?_
   refine Bk ?_
   refine Sr ?_
   obtain ⟨x27, b27, o27, hx27, he27, hc27⟩ := SlZ.atI hbi i (by omega)
   refine Y (IxY rfl rfl (by omega) he27) ?_
   refine Y Ld ?_
   refine Y As ?_
   refine Nq ?_
   refine Rg ?_
   refine Y Mv ?_
   refine Y Mv ?_
   refine Y Nc ?_
   refine Y Fa ?_
   refine Y Ld ?_
   refine Y Mv ?_
   refine Y LkP ?_
   refine D Bs ?_
   rintro _ _ ⟨b36, rfl, rfl⟩
   refine D (Ap1 (parL (countL l known) x27) (hm := by simp; omega)) ?_
   rintro v37 _ rfl
   refine Y As ?_
   refine Nl ?_
   refine Pb ?_
   refine Pq ?_
   refine Rg ?_
   refine Y Ad ?_
   refine Y Mv ?_
   refine Nl ?_
   rw [map_take_succ hx27]
   refine Re ⟨(i + 1), v37, rfl, rfl, rfl, (by omega)⟩ (by omega) ⟨rfl, rfl, rfl, rfl, rfl, trivial⟩
  ·
   refine Ex ?_
   refine Xt ?_
   refine Xt ?_
   refine Xb ?_
   refine Pq ?_
   refine Sr ?_
   refine Y Mv ?_
   refine Y As ?_
   refine Y As ?_
   refine Nq ?_
   refine Rt ?_
   refine Rv2 [.rw EPr 42 ov ((idsL (countL l known)).map (parL (countL l known)))] (hH := by rw [take_all (by assumption)]; exact SubH.cons Pick.head (SubH.skip SubH.refl)) ?_
   exact ⟨_, by rw [hE], by rw [if_pos hE]⟩

end Go.Lag

namespace Go.Lag
open Go Go.RowKit Go.Proofs
set_option maxRecDepth 100000 in
set_option maxHeartbeats 4000000 in
theorem raise1_sp {b1 : Nat} {a : Arc} {v : Int} : Sp Tryz.prog 226 [.int .i64 v, ptr b1 0] [.cl b1 (arcCells a) 215] fun u H' => u = .bool (decide (v = a.from_)) ∧ [.cl b1 (arcCells a) 215] = H' := by
 refine Sp.of 8 Tryz.func226 rfl rfl rfl ?_
 intro F
 refine Sr ?_
 refine Y As ?_
 refine Nq ?_
 refine Sr ?_
 refine Y Mv ?_
 refine Y Fa ?_
 refine Y Ld ?_
 refine Y Eq_ ?_
 refine Y As ?_
 refine Nq ?_
 refine Rt ?_
 refine Rv [.cl b1 (arcCells a) 215] ?_
 exact ⟨rfl, rfl⟩

set_option maxRecDepth 100000 in
set_option maxHeartbeats 4000000 in
theorem raise_sp {Z : Hp} {b s pb : Nat} {l : List Rep} {iv : Value} (hB : BeaZ Z b l s iv pb := by assumption) (hln : l.length ≤ 1000 := by assumption) {g : Nat} {av fv : Value} {Za : Hp} {A : List Arc} (hA : SlZ EA Za av A := by assumption) (hAn : A.length ≤ 1000000 := by assumption) (hAb : ABnd A := by assumption) {fl : List Int} (hok0 : FOk A fl := by assumption) {i : Int} (hi : 0 ≤ i ∧ i < (A.length : Int) := by assumption) : Sp Tryz.prog 150 [ptr b 0, ptr g 0, .int .i64 i] [.cl g [av, fv] 213, .rw (EI .i64) 3 fv fl, .zm Za, .zm Z] fun v H' => H' = [.cl g [av, fv] 213, .rw (EI .i64) 3 fv (raiseN A i ((raiseGap A fl i).toNat + 1) fl).1, .rw (EI .i64) 3 v (seenSide l (raiseN A i ((raiseGap A fl i).toNat + 1) fl).2)] := by
 refine Sp.of 69 Tryz.func150 rfl rfl rfl ?_
 intro F
 have habi := hAb _ (aAt_in hi)
 refine Sr ?_
 refine Y As ?_
 refine Nq ?_
 refine Sr ?_
 refine Y Mv ?_
 refine Y Nc ?_
 refine Y Fa ?_
 refine Y Ld ?_
 refine Y Mv ?_
 obtain ⟨x16, b16, o16, hx16, he16, hc16⟩ := SlZ.atF (fun x => arcCells x) (fun _ _ h => h) hA i.toNat (by omega)
 obtain rfl : x16 = aAt A i := (aAt_int hx16).symm
 refine Y (IxY rfl rfl (by omega) he16) ?_
 refine Y LdN ?_
 refine Dal fun b7 => ?_
 refine Dsw ?_
 refine Nq ?_
 refine Sq ?_
 refine Bk ?_
 refine Lp (fun n_ l_ H_ => ∃ (n : Nat) (fl2 : List Int), n_ = 0 + n ∧ l_ = [(0, ptr b 0), (1, ptr g 0), (2, .int .i64 i), (7, ptr b7 0)] ∧ H_ = .cl b7 (arcCells (aAt A i)) 215 :: .cl g [av, fv] 213 :: .rw (EI .i64) 3 fv fl2 :: .zm Za :: .zm Z :: F ∧ ((raiseGap A fl2 i).toNat < n) ∧ (FOk A fl2) ∧ (raiseN A i n fl2 = raiseN A i ((raiseGap A fl i).toNat + 1) fl)) ⟨((raiseGap A fl i).toNat + 1), fl, rfl, rfl, rfl, (Nat.lt_succ_self _), hok0, (Eq.refl _)⟩ ⟨rfl, rfl, rfl, rfl, trivial⟩ ?_
 rintro _ _ _ ⟨n, fl2, rfl, rfl, rfl, hn, hok, hres⟩
 refine KeW (v := fv) (fun hE => ?_)
 have hfl2 := hok.1
 have hfi := hok.at hi hAb
 refine Sq ?_
 refine Drq (fun i => false) _ SubH.refl ?_
 refine Tk 0 [] rfl Mv ?_
 refine Tk 1 [] rfl Nc ?_
 refine Tk 2 [] rfl Fa ?_
 refine Tk 3 [] rfl Ld ?_
 refine Tk 4 [] rfl Mv ?_
 obtain ⟨b23, o23, he23⟩ := hE i.toNat (by omega)
 obtain ⟨f23, hf23⟩ : ∃ f, fl2[i.toNat]? = some f := ⟨_, List.getElem?_eq_getElem (by omega)⟩
 obtain rfl : f23 = fAt fl2 i := (fAt_int hf23).symm
 refine Tk 5 [] rfl (IxY rfl rfl (by omega) he23) ?_
 refine Tk 6 [] rfl Ld ?_
 refine Tk 7 [] rfl Fa ?_
 refine Tk 8 [] rfl Ld ?_
 refine Tk 9 [] rfl Lt ?_
 refine Anq ?_
 refine Cp (fun h2 => ?_) fun h2 => ?_
 ·
  refine Sk ?_
  refine Pq ?_
  refine Bk ?_
  refine Sr ?_
  have hg : 0 < raiseGap A fl2 i := by unfold raiseGap; omega
  refine Y Mv ?_
  refine Y Fa ?_
  refine Y Ld ?_
  refine Y Mf ?_
  refine Y Mv ?_
  refine D (Cf (hs := path_sp (hw := fun x v => raise1_sp (b1 := b7) (a := aAt A i)) (ff := []) (fc := [ptr b7 0]) (W := fun _ => [.cl b7 (arcCells (aAt A i)) 215]) (want := (fun v => decide (v = (aAt A i).from_))) (x0 := 0) (A := A) (fl := fl2) (hfl := hok.1))) ?_
  rintro _ _ ⟨_, (⟨u, sv, hu, rfl, rfl⟩ | ⟨mq, xq, hu, rfl, rfl⟩), rfl⟩
  ·
   refine Y Mv ?_
   refine Y Xc ?_
   refine Y Xc ?_
   refine Y As ?_
   refine Y As ?_
   refine Nq ?_
   refine Sq ?_
   refine Sr ?_
   have hpo : PathOk A fl2 i (stepsTo A fl2 i (aAt A i).to (fun v => decide (v = (aAt A i).from_)) u) := (bfs_path hu).1
   have hpl := hpo.len
   refine Y Mv ?_
   refine Y NeM ?_
   refine Nq ?_
   refine CtF rfl ?_
   refine Sk ?_
   refine Pq ?_
   refine Drq (fun i => false) _ SubH.refl ?_
   refine Tk 0 [] rfl Mv ?_
   refine Tk 1 [] rfl Mv ?_
   refine Tk 2 [] rfl Fa ?_
   refine Tk 3 [] rfl Ld ?_
   refine Tk 4 [] rfl Mv ?_
   refine Tk 5 [] rfl Nc ?_
   refine Tk 6 [] rfl Fa ?_
   refine Tk 7 [] rfl Ld ?_
   refine Tk 8 [] rfl Mv ?_
   obtain ⟨b51, o51, he51⟩ := hE i.toNat (by omega)
   obtain ⟨f51, hf51⟩ : ∃ f, fl2[i.toNat]? = some f := ⟨_, List.getElem?_eq_getElem (by omega)⟩
   obtain rfl : f51 = fAt fl2 i := (fAt_int hf51).symm
   refine Tk 9 [] rfl (IxY rfl rfl (by omega) he51) ?_
   refine Tk 10 [] rfl Ld ?_
   refine Tk 11 [] rfl Su ?_
   refine Gx 12 rfl (Cf (hs := room_sp (out := (stepsTo A fl2 i (aAt A i).to (fun v => decide (v = (aAt A i).from_)) u)) (hfl := hok.1) (hol := by omega) (hoA := hpo.rg) (hfb := hok.bnd hAb))) ?_
   rintro _ _ ⟨_, ⟨rfl, rfl⟩, rfl⟩
   refine ⟨fun _ => (by repeat (first | exact SubH.refl | exact SubH.nil | refine SubH.cons (by repeat (first | exact Pick.head | apply Pick.tail)) ?_ | refine SubH.skip ?_)), ?_⟩
   refine Tk 13 [] rfl As ?_
   refine Anq ?_
   refine Sr ?_
   obtain ⟨K, hK⟩ : ∃ K, K = roomL A fl2 (stepsTo A fl2 i (aAt A i).to (fun v => decide (v = (aAt A i).from_)) u) ((aAt A i).high - fAt fl2 i) := ⟨_, rfl⟩
   rw [← hK]
   obtain ⟨hk0, hk1, hk2⟩ := raise_room hok hi hAb hg hu
   have hk : 0 ≤ K ∧ K ≤ 100000000 := by rw [hK]; exact ⟨Int.le_of_lt hk0, hk1⟩
   have hv64 : fAt (leadL fl2 (stepsTo A fl2 i (aAt A i).to (fun v => decide (v = (aAt A i).from_)) u) K) i = fAt fl2 i := by rw [hK]; exact hk2
   have hll : (leadL fl2 (stepsTo A fl2 i (aAt A i).to (fun v => decide (v = (aAt A i).from_)) u) K).length = A.length := by rw [leadL, lead_len]; exact hok.1
   refine Y Mv ?_
   refine Y Mv ?_
   refine Y Mv ?_
   refine D (Cf (hs := lead_sp (out := (stepsTo A fl2 i (aAt A i).to (fun v => decide (v = (aAt A i).from_)) u)) (hfl := hok.1) (hol := by omega) (hoA := hpo.rg) (hwy := hpo.wy) (hol3 := by omega) (hfb := hok.bnd hAb))) ?_
   rintro _ _ ⟨_, ⟨rfl, rfl⟩, rfl⟩
   refine Nq ?_
   refine Rg ?_
   refine Y Mv ?_
   refine Y Nc ?_
   refine Y Fa ?_
   refine Y Ld ?_
   refine Y Mv ?_
   refine IxO fun f64 b64 o64 hf64 he64 => ?_
   obtain rfl : f64 = fAt (leadL fl2 (stepsTo A fl2 i (aAt A i).to (fun v => decide (v = (aAt A i).from_)) u) K) i := (fAt_int hf64).symm
   refine Y Ld ?_
   refine Y Mv ?_
   refine Y Ad ?_
   refine IxO fun f68 b68 o68 hf68 he68 => ?_
   refine Dn (StO (a := fAt (leadL fl2 (stepsTo A fl2 i (aAt A i).to (fun v => decide (v = (aAt A i).from_)) u) K) i + K) he68) ?_
   rintro _ _ rfl
   refine Nl ?_
   refine Pb ?_
   refine Re ⟨(n - 1), ((leadL fl2 (stepsTo A fl2 i (aAt A i).to (fun v => decide (v = (aAt A i).from_)) u) K).set i.toNat (fAt (leadL fl2 (stepsTo A fl2 i (aAt A i).to (fun v => decide (v = (aAt A i).from_)) u) K) i + K)), rfl, rfl, rfl, (by subst hK; exact Nat.lt_of_lt_of_le (raiseStep_ok hok hi hAb hg hu).2 (Nat.le_sub_one_of_lt hn)), (by subst hK; exact (raiseStep_ok hok hi hAb hg hu).1), (by subst hK; rw [← hres]; exact (raiseN_step hn hg hu).symm)⟩ (by omega) ⟨rfl, rfl, rfl, rfl, trivial⟩
  ·
   refine Y Mv ?_
   refine Y Xc ?_
   refine Y Xc ?_
   refine Y As ?_
   refine Y As ?_
   refine Nq ?_
   refine Sq ?_
   refine Sr ?_
   refine Y Mv ?_
   refine Y NeM ?_
   refine Nq ?_
   refine CtT rfl ?_
   refine Sr ?_
   refine Y Mv ?_
   refine Y Mv ?_
   refine D (Cf (hs := side_sp)) ?_
   rintro v41 _ ⟨_, rfl, rfl⟩
   refine Y As ?_
   refine Nq ?_
   refine Rt ?_
   refine Rh ?_
   refine Rb ?_
   refine Rh ?_
   refine Rb ?_
   refine Rh ?_
   have hno := hres.symm.trans (raiseN_no hn hg hu)
   refine Rv [.cl g [av, fv] 213, .rw (EI .i64) 3 fv fl2, .rw (EI .i64) 3 v41 (sideL l (pathTo A fl2 i (aAt A i).to (fun v => decide (v = (aAt A i).from_))).2.seen)] ?_
   show _ = _
   first | (rw [hno]; done) | (rw [hno]; rfl)
 ·
  refine Ex ?_
  refine Xt ?_
  refine Xt ?_
  refine Xb ?_
  refine Pq ?_
  refine Sr ?_
  refine Y As ?_
  refine Nq ?_
  refine Rt ?_
  have hg : ¬ 0 < raiseGap A fl2 i := by unfold raiseGap; omega
  have hno := hres.symm.trans (raiseN_end hg)
  refine NilRwP (EI .i64) 3 ?_
  refine Rv [.cl g [av, fv] 213, .rw (EI .i64) 3 fv fl2, .rw (EI .i64) 3 (.slice none 0 0) ([])] ?_
  show _ = _
  first | (rw [hno]; done) | (rw [hno]; rfl)

set_option maxRecDepth 100000 in
set_option maxHeartbeats 4000000 in
theorem sink1_sp {b1 : Nat} {a : Arc} {v : Int} : Sp Tryz.prog 225 [.int .i64 v, ptr b1 0] [.cl b1 (arcCells a) 215] fun u H' => u = .bool (decide (v = a.to)) ∧ [.cl b1 (arcCells a) 215] = H' := by
 refine Sp.of 8 Tryz.func225 rfl rfl rfl ?_
 intro F
 refine Sr ?_
 refine Y As ?_
 refine Nq ?_
 refine Sr ?_
 refine Y Mv ?_
 refine Y Fa ?_
 refine Y Ld ?_
 refine Y Eq_ ?_
 refine Y As ?_
 refine Nq ?_
 refine Rt ?_
 refine Rv [.cl b1 (arcCells a) 215] ?_
 exact ⟨rfl, rfl⟩

set_option maxRecDepth 100000 in
set_option maxHeartbeats 4000000 in
theorem sink_sp {Z : Hp} {b s pb : Nat} {l : List Rep} {iv : Value} (hB : BeaZ Z b l s iv pb := by assumption) (hln : l.length ≤ 1000 := by assumption) {g : Nat} {av fv : Value} {Za : Hp} {A : List Arc} (hA : SlZ EA Za av A := by assumption) (hAn : A.length ≤ 1000000 := by assumption) (hAb : ABnd A := by assumption) {fl : List Int} (hok0 : FOk A fl := by assumption) {i : Int} (hi : 0 ≤ i ∧ i < (A.length : Int) := by assumption) : Sp Tryz.prog 149 [ptr b 0, ptr g 0, .int .i64 i] [.cl g [av, fv] 213, .rw (EI .i64) 3 fv fl, .zm Za, .zm Z] fun v H' => H' = [.cl g [av, fv] 213, .rw (EI .i64) 3 fv (sinkN A i ((sinkGap A fl i).toNat + 1) fl).1, .rw (EI .i64) 3 v (seenSide l (sinkN A i ((sinkGap A fl i).toNat + 1) fl).2)] := by
 refine Sp.of 69 Tryz.func149 rfl rfl rfl ?_
 intro F
 have habi := hAb _ (aAt_in hi)
 refine Sr ?_
 refine Y As ?_
 refine Nq ?_
 refine Sr ?_
 refine Y Mv ?_
 refine Y Nc ?_
 refine Y Fa ?_
 refine Y Ld ?_
 refine Y Mv ?_
 obtain ⟨x16, b16, o16, hx16, he16, hc16⟩ := SlZ.atF (fun x => arcCells x) (fun _ _ h => h) hA i.toNat (by omega)
 obtain rfl : x16 = aAt A i := (aAt_int hx16).symm
 refine Y (IxY rfl rfl (by omega) he16) ?_
 refine Y LdN ?_
 refine Dal fun b7 => ?_
 refine Dsw ?_
 refine Nq ?_
 refine Sq ?_
 refine Bk ?_
 refine Lp (fun n_ l_ H_ => ∃ (n : Nat) (fl2 : List Int), n_ = 0 + n ∧ l_ = [(0, ptr b 0), (1, ptr g 0), (2, .int .i64 i), (7, ptr b7 0)] ∧ H_ = .cl b7 (arcCells (aAt A i)) 215 :: .cl g [av, fv] 213 :: .rw (EI .i64) 3 fv fl2 :: .zm Za :: .zm Z :: F ∧ ((sinkGap A fl2 i).toNat < n) ∧ (FOk A fl2) ∧ (sinkN A i n fl2 = sinkN A i ((sinkGap A fl i).toNat + 1) fl)) ⟨((sinkGap A fl i).toNat + 1), fl, rfl, rfl, rfl, (Nat.lt_succ_self _), hok0, (Eq.refl _)⟩ ⟨rfl, rfl, rfl, rfl, trivial⟩ ?_
 rintro _ _ _ ⟨n, fl2, rfl, rfl, rfl, hn, hok, hres⟩
 refine KeW (v := fv) (fun hE => ?_)
 have hfl2 := hok.1
 have hfi := hok.at hi hAb
 refine Sq ?_
 refine Drq (fun i => false) _ SubH.refl ?_
 refine Tk 0 [] rfl Mv ?_
 refine Tk 1 [] rfl Nc ?_
 refine Tk 2 [] rfl Fa ?_
 refine Tk 3 [] rfl Ld ?_
 refine Tk 4 [] rfl Mv ?_
 obtain ⟨b23, o23, he23⟩ := hE i.toNat (by omega)
 obtain ⟨f23, hf23⟩ : ∃ f, fl2[i.toNat]? = some f := ⟨_, List.getElem?_eq_getElem (by omega)⟩
 obtain rfl : f23 = fAt fl2 i := (fAt_int hf23).symm
 refine Tk 5 [] rfl (IxY rfl rfl (by omega) he23) ?_
 refine Tk 6 [] rfl Ld ?_
 refine Tk 7 [] rfl Fa ?_
 refine Tk 8 [] rfl Ld ?_
 refine Tk 9 [] rfl Gr ?_
 refine Anq ?_
 refine Cp (fun h2 => ?_) fun h2 => ?_
 ·
  refine Sk ?_
  refine Pq ?_
  refine Bk ?_
  refine Sr ?_
  have hg : 0 < sinkGap A fl2 i := by unfold sinkGap; omega
  refine Y Mv ?_
  refine Y Fa ?_
  refine Y Ld ?_
  refine Y Mf ?_
  refine Y Mv ?_
  refine D (Cf (hs := path_sp (hw := fun x v => sink1_sp (b1 := b7) (a := aAt A i)) (ff := []) (fc := [ptr b7 0]) (W := fun _ => [.cl b7 (arcCells (aAt A i)) 215]) (want := (fun v => decide (v = (aAt A i).to))) (x0 := 0) (A := A) (fl := fl2) (hfl := hok.1))) ?_
  rintro _ _ ⟨_, (⟨u, sv, hu, rfl, rfl⟩ | ⟨mq, xq, hu, rfl, rfl⟩), rfl⟩
  ·
   refine Y Mv ?_
   refine Y Xc ?_
   refine Y Xc ?_
   refine Y As ?_
   refine Y As ?_
   refine Nq ?_
   refine Sq ?_
   refine Sr ?_
   have hpo : PathOk A fl2 i (stepsTo A fl2 i (aAt A i).from_ (fun v => decide (v = (aAt A i).to)) u) := (bfs_path hu).1
   have hpl := hpo.len
   refine Y Mv ?_
   refine Y NeM ?_
   refine Nq ?_
   refine CtF rfl ?_
   refine Sk ?_
   refine Pq ?_
   refine Drq (fun i => false) _ SubH.refl ?_
   refine Tk 0 [] rfl Mv ?_
   refine Tk 1 [] rfl Mv ?_
   refine Tk 2 [] rfl Mv ?_
   refine Tk 3 [] rfl Nc ?_
   refine Tk 4 [] rfl Fa ?_
   refine Tk 5 [] rfl Ld ?_
   refine Tk 6 [] rfl Mv ?_
   obtain ⟨b49, o49, he49⟩ := hE i.toNat (by omega)
   obtain ⟨f49, hf49⟩ : ∃ f, fl2[i.toNat]? = some f := ⟨_, List.getElem?_eq_getElem (by omega)⟩
   obtain rfl : f49 = fAt fl2 i := (fAt_int hf49).symm
   refine Tk 7 [] rfl (IxY rfl rfl (by omega) he49) ?_
   refine Tk 8 [] rfl Ld ?_
   refine Tk 9 [] rfl Fa ?_
   refine Tk 10 [] rfl Ld ?_
   refine Tk 11 [] rfl Su ?_
   refine Gx 12 rfl (Cf (hs := room_sp (out := (stepsTo A fl2 i (aAt A i).from_ (fun v => decide (v = (aAt A i).to)) u)) (hfl := hok.1) (hol := by omega) (hoA := hpo.rg) (hfb := hok.bnd hAb))) ?_
   rintro _ _ ⟨_, ⟨rfl, rfl⟩, rfl⟩
   refine ⟨fun _ => (by repeat (first | exact SubH.refl | exact SubH.nil | refine SubH.cons (by repeat (first | exact Pick.head | apply Pick.tail)) ?_ | refine SubH.skip ?_)), ?_⟩
   refine Tk 13 [] rfl As ?_
   refine Anq ?_
   refine Sr ?_
   obtain ⟨K, hK⟩ : ∃ K, K = roomL A fl2 (stepsTo A fl2 i (aAt A i).from_ (fun v => decide (v = (aAt A i).to)) u) (fAt fl2 i - (aAt A i).low) := ⟨_, rfl⟩
   rw [← hK]
   obtain ⟨hk0, hk1, hk2⟩ := sink_room hok hi hAb hg hu
   have hk : 0 ≤ K ∧ K ≤ 100000000 := by rw [hK]; exact ⟨Int.le_of_lt hk0, hk1⟩
   have hv64 : fAt (leadL fl2 (stepsTo A fl2 i (aAt A i).from_ (fun v => decide (v = (aAt A i).to)) u) K) i = fAt fl2 i := by rw [hK]; exact hk2
   have hll : (leadL fl2 (stepsTo A fl2 i (aAt A i).from_ (fun v => decide (v = (aAt A i).to)) u) K).length = A.length := by rw [leadL, lead_len]; exact hok.1
   refine Y Mv ?_
   refine Y Mv ?_
   refine Y Mv ?_
   refine D (Cf (hs := lead_sp (out := (stepsTo A fl2 i (aAt A i).from_ (fun v => decide (v = (aAt A i).to)) u)) (hfl := hok.1) (hol := by omega) (hoA := hpo.rg) (hwy := hpo.wy) (hol3 := by omega) (hfb := hok.bnd hAb))) ?_
   rintro _ _ ⟨_, ⟨rfl, rfl⟩, rfl⟩
   refine Nq ?_
   refine Rg ?_
   refine Y Mv ?_
   refine Y Nc ?_
   refine Y Fa ?_
   refine Y Ld ?_
   refine Y Mv ?_
   refine IxO fun f64 b64 o64 hf64 he64 => ?_
   obtain rfl : f64 = fAt (leadL fl2 (stepsTo A fl2 i (aAt A i).from_ (fun v => decide (v = (aAt A i).to)) u) K) i := (fAt_int hf64).symm
   refine Y Ld ?_
   refine Y Mv ?_
   refine Y Su ?_
   refine IxO fun f68 b68 o68 hf68 he68 => ?_
   refine Dn (StO (a := fAt (leadL fl2 (stepsTo A fl2 i (aAt A i).from_ (fun v => decide (v = (aAt A i).to)) u) K) i - K) he68) ?_
   rintro _ _ rfl
   refine Nl ?_
   refine Pb ?_
   refine Re ⟨(n - 1), ((leadL fl2 (stepsTo A fl2 i (aAt A i).from_ (fun v => decide (v = (aAt A i).to)) u) K).set i.toNat (fAt (leadL fl2 (stepsTo A fl2 i (aAt A i).from_ (fun v => decide (v = (aAt A i).to)) u) K) i - K)), rfl, rfl, rfl, (by subst hK; exact Nat.lt_of_lt_of_le (sinkStep_ok hok hi hAb hg hu).2 (Nat.le_sub_one_of_lt hn)), (by subst hK; exact (sinkStep_ok hok hi hAb hg hu).1), (by subst hK; rw [← hres]; exact (sinkN_step hn hg hu).symm)⟩ (by omega) ⟨rfl, rfl, rfl, rfl, trivial⟩
  ·
   refine Y Mv ?_
   refine Y Xc ?_
   refine Y Xc ?_
   refine Y As ?_
   refine Y As ?_
   refine Nq ?_
   refine Sq ?_
   refine Sr ?_
   refine Y Mv ?_
   refine Y NeM ?_
   refine Nq ?_
   refine CtT rfl ?_
   refine Sr ?_
   refine Y Mv ?_
   refine Y Mv ?_
   refine D (Cf (hs := side_sp)) ?_
   rintro v41 _ ⟨_, rfl, rfl⟩
   refine Y As ?_
   refine Nq ?_
   refine Rt ?_
   refine Rh ?_
   refine Rb ?_
   refine Rh ?_
   refine Rb ?_
   refine Rh ?_
   have hno := hres.symm.trans (sinkN_no hn hg hu)
   refine Rv [.cl g [av, fv] 213, .rw (EI .i64) 3 fv fl2, .rw (EI .i64) 3 v41 (sideL l (pathTo A fl2 i (aAt A i).from_ (fun v => decide (v = (aAt A i).to))).2.seen)] ?_
   show _ = _
   first | (rw [hno]; done) | (rw [hno]; rfl)
 ·
  refine Ex ?_
  refine Xt ?_
  refine Xt ?_
  refine Xb ?_
  refine Pq ?_
  refine Sr ?_
  refine Y As ?_
  refine Nq ?_
  refine Rt ?_
  have hg : ¬ 0 < sinkGap A fl2 i := by unfold sinkGap; omega
  have hno := hres.symm.trans (sinkN_end hg)
  refine NilRwP (EI .i64) 3 ?_
  refine Rv [.cl g [av, fv] 213, .rw (EI .i64) 3 fv fl2, .rw (EI .i64) 3 (.slice none 0 0) ([])] ?_
  show _ = _
  first | (rw [hno]; done) | (rw [hno]; rfl)

end Go.Lag

namespace Go.Lag
open Go Go.RowKit Go.Proofs
set_option maxRecDepth 100000 in
set_option maxHeartbeats 4000000 in
theorem bound1_sp {b1 : Nat} {p : Int} {a : Arc} : Sp Tryz.prog 152 [arcV a, ptr b1 0] [.cl b1 [.int .i64 p] 3] fun u H' => u = .bool (decide (a.parcel = p)) ∧ [.cl b1 [.int .i64 p] 3] = H' := by
 refine Sp.of 8 Tryz.func152 rfl rfl rfl ?_
 intro F
 refine Sr ?_
 refine Dbx (fun b2 => ?_)
 refine Y As ?_
 refine Nq ?_
 refine Sr ?_
 refine Y Fa ?_
 refine Y Ld ?_
 refine Y Ld ?_
 refine Y Eq_ ?_
 refine Y As ?_
 refine Nq ?_
 refine Rt ?_
 refine Rv [.cl b1 [.int .i64 p] 3] ?_
 exact ⟨rfl, rfl⟩

set_option maxRecDepth 100000 in
set_option maxHeartbeats 4000000 in
theorem bound_sp {Z : Hp} {b s pb : Nat} {l : List Rep} {iv : Value} (hB : BeaZ Z b l s iv pb := by assumption) (hln : l.length ≤ 1000 := by assumption) (hil : (idsL l).length ≤ 1000000 := by assumption) (hAb : ABnd (arcsL l) := by assumption) {p : Int} (hp : p ∈ idsL l := by assumption) {up : Bool} : Sp Tryz.prog 83 [ptr b 0, .int .i64 p, .bool up] [.zm Z] fun v H' => (v = .tuple #[.int .i64 0, .slice none 0 0, .slice none 0 0, .bool false] ∧ H' = [] ∧ ((∃ a, (arcsL l).find? (fun a => decide (a.high < a.low)) = some a) ∨ ((arcsL l).find? (fun a => decide (a.high < a.low)) = none ∧ ∃ seen, balAll (arcsL l) (nodesL l) ((arcsL l).map (·.low), mu0 (arcsL l)) = .inr seen))) ∨ (∃ st fv sv, (arcsL l).find? (fun a => decide (a.high < a.low)) = none ∧ balAll (arcsL l) (nodesL l) ((arcsL l).map (·.low), mu0 (arcsL l)) = .inl st ∧ BOk (arcsL l) st ∧ v = .tuple #[.int .i64 (fAt (boundN l p up st.1).1 (arcI l p)), fv, sv, .bool true] ∧ H' = [.rw (EI .i64) 3 fv (boundN l p up st.1).1, .rw (EI .i64) 3 sv (seenSide l (boundN l p up st.1).2)]) := by
 refine Sp.of 53 Tryz.func83 rfl rfl rfl ?_
 intro F
 have hAn : (arcsL l).length ≤ 1000000 := by simpa [arcsL] using hil
 have hai := arcI_ok hp
 refine Sr ?_
 refine Dbx (fun b4 => ?_)
 refine Y As ?_
 refine Y As ?_
 refine Y As ?_
 refine Y As ?_
 refine Nq ?_
 refine Sr ?_
 refine Y Mv ?_
 refine D (Cf (hs := graph_sp)) ?_
 rintro _ _ ⟨_, ⟨g, av, Za, rfl, hza, rfl⟩, rfl⟩
 refine Y As ?_
 refine Nq ?_
 refine Sq ?_
 refine Sr ?_
 refine Y Mv ?_
 refine Y Mv ?_
 refine D (Cf (hs := balance_sp (A := arcsL l))) ?_
 rintro _ _ ⟨_, (⟨a, hfa, rfl, rfl⟩ | ⟨hfa, sv, seen, hba, rfl, rfl⟩ | ⟨hfa, st, fv, hba, rfl, hok, rfl⟩), rfl⟩
 ·
  refine Y Mv ?_
  refine Y Xc ?_
  refine Y Xc ?_
  refine Dal fun b11 => ?_
  refine Dsw ?_
  refine Y As ?_
  refine Nq ?_
  refine Sr ?_
  refine Y Mv ?_
  refine Y Nt ?_
  refine Nq ?_
  refine CtT rfl ?_
  refine Sr ?_
  refine Y As ?_
  refine Y As ?_
  refine Y As ?_
  refine Y As ?_
  refine Nq ?_
  refine Rt ?_
  refine Rh ?_
  refine RvC (xs := [.tmp 6, .tmp 7, .tmp 8, .tmp 9]) [] (ResH.tmp (ResH.tmp (ResH.tmp (ResH.tmp ResH.nil)))) ?_
  exact .inl ⟨rfl, rfl, .inl ⟨_, hfa⟩⟩
 ·
  refine Ks (fun isv => ?_)
  obtain ⟨A9, n9, c9, rfl⟩ := isv
  refine Y Mv ?_
  refine Y Xc ?_
  refine Y Xc ?_
  refine Dal fun b11 => ?_
  refine Dsw ?_
  refine Y As ?_
  refine Nq ?_
  refine Sr ?_
  refine Y Mv ?_
  refine Y Nt ?_
  refine Nq ?_
  refine CtT rfl ?_
  refine Sr ?_
  refine Y As ?_
  refine Y As ?_
  refine Y As ?_
  refine Y As ?_
  refine Nq ?_
  refine Rt ?_
  refine Rh ?_
  refine RvC (xs := [.tmp 6, .tmp 7, .tmp 8, .tmp 9]) [] (ResH.tmp (ResH.tmp (ResH.tmp (ResH.tmp ResH.nil)))) ?_
  exact .inl ⟨rfl, rfl, .inr ⟨hfa, _, hba⟩⟩
 ·
  refine Y Mv ?_
  refine Y Xc ?_
  refine Y Xc ?_
  refine Dal fun b11 => ?_
  refine Dsw ?_
  refine Y As ?_
  refine Nq ?_
  refine Sr ?_
  refine Y Mv ?_
  refine Y Nt ?_
  refine Nq ?_
  refine CtF rfl ?_
  refine Sk ?_
  refine Pq ?_
  refine Sr ?_
  refine Y Mv ?_
  refine Y Mf ?_
  refine Y As ?_
  refine Nq ?_
  refine Sq ?_
  refine Sr ?_
  refine Y Mv ?_
  refine Nq ?_
  refine Ct (fun h1 => ?_) fun h1 => ?_
  ·
   refine Rg ?_
   refine Y Mv ?_
   refine Y Mf ?_
   refine Y As ?_
   refine Nl ?_
   refine Pq ?_
   refine Sr ?_
   refine Y Mv ?_
   refine Y Nc ?_
   refine Y Fa ?_
   refine Y Ld ?_
   refine Y Mf ?_
   refine D (Cf (hs := indexA_sp (ff := []) (fc := [ptr b4 0]) (preF := [.cl b4 [.int .i64 p] 3]) (p := fun a => decide (a.parcel = p)) (fun a _ => bound1_sp))) ?_
   rintro _ _ ⟨_, ⟨rfl, rfl⟩, rfl⟩
   refine Y As ?_
   refine Nq ?_
   refine Sr ?_
   refine Y Mv ?_
   refine Y Mv ?_
   refine Y Mv ?_
   refine D (Cc (hs := raise_sp (A := arcsL l) (i := arcI l p) (fl := st.1) (hok0 := hok.fl) (hi := hai))) ?_
   rintro v40 _ ⟨_, rfl, rfl⟩
   have hbn : boundN l p up st.1 = raiseN (arcsL l) (arcI l p) ((raiseGap (arcsL l) st.1 (arcI l p)).toNat + 1) st.1 := by simp [boundN, h1]
   rw [← hbn]
   have hbok : FOk (arcsL l) (boundN l p up st.1).1 := boundN_ok hp hAb hok.fl
   have hbl := hbok.1
   refine KeR (v := fv) (fun hE46 => ?_)
   refine Y As ?_
   refine Nq ?_
   refine Drq (fun i => false) _ SubH.refl ?_
   refine Tk 0 [] rfl Mv ?_
   refine Tk 1 [] rfl Nc ?_
   refine Tk 2 [] rfl Fa ?_
   refine Tk 3 [] rfl Ld ?_
   refine Tk 4 [] rfl Mv ?_
   obtain ⟨b46, o46, he46⟩ := hE46 (arcI l p).toNat (by omega)
   obtain ⟨f46, hf46⟩ : ∃ f, (boundN l p up st.1).1[(arcI l p).toNat]? = some f := ⟨_, List.getElem?_eq_getElem (by omega)⟩
   obtain rfl : f46 = fAt (boundN l p up st.1).1 (arcI l p) := (fAt_int hf46).symm
   refine Tk 5 [] rfl (IxY rfl rfl hai.1 he46) ?_
   refine Tk 6 [] rfl Ld ?_
   refine Tk 7 [] rfl Mv ?_
   refine Tk 8 [] rfl Nc ?_
   refine Tk 9 [] rfl Fa ?_
   refine Tk 10 [] rfl Ld ?_
   refine Tk 11 [] rfl Mv ?_
   refine Tk 12 [] rfl As ?_
   refine Tk 13 [] rfl As ?_
   refine Tk 14 [] rfl As ?_
   refine Tk 15 [] rfl As ?_
   refine Anq ?_
   refine Rt ?_
   refine RvC (xs := [.tmp 6, .tmp 7, .tmp 8, .tmp 9]) [.rw (EI .i64) 3 fv (boundN l p up st.1).1, .rw (EI .i64) 3 v40 (seenSide l (boundN l p up st.1).2)] (ResH.tmp (ResH.tmp (ResH.tmp (ResH.tmp ResH.nil)))) ?_
   exact .inr ⟨st, fv, v40, hfa, hba, hok, rfl, rfl⟩
  ·
   refine Sk ?_
   refine Pq ?_
   refine Sr ?_
   refine Y Mv ?_
   refine Y Nc ?_
   refine Y Fa ?_
   refine Y Ld ?_
   refine Y Mf ?_
   refine D (Cf (hs := indexA_sp (ff := []) (fc := [ptr b4 0]) (preF := [.cl b4 [.int .i64 p] 3]) (p := fun a => decide (a.parcel = p)) (fun a _ => bound1_sp))) ?_
   rintro _ _ ⟨_, ⟨rfl, rfl⟩, rfl⟩
   refine Y As ?_
   refine Nq ?_
   refine Sr ?_
   refine Y Mv ?_
   refine Y Mv ?_
   refine Y Mv ?_
   refine D (Cc (hs := sink_sp (A := arcsL l) (i := arcI l p) (fl := st.1) (hok0 := hok.fl) (hi := hai))) ?_
   rintro v40 _ ⟨_, rfl, rfl⟩
   have hbn : boundN l p up st.1 = sinkN (arcsL l) (arcI l p) ((sinkGap (arcsL l) st.1 (arcI l p)).toNat + 1) st.1 := by simp [boundN, h1]
   rw [← hbn]
   have hbok : FOk (arcsL l) (boundN l p up st.1).1 := boundN_ok hp hAb hok.fl
   have hbl := hbok.1
   refine KeR (v := fv) (fun hE46 => ?_)
   refine Y As ?_
   refine Nq ?_
   refine Drq (fun i => false) _ SubH.refl ?_
   refine Tk 0 [] rfl Mv ?_
   refine Tk 1 [] rfl Nc ?_
   refine Tk 2 [] rfl Fa ?_
   refine Tk 3 [] rfl Ld ?_
   refine Tk 4 [] rfl Mv ?_
   obtain ⟨b46, o46, he46⟩ := hE46 (arcI l p).toNat (by omega)
   obtain ⟨f46, hf46⟩ : ∃ f, (boundN l p up st.1).1[(arcI l p).toNat]? = some f := ⟨_, List.getElem?_eq_getElem (by omega)⟩
   obtain rfl : f46 = fAt (boundN l p up st.1).1 (arcI l p) := (fAt_int hf46).symm
   refine Tk 5 [] rfl (IxY rfl rfl hai.1 he46) ?_
   refine Tk 6 [] rfl Ld ?_
   refine Tk 7 [] rfl Mv ?_
   refine Tk 8 [] rfl Nc ?_
   refine Tk 9 [] rfl Fa ?_
   refine Tk 10 [] rfl Ld ?_
   refine Tk 11 [] rfl Mv ?_
   refine Tk 12 [] rfl As ?_
   refine Tk 13 [] rfl As ?_
   refine Tk 14 [] rfl As ?_
   refine Tk 15 [] rfl As ?_
   refine Anq ?_
   refine Rt ?_
   refine RvC (xs := [.tmp 6, .tmp 7, .tmp 8, .tmp 9]) [.rw (EI .i64) 3 fv (boundN l p up st.1).1, .rw (EI .i64) 3 v40 (seenSide l (boundN l p up st.1).2)] (ResH.tmp (ResH.tmp (ResH.tmp (ResH.tmp ResH.nil)))) ?_
   exact .inr ⟨st, fv, v40, hfa, hba, hok, rfl, rfl⟩

end Go.Lag

namespace Go.Lag
open Go Go.RowKit Go.Proofs
set_option maxRecDepth 100000 in
set_option maxHeartbeats 4000000 in
theorem weight_sp {Z : Hp} {l : List Rep} {lv : Value} (hl : SlZ (EZ Z) Z lv l := by assumption) {known : Int} (hn : l.length ≤ 1000 := by assumption) (hg : (checkE l).2 = 0 → GoodL (countL l known) := by first | assumption | exact good_of) (hab : (checkE l).2 = 0 → ABnd (arcsL (countL l known)) := by first | assumption | exact ab_of) {p : Int} : Sp Tryz.prog 29 [lv, .int .i64 known, .int .i64 p] [.zm Z] fun v H' => v = .tuple #[.int .i64 (weightE l known p).1, .int .i64 (weightE l known p).2.1, .int .i64 (weightE l known p).2.2] ∧ H' = [] := by
 refine Sp.of 44 Tryz.func29 rfl rfl rfl ?_
 intro F
 refine Sr ?_
 refine Y As ?_
 refine Y As ?_
 refine Y As ?_
 refine Nq ?_
 refine Sr ?_
 refine Y Mv ?_
 refine Y Mv ?_
 refine Y Mv ?_
 refine D Bs ?_
 rintro _ _ ⟨b17, rfl, rfl⟩
 refine ToRwI [p] ?_
 refine FzI fun Zp hzp1 hzp2 => ?_
 have hl2 := hl.up hzp1
 refine D (Cf (hs := looks_sp (hl := hl2) (hps := hzp2))) ?_
 rintro _ _ ⟨_, ⟨Z18, bv18, hZ18, rfl, rfl, hb18, hc18⟩, rfl⟩
 refine Y Mv ?_
 refine Y Xc ?_
 refine Y Xc ?_
 refine Y As ?_
 refine Y As ?_
 refine Nq ?_
 refine Sq ?_
 refine Sr ?_
 refine Y Mv ?_
 refine Y Ne_ ?_
 refine Nq ?_
 refine Cn (fun h2 => ?_) fun h2 => ?_
 ·
  refine Sr ?_
  refine Y Mv ?_
  refine Y As ?_
  refine Y As ?_
  refine Y As ?_
  refine Nq ?_
  refine Rt ?_
  refine Rh ?_
  refine RvC (xs := [.tmp 6, .tmp 7, .tmp 8]) [] (ResH.tmp (ResH.tmp (ResH.tmp ResH.nil))) ?_
  have hw : weightE l known p = (0, 0, lookE l known [p]) := by simp [weightE, h2]
  rw [hw]
  exact ⟨rfl, rfl⟩
 ·
  refine Sk ?_
  refine Pq ?_
  refine Sr ?_
  have hE := h2
  obtain ⟨b, s, iv, pb, rfl, hB⟩ := hb18 hE
  obtain ⟨hc0, hin⟩ := look_mem hE
  have hip : p ∈ idsL (countL l known) := hin p (List.mem_cons_self ..)
  have hr := checked_rep hc0
  have hsm : ∀ x ∈ countL l known, Small x := fun y hy => (report_small (hr y (count_mem hy))).1
  have hml := maker_len hsm
  have hcl := count_len l known
  have hid := ids_len (countL l known)
  have hln : (countL l known).length ≤ 1000 := by omega
  have hil : (idsL (countL l known)).length ≤ 1000000 := by omega
  have hAb := hab hc0
  refine Y Mv ?_
  refine Y Mv ?_
  refine D (Cf (hs := bound_sp (p := p) (up := false))) ?_
  rintro _ _ ⟨_, (⟨rfl, rfl, hbad⟩ | ⟨st, fv, sv, hfa, hba, hok, rfl, rfl⟩), rfl⟩
  ·
   refine Y Mv ?_
   refine Y Xc ?_
   refine Y Xc ?_
   refine Y Xc ?_
   refine Y Xc ?_
   refine Y As ?_
   refine Y As ?_
   refine Y As ?_
   refine Y As ?_
   refine Nq ?_
   refine Sq ?_
   refine Sr ?_
   refine Y Mv ?_
   refine Y Nt ?_
   refine Nq ?_
   refine CtT rfl ?_
   refine Sr ?_
   refine Y As ?_
   refine Y As ?_
   refine Y As ?_
   refine Nq ?_
   refine Rt ?_
   refine Rh ?_
   refine RvC (xs := [.tmp 6, .tmp 7, .tmp 8]) [] (ResH.tmp (ResH.tmp (ResH.tmp ResH.nil))) ?_
   have hw : weightE l known p = (0, 0, 32) := by simp [weightE, hE, balOf_none hbad]
   rw [hw]
   exact ⟨rfl, rfl⟩
  ·
   refine Y Mv ?_
   refine Y Xc ?_
   refine Y Xc ?_
   refine Y Xc ?_
   refine Y Xc ?_
   refine Y As ?_
   refine Y As ?_
   refine Y As ?_
   refine Y As ?_
   refine Nq ?_
   refine Sq ?_
   refine Sr ?_
   refine Y Mv ?_
   refine Y Nt ?_
   refine Nq ?_
   refine CtF rfl ?_
   refine Sk ?_
   refine Pq ?_
   refine Sr ?_
   refine Y Mv ?_
   refine Y Mv ?_
   refine D (Cf (hs := bound_sp (p := p) (up := true))) ?_
   rintro _ _ ⟨_, (⟨rfl, rfl, hbad2⟩ | ⟨st2, fv2, sv2, hfa2, hba2, hok2, rfl, rfl⟩), rfl⟩
   ·
    exact absurd (balOf_none hbad2) (by rw [balOf_some hfa hba]; simp)
   ·
    refine Y Mv ?_
    refine Y Xc ?_
    refine Y Xc ?_
    refine Y Xc ?_
    refine Y Xc ?_
    refine Y As ?_
    refine Nq ?_
    refine Sr ?_
    refine Y Mv ?_
    refine Y Mv ?_
    refine Y As ?_
    refine Y As ?_
    refine Y As ?_
    refine Nq ?_
    refine Rt ?_
    refine RvC (xs := [.tmp 6, .tmp 7, .tmp 8]) [] (ResH.tmp (ResH.tmp (ResH.tmp ResH.nil))) ?_
    have hw : weightE l known p = (endL (countL l known) p false st, endL (countL l known) p true st, 0) := by simp [weightE, hE, balOf_some hfa hba]
    have he2 : st2 = st := by rw [hba] at hba2; injection hba2 with h_; exact h_.symm
    subst he2
    rw [hw]
    exact ⟨rfl, rfl⟩

set_option maxRecDepth 100000 in
set_option maxHeartbeats 4000000 in
theorem Bound_sp {Z : Hp} {l : List Rep} {lv : Value} (hl : SlZ (EZ Z) Z lv l := by assumption) {known : Int} (hn : l.length ≤ 1000 := by assumption) (hg : (checkE l).2 = 0 → GoodL (countL l known) := by first | assumption | exact good_of) (hab : (checkE l).2 = 0 → ABnd (arcsL (countL l known)) := by first | assumption | exact ab_of) {p : Int} {up : Bool} : Sp Tryz.prog 34 [lv, .int .i64 known, .int .i64 p, .bool up] [.zm Z] fun v H' => (¬ lookE l known [p] = 0 ∧ v = .tuple #[.int .i64 0, .slice none 0 0, .slice none 0 0, .int .i64 (lookE l known [p])] ∧ H' = []) ∨ (lookE l known [p] = 0 ∧ balOf (countL l known) = none ∧ v = .tuple #[.int .i64 0, .slice none 0 0, .slice none 0 0, .int .i64 32] ∧ H' = []) ∨ (lookE l known [p] = 0 ∧ ∃ st fv sv, balOf (countL l known) = some st ∧ BOk (arcsL (countL l known)) st ∧ v = .tuple #[.int .i64 (endL (countL l known) p up st), fv, sv, .int .i64 0] ∧ H' = [.rw (EI .i64) 3 fv (boundN (countL l known) p up st.1).1, .rw (EI .i64) 3 sv (seenSide (countL l known) (boundN (countL l known) p up st.1).2)]) := by
 refine Sp.of 43 Tryz.func34 rfl rfl rfl ?_
 intro F
 refine Sr ?_
 refine Y As ?_
 refine Y As ?_
 refine Y As ?_
 refine Y As ?_
 refine Nq ?_
 refine Sr ?_
 refine Y Mv ?_
 refine Y Mv ?_
 refine Y Mv ?_
 refine D Bs ?_
 rintro _ _ ⟨b22, rfl, rfl⟩
 refine ToRwI [p] ?_
 refine FzI fun Zp hzp1 hzp2 => ?_
 have hl2 := hl.up hzp1
 refine D (Cf (hs := looks_sp (hl := hl2) (hps := hzp2))) ?_
 rintro _ _ ⟨_, ⟨Z23, bv23, hZ23, rfl, rfl, hb23, hc23⟩, rfl⟩
 refine Y Mv ?_
 refine Y Xc ?_
 refine Y Xc ?_
 refine Y As ?_
 refine Y As ?_
 refine Nq ?_
 refine Sq ?_
 refine Sr ?_
 refine Y Mv ?_
 refine Y Ne_ ?_
 refine Nq ?_
 refine Cn (fun h2 => ?_) fun h2 => ?_
 ·
  refine Sr ?_
  refine Y Mv ?_
  refine Y As ?_
  refine Y As ?_
  refine Y As ?_
  refine Y As ?_
  refine Nq ?_
  refine Rt ?_
  refine Rh ?_
  refine RvC (xs := [.tmp 8, .tmp 9, .tmp 10, .tmp 11]) [] (ResH.tmp (ResH.tmp (ResH.tmp (ResH.tmp ResH.nil)))) ?_
  exact .inl ⟨h2, rfl, rfl⟩
 ·
  refine Sk ?_
  refine Pq ?_
  refine Sr ?_
  have hE := h2
  obtain ⟨b, s, iv, pb, rfl, hB⟩ := hb23 hE
  obtain ⟨hc0, hin⟩ := look_mem hE
  have hip : p ∈ idsL (countL l known) := hin p (List.mem_cons_self ..)
  have hr := checked_rep hc0
  have hsm : ∀ x ∈ countL l known, Small x := fun y hy => (report_small (hr y (count_mem hy))).1
  have hml := maker_len hsm
  have hcl := count_len l known
  have hid := ids_len (countL l known)
  have hln : (countL l known).length ≤ 1000 := by omega
  have hil : (idsL (countL l known)).length ≤ 1000000 := by omega
  have hAb := hab hc0
  refine Y Mv ?_
  refine Y Mv ?_
  refine Y Mv ?_
  refine D (Cf (hs := bound_sp (p := p) (up := up))) ?_
  rintro _ _ ⟨_, (⟨rfl, rfl, hbad⟩ | ⟨st, fv, sv, hfa, hba, hok, rfl, rfl⟩), rfl⟩
  ·
   refine Y Mv ?_
   refine Y Xc ?_
   refine Y Xc ?_
   refine Y Xc ?_
   refine Y Xc ?_
   refine Y As ?_
   refine Y As ?_
   refine Y As ?_
   refine Y As ?_
   refine Nq ?_
   refine Sq ?_
   refine Sr ?_
   refine Y Mv ?_
   refine Y Nt ?_
   refine Nq ?_
   refine CtT rfl ?_
   refine Sr ?_
   refine Y As ?_
   refine Y As ?_
   refine Y As ?_
   refine Y As ?_
   refine Nq ?_
   refine Rt ?_
   refine Rh ?_
   refine RvC (xs := [.tmp 8, .tmp 9, .tmp 10, .tmp 11]) [] (ResH.tmp (ResH.tmp (ResH.tmp (ResH.tmp ResH.nil)))) ?_
   exact .inr (.inl ⟨hE, balOf_none hbad, rfl, rfl⟩)
  ·
   refine Y Mv ?_
   refine Y Xc ?_
   refine Y Xc ?_
   refine Y Xc ?_
   refine Y Xc ?_
   refine Y As ?_
   refine Y As ?_
   refine Y As ?_
   refine Y As ?_
   refine Nq ?_
   refine Sq ?_
   refine Sr ?_
   refine Y Mv ?_
   refine Y Nt ?_
   refine Nq ?_
   refine CtF rfl ?_
   refine Sk ?_
   refine Pq ?_
   refine Sr ?_
   refine Y Mv ?_
   refine Y Mv ?_
   refine Y Mv ?_
   refine Y As ?_
   refine Y As ?_
   refine Y As ?_
   refine Y As ?_
   refine Nq ?_
   refine Rt ?_
   refine RvC (xs := [.tmp 8, .tmp 9, .tmp 10, .tmp 11]) [.rw (EI .i64) 3 fv (boundN (countL l known) p up st.1).1, .rw (EI .i64) 3 sv (seenSide (countL l known) (boundN (countL l known) p up st.1).2)] (ResH.tmp (ResH.tmp (ResH.tmp (ResH.tmp ResH.nil)))) ?_
   exact .inr (.inr ⟨hE, st, fv, sv, balOf_some hfa hba, hok, rfl, rfl⟩)

end Go.Lag

/- Checked lists: what counts was made before it is used. -/
namespace Go.Lag
open Go Go.RowKit Go.Proofs

/-! ### Reports that are well formed -/
theorem partsOk_all {l : List Int} (h : partsOk l l.length = true) : ∀ p ∈ l, parcelB p = true := by
  intro p hp
  obtain ⟨i, hi, rfl⟩ := List.getElem_of_mem hp
  have h1 := List.all_eq_true.1 h i (by simpa using hi)
  simp only [List.getElem?_eq_getElem hi, Bool.and_eq_true] at h1
  exact h1.1
theorem parcel_ge {n : Int} (h : parcelB n = true) : 10 ≤ n := by simp only [parcelB, inB, Bool.and_eq_true, decide_eq_true_eq] at h; exact h.1
theorem rep_fields {x : Rep} (h : reportB x = true) : fieldsB x = true := by simp only [reportB, Bool.and_eq_true] at h; exact h.1.1.1
theorem uses_ge {x : Rep} (h : reportB x = true) {p : Int} (hp : p ∈ usesL x) : 10 ≤ p := by
  have hf := rep_fields h
  by_cases k2 : x.kind = 2
  · rw [fieldsB_2 k2, Bool.and_eq_true, Bool.and_eq_true] at hf
    simp only [usesL, k2, if_true, List.mem_singleton] at hp
    rw [hp]; exact parcel_ge hf.1.2
  · by_cases k3 : x.kind = 3
    · have hf' : (inB x.hour 0 x.known && inB x.parts.length 2 8 && partsOk x.parts x.parts.length) = true := by simpa [fieldsB, k3] using hf
      rw [Bool.and_eq_true] at hf'
      simp only [usesL, k3, if_neg (show ¬ (3 : Int) = 2 by decide), if_true] at hp
      exact parcel_ge (partsOk_all hf'.2 p hp)
    · by_cases k7 : x.kind = 7
      · rw [fieldsB_7 k7, Bool.and_eq_true, Bool.and_eq_true, Bool.and_eq_true] at hf
        simp only [usesL, k7, if_neg (show ¬ (7 : Int) = 2 by decide), if_neg (show ¬ (7 : Int) = 3 by decide), if_true, List.mem_singleton] at hp
        rw [hp]; exact parcel_ge hf.1.2
      · simp only [usesL, if_neg k2, if_neg k3, if_neg k7] at hp; cases hp
theorem uses_touch {x : Rep} (h : reportB x = true) {p : Int} (hp : p ∈ usesL x) : p ∈ touchesL x := by
  have h10 := uses_ge h hp
  refine List.mem_filter.2 ⟨?_, by simp; omega⟩
  unfold usesL at hp
  split at hp
  · simp at hp; simp [hp]
  · split at hp
    · simp [hp]
    · split at hp
      · simp at hp; simp [hp]
      · cases hp
theorem makes_iff {x : Rep} {p : Int} : p ∈ makesL x ↔ 10 * x.id ≤ p ∧ p < 10 * x.id + makesN x := by
  simp only [makesL, List.mem_map, List.mem_range]
  constructor
  · rintro ⟨i, hi, rfl⟩; omega
  · rintro ⟨h1, h2⟩; exact ⟨(p - 10 * x.id).toNat, by omega, by omega⟩
theorem makesN_le {x : Rep} (h : reportB x = true) : makesN x ≤ 8 := by
  obtain ⟨⟨_, _, _, _⟩, _⟩ := report_small h
  unfold makesN; repeat' split
  all_goals omega
theorem makes_id {x y : Rep} (hx : reportB x = true) (hy : reportB y = true) {p : Int} (h1 : p ∈ makesL x) (h2 : p ∈ makesL y) : x.id = y.id := by
  rw [makes_iff] at h1 h2
  have := makesN_le hx; have := makesN_le hy; omega
theorem makes_kind {x : Rep} {p : Int} (h : p ∈ makesL x) : x.kind = 1 ∨ x.kind = 2 ∨ x.kind = 3 := by
  rw [makes_iff] at h
  by_cases k1 : x.kind = 1
  · exact .inl k1
  · by_cases k3 : x.kind = 3
    · exact .inr (.inr k3)
    · by_cases k2 : x.kind = 2
      · exact .inr (.inl k2)
      · have : makesN x = 0 := by simp [makesN, k1, k2, k3]
        omega
theorem rep_id {x : Rep} (h : reportB x = true) : 1 ≤ x.id ∧ x.id ≤ 1000000 := by
  simp only [reportB, Bool.and_eq_true] at h; exact inB_le h.1.2

/-! ### What counts -/
def Adm (A : List Rep) (x : Rep) : Prop := ∀ p ∈ touchesL x, (∃ y ∈ A, p ∈ makesL y ∧ (x.kind = 7 → y.kind = 1)) ∧ ∀ y ∈ A, p ∉ usesL y
structure Inv (C : List Rep) : Prop where
  rep : ∀ x ∈ C, reportB x = true
  nv : ∀ x ∈ C, ¬ x.kind = 8
  ids : C.Pairwise fun x y => ¬ x.id = y.id
  adm : ∀ A x B, C = A ++ x :: B → Adm A x
section
variable {C : List Rep}
theorem pair_eq {C : List Rep} (h : C.Pairwise fun x y => ¬ x.id = y.id) {x y : Rep} (hx : x ∈ C) (hy : y ∈ C) (e : x.id = y.id) : x = y := by
  obtain ⟨i, hi, rfl⟩ := List.getElem_of_mem hx
  obtain ⟨j, hj, rfl⟩ := List.getElem_of_mem hy
  have hp := List.pairwise_iff_getElem.1 h
  rcases Nat.lt_trichotomy i j with q | q | q
  · exact absurd e (hp i j hi hj q)
  · subst q; rfl
  · exact absurd e.symm (hp j i hj hi q)
theorem Inv.id_eq (h : Inv C) {x y : Rep} (hx : x ∈ C) (hy : y ∈ C) (e : x.id = y.id) : x = y := pair_eq h.ids hx hy e
theorem Inv.nodup (h : Inv C) : C.Nodup := h.ids.imp fun hne e => hne (by rw [e])
theorem Inv.at_ (h : Inv C) {j : Nat} (hj : j < C.length) : Adm (C.take j) C[j] := h.adm _ _ (C.drop (j + 1)) (by rw [← List.drop_eq_getElem_cons hj, List.take_append_drop])
theorem take_mem {α : Type} {l : List α} {i j : Nat} (hi : i < l.length) (h : i < j) : l[i] ∈ l.take j := List.mem_of_getElem? (i := i) (by rw [List.getElem?_take]; simp [h])
theorem user_some {l : List Rep} {x : Rep} {p : Int} (hx : x ∈ l) (hp : p ∈ usesL x) : (aget (userM l) p).isSome = true := by
  have mono : ∀ (l : List Rep) (m : List (Int × Rep)), (aget m p).isSome = true → (aget (l.foldl (fun m x => putAll m (usesL x) x) m) p).isSome = true := by
    intro l
    induction l with
    | nil => intro m h; exact h
    | cons y l ih => intro m h; exact ih _ (aget_putAll_some (.inl h))
  obtain ⟨a, b, rfl⟩ := List.append_of_mem hx
  simp only [userM, List.foldl_append, List.foldl_cons]
  exact mono b _ (aget_putAll_some (.inr hp))
theorem Inv.used_once (h : Inv C) {x y : Rep} (hx : x ∈ C) (hy : y ∈ C) {p : Int} (h1 : p ∈ usesL x) (h2 : p ∈ usesL y) : x = y := by
  obtain ⟨i, hi, rfl⟩ := List.getElem_of_mem hx
  obtain ⟨j, hj, rfl⟩ := List.getElem_of_mem hy
  rcases Nat.lt_trichotomy i j with q | q | q
  · exact absurd h1 ((h.at_ hj p (uses_touch (h.rep _ hy) h2)).2 _ (take_mem hi q))
  · subst q; rfl
  · exact absurd h2 ((h.at_ hi p (uses_touch (h.rep _ hx) h1)).2 _ (take_mem hj q))
theorem Inv.maker (h : Inv C) {p : Int} {x : Rep} : aget (makerM C) p = some x ↔ x ∈ C ∧ p ∈ makesL x := by
  constructor
  · exact maker_mem
  · rintro ⟨hx, hp⟩
    obtain ⟨y, hy⟩ := Option.isSome_iff_exists.1 (maker_some hx hp)
    obtain ⟨h1, h2⟩ := maker_mem hy
    rw [hy, h.id_eq h1 hx (makes_id (h.rep _ h1) (h.rep _ hx) h2 hp)]
theorem Inv.user (h : Inv C) {p : Int} {x : Rep} : aget (userM C) p = some x ↔ x ∈ C ∧ p ∈ usesL x := by
  constructor
  · exact user_mem
  · rintro ⟨hx, hp⟩
    obtain ⟨y, hy⟩ := Option.isSome_iff_exists.1 (user_some hx hp)
    obtain ⟨h1, h2⟩ := user_mem hy
    rw [hy, h.used_once h1 hx h2 hp]
theorem Inv.nil : Inv [] := ⟨by simp, by simp, .nil, fun A x B e => by simp at e⟩
theorem Inv.snoc (h : Inv C) {x : Rep} (hr : reportB x = true) (hk : ¬ x.kind = 8) (hid : ∀ y ∈ C, ¬ y.id = x.id) (ha : Adm C x) : Inv (C ++ [x]) where
  rep := by
    intro y hy
    rcases List.mem_append.1 hy with q | q
    · exact h.rep y q
    · simp at q; subst q; exact hr
  nv := by
    intro y hy
    rcases List.mem_append.1 hy with q | q
    · exact h.nv y q
    · simp at q; subst q; exact hk
  ids := List.pairwise_append.2 ⟨h.ids, by simp, fun a ha1 b hb => by simp at hb; subst hb; exact hid a ha1⟩
  adm := by
    intro A y B e
    rcases List.eq_nil_or_concat B with rfl | ⟨B', z, rfl⟩
    · obtain ⟨e1, e2⟩ := List.append_inj' e rfl
      subst e1; simp at e2; subst e2; exact ha
    · have e' : C ++ [x] = (A ++ y :: B') ++ [z] := by simpa using e
      exact h.adm A y B' (List.append_inj' e' rfl).1
theorem idxF_exg {α : Type} {xs : List α} {p : α → Bool} (h : ¬ idxF p xs < 0) : ∃ (i : Nat) (x : α), idxF p xs = (i : Int) ∧ xs[i]? = some x ∧ p x = true ∧ ∀ y ∈ xs.take i, p y = false := by
  unfold idxF at h ⊢
  cases hf : xs.findIdx? p with
  | none => rw [hf] at h; exact absurd (show (-1 : Int) < 0 by decide) h
  | some i =>
    rw [List.findIdx?_eq_some_iff_getElem] at hf
    obtain ⟨h1, h2, h3⟩ := hf
    refine ⟨i, xs[i], rfl, by simp, h2, fun y hy => ?_⟩
    obtain ⟨j, hj, rfl⟩ := List.getElem_of_mem hy
    simp only [List.length_take] at hj
    have := h3 j (by omega)
    simpa using this
theorem rel_ok {of_ : Int} (hr : relE C of_ = 0) : ∃ i y, C[i]? = some y ∧ y.id = of_ ∧ ∀ z ∈ C.drop (i + 1), y.kind = 4 ∨ ∀ p, p ∈ touchesL y ∨ p ∈ makesL y → namesB z p = false := by
  simp only [relE] at hr
  split at hr
  · cases hr
  · rename_i hge
    obtain ⟨i0, x0, hi0, hx0, hp0, hn0⟩ := idxF_exg hge
    rw [hi0] at hr
    simp only [Int.toNat_natCast, hx0, show ((i0 : Int) + 1).toNat = i0 + 1 by omega] at hr
    refine ⟨i0, x0, hx0, by simpa using hp0, fun z hz => ?_⟩
    split at hr
    · cases hr
    · rename_i hany
      by_cases hk : x0.kind = 4
      · exact .inl hk
      · refine .inr fun p hp => ?_
        cases hq : namesB z p with
        | false => rfl
        | true =>
          refine absurd (List.any_eq_true.2 ⟨z, hz, ?_⟩) hany
          simp only [hk, decide_false, Bool.not_false, Bool.true_and, List.any_eq_true, List.mem_append]
          exact ⟨p, hp, hq⟩
theorem names_touch {x : Rep} {p : Int} (h : p ∈ touchesL x) : namesB x p = true := by simp [namesB, hasB_eq, h]
theorem names_make {x : Rep} {p : Int} (h : p ∈ makesL x) : namesB x p = true := by simp [namesB, hasB_eq, h]
theorem Inv.drop (h : Inv C) {of_ : Int} (hr : relE C of_ = 0) : Inv (C.filter fun x => !decide (x.id = of_)) := by
  obtain ⟨i, y, hy, hid, hno⟩ := rel_ok hr
  refine ⟨fun x hx => h.rep x (List.mem_filter.1 hx).1, fun x hx => h.nv x (List.mem_filter.1 hx).1, h.ids.filter _, fun A' x B' e => ?_⟩
  obtain ⟨l1, l2, rfl, e1, e2⟩ := List.filter_eq_append_iff.1 e
  obtain ⟨m1, m2, rfl, e3, e4, e5⟩ := List.filter_eq_cons_iff.1 e2
  have hA : A' = (l1 ++ m1).filter fun x => !decide (x.id = of_) := by
    rw [List.filter_append, e1, List.filter_eq_nil_iff.2 e3, List.append_nil]
  intro p hp
  obtain ⟨⟨z, hz, hz1, hz2⟩, h2⟩ := h.adm (l1 ++ m1) x m2 (by simp) p hp
  refine ⟨⟨z, ?_, hz1, hz2⟩, fun u hu => h2 u ?_⟩
  · rw [hA]
    refine List.mem_filter.2 ⟨hz, ?_⟩
    by_cases hzo : z.id = of_
    · exfalso
      have hyC := mem_get hy
      have hzy : z = y := h.id_eq (by simp at hz ⊢; rcases hz with q | q <;> simp [q]) hyC (by rw [hzo, hid])
      subst hzy
      obtain ⟨a1, a2, ea⟩ := List.append_of_mem hz
      have e6 : l1 ++ (m1 ++ x :: m2) = a1 ++ z :: (a2 ++ x :: m2) := by
        rw [← List.append_assoc, ea]; simp
      have hi : i = a1.length := nodup_idx h.nodup hy (by rw [e6]; simp)
      have hxd : x ∈ (l1 ++ (m1 ++ x :: m2)).drop (i + 1) := by
        rw [e6, hi]; simp
      rcases hno x hxd with q | q
      · rcases makes_kind hz1 with r | r | r <;> omega
      · have := q p (.inr hz1); rw [names_touch hp] at this; cases this
    · simp [hzo]
  · rw [hA] at hu; exact (List.mem_filter.1 hu).1
theorem adm_ok (hC : Inv C) {x : Rep} (h : admE C x = 0) : Adm C x ∧ (∀ p ∈ touchesL x, hidB C p = decide (x.kind = 6)) ∧ (∀ y ∈ C, (∃ p ∈ touchesL x, namesB y p = true) → y.hour ≤ x.hour) ∧ (x.kind = 7 → (mkOf C x.parcel).goods = (mkOf C x.other).goods) := by
  unfold admE at h
  split at h
  · cases h
  · rename_i h1
    split at h
    · cases h
    · rename_i h2
      split at h
      · cases h
      · rename_i h3
        split at h
        · cases h
        · rename_i h4
          refine ⟨fun p hp => ?_, fun p hp => ?_, fun y hy ⟨p, hp, hn⟩ => ?_, fun hk => ?_⟩
          · have q : adm1 C x p = false := by
              cases hq : adm1 C x p with
              | false => rfl
              | true => exact absurd (List.any_eq_true.2 ⟨p, hp, hq⟩) h1
            simp only [adm1, thereB, Bool.or_eq_false_iff, Bool.not_eq_false', Bool.and_eq_true, Bool.not_eq_true'] at q
            obtain ⟨⟨q1, q2⟩, q3⟩ := q
            obtain ⟨y, hy⟩ := Option.isSome_iff_exists.1 q1
            obtain ⟨hm1, hm2⟩ := maker_mem hy
            refine ⟨⟨y, hm1, hm2, fun hk => ?_⟩, fun z hz hu => ?_⟩
            · rw [mkOf_some hy] at q3
              simpa [hk] using q3
            · rw [user_some hz hu] at q2; cases q2
          · have q : adm2 C x p = false := by
              cases hq : adm2 C x p with
              | false => rfl
              | true => exact absurd (List.any_eq_true.2 ⟨p, hp, hq⟩) h2
            simpa [adm2] using q
          · have q : adm3 x y = false := by
              cases hq : adm3 x y with
              | false => rfl
              | true => exact absurd (List.any_eq_true.2 ⟨y, hy, hq⟩) h3
            have ha : (touchesL x).any (fun p => namesB y p) = true := List.any_eq_true.2 ⟨p, hp, hn⟩
            simp only [adm3, ha, Bool.and_true, decide_eq_false_iff_not] at q
            omega
          · simpa [hk] using h4
end

/-! ### A list that is checked -/
structure Chk (l : List Rep) : Prop where
  srt : l.Pairwise fun x y => x.known ≤ y.known
  ids : l.Pairwise fun x y => ¬ x.id = y.id
  vd : ∀ v ∈ l, v.kind = 8 → ∃ y ∈ l, y.id = v.of
  rep : ∀ x ∈ l, reportB x = true
  inv : ∀ k, Inv (countL l k)
theorem fol_ok {l : List Rep} {x : Rep} (h : folE l x = 0) : l.length < 200 ∧ reportB x = true ∧ (∀ y ∈ l, ¬ y.id = x.id) ∧ (0 < l.length → lastKnown l ≤ x.known) ∧ (x.kind = 8 → relE (countL l x.known) x.of = 0) ∧ (¬ x.kind = 8 → admE (countL l x.known) x = 0) := by
  have hr := fol_rep h
  unfold folE at h
  split at h
  · cases h
  · rename_i h0
    rw [hr] at h
    simp only [Bool.not_true, Bool.false_eq_true, if_false] at h
    split at h
    · cases h
    · rename_i h1
      split at h
      · cases h
      · rename_i h2
        refine ⟨by omega, hr, fun y hy e => h1 (List.any_eq_true.2 ⟨y, hy, by simp [e]⟩), fun hl => ?_, fun hk => ?_, fun hk => ?_⟩
        · simp only [Bool.and_eq_true, decide_eq_true_eq, not_and] at h2
          have := h2 (by omega); omega
        · rwa [if_pos hk] at h
        · rwa [if_neg hk] at h
theorem last_le {l : List Rep} (h : l.Pairwise fun x y => x.known ≤ y.known) : ∀ y ∈ l, y.known ≤ lastKnown l := by
  intro y hy
  obtain ⟨i, hi, rfl⟩ := List.getElem_of_mem hy
  have hl : l.length - 1 < l.length := by omega
  have e : lastKnown l = (l[l.length - 1]).known := by
    refine lastKnown_eq (z := l[l.length - 1]) ?_
    rw [show ((l.length : Int) - 1).toNat = l.length - 1 by omega]; simp [hl]
  rw [e]
  by_cases q : i = l.length - 1
  · subst q; exact Int.le_refl _
  · exact List.pairwise_iff_getElem.1 h i (l.length - 1) hi hl (by omega)
theorem void_snoc (l : List Rep) (x : Rep) (k j : Int) : voidB (l ++ [x]) k j = (voidB l k j || (decide (x.kind = 8) && decide (x.known ≤ k) && decide (x.of = j))) := by simp [voidB]
theorem count_late {l : List Rep} {x : Rep} {k : Int} (h : k < x.known) : countL (l ++ [x]) k = countL l k := by
  have hx : decide (x.known ≤ k) = false := by simp; omega
  have e : cntB (l ++ [x]) k = cntB l k := by funext y; simp [cntB, void_snoc, hx]
  have h0 : cntB l k x = false := by simp [cntB, hx]
  simp only [countL, e, List.filter_append]
  simp [h0]
theorem count_void {l : List Rep} {x : Rep} {k : Int} (h : x.known ≤ k) (hk : x.kind = 8) : countL (l ++ [x]) k = (countL l k).filter fun y => !decide (y.id = x.of) := by
  have e : cntB (l ++ [x]) k = fun y => (!decide (y.id = x.of)) && cntB l k y := by
    funext y; simp only [cntB, void_snoc, hk, h, decide_true, Bool.true_and]
    rw [show decide (x.of = y.id) = decide (y.id = x.of) from by simp [eq_comm]]
    cases decide (y.kind = 8) <;> cases decide (y.known ≤ k) <;> cases voidB l k y.id <;> cases decide (y.id = x.of) <;> rfl
  have h0 : cntB l k x = false := by simp [cntB, hk]
  simp only [countL, e, List.filter_append, List.filter_filter]
  simp [h0]
theorem count_new {l : List Rep} {x : Rep} {k : Int} (h : x.known ≤ k) (hk : ¬ x.kind = 8) (hv : voidB l k x.id = false) : countL (l ++ [x]) k = countL l k ++ [x] := by
  have e : cntB (l ++ [x]) k = cntB l k := by funext y; simp [cntB, void_snoc, hk]
  have h0 : cntB l k x = true := by simp [cntB, hk, h, hv]
  simp only [countL, e, List.filter_append]
  simp [h0]
theorem count_all {l : List Rep} {k k' : Int} (h : ∀ y ∈ l, y.known ≤ k) (h' : ∀ y ∈ l, y.known ≤ k') : countL l k = countL l k' := by
  have hv : ∀ j, voidB l k j = voidB l k' j := by
    intro j; simp only [voidB]
    rw [Bool.eq_iff_iff]; simp only [List.any_eq_true, Bool.and_eq_true, decide_eq_true_eq]
    constructor
    · rintro ⟨x, hx, ⟨h1, _⟩, h2⟩; exact ⟨x, hx, ⟨h1, h' x hx⟩, h2⟩
    · rintro ⟨x, hx, ⟨h1, _⟩, h2⟩; exact ⟨x, hx, ⟨h1, h x hx⟩, h2⟩
  refine List.filter_congr fun y hy => ?_
  simp [cntB, hv, h y hy, h' y hy]
theorem Chk.nil : Chk [] := ⟨.nil, .nil, by simp, by simp, fun k => Inv.nil⟩
theorem Chk.snoc {l : List Rep} {x : Rep} (h : Chk l) (hf : folE l x = 0) : Chk (l ++ [x]) := by
  obtain ⟨hl, hr, hid, hkn, hv8, ha8⟩ := fol_ok hf
  have hle : ∀ y ∈ l, y.known ≤ x.known := fun y hy => Int.le_trans (last_le h.srt y hy) (hkn (List.length_pos_of_mem hy))
  refine ⟨List.pairwise_append.2 ⟨h.srt, by simp, fun a ha b hb => by simp at hb; subst hb; exact hle a ha⟩, List.pairwise_append.2 ⟨h.ids, by simp, fun a ha b hb => by simp at hb; subst hb; exact hid a ha⟩, fun v hv hk => ?_, fun y hy => ?_, fun k => ?_⟩
  · rcases List.mem_append.1 hv with q | q
    · obtain ⟨y, hy, e⟩ := h.vd v q hk; exact ⟨y, List.mem_append_left _ hy, e⟩
    · simp at q; subst q
      obtain ⟨i, y, hy, hyi, _⟩ := rel_ok (hv8 hk)
      exact ⟨y, List.mem_append_left _ (count_mem (mem_get hy)), hyi⟩
  · rcases List.mem_append.1 hy with q | q
    · exact h.rep y q
    · simp at q; subst q; exact hr
  · by_cases hx : x.known ≤ k
    · have e := count_all (l := l) (k := k) (k' := x.known) (fun y hy => Int.le_trans (hle y hy) hx) hle
      by_cases hk : x.kind = 8
      · rw [count_void hx hk, e]; exact (h.inv _).drop (hv8 hk)
      · have hv : voidB l k x.id = false := by
          cases hq : voidB l k x.id with
          | false => rfl
          | true =>
            simp only [voidB, List.any_eq_true, Bool.and_eq_true, decide_eq_true_eq] at hq
            obtain ⟨v, hv, ⟨h1, _⟩, h2⟩ := hq
            obtain ⟨y, hy, e⟩ := h.vd v hv h1
            exact absurd (e.trans h2) (hid y hy)
        rw [count_new hx hk hv, e]
        exact (h.inv _).snoc hr hk (fun y hy => hid y (count_mem hy)) (adm_ok (h.inv _) (ha8 hk)).1
    · rw [count_late (by omega)]; exact h.inv k
theorem checked {l : List Rep} (h : (checkE l).2 = 0) : Chk l := by
  have key : ∀ n, n ≤ l.length → Chk (l.take n) := by
    intro n
    induction n with
    | zero => intro _; rw [List.take_zero]; exact Chk.nil
    | succ n ih =>
      intro hn
      have hx : l[n]? = some l[n] := by simp
      have hf := check_all h n (by omega)
      rw [getD_get hx] at hf
      rw [take_get hx]
      exact (ih (by omega)).snoc hf
  have := key l.length (Nat.le_refl _)
  rwa [List.take_length] at this

/-! ### What looks asks of it -/
theorem Inv.split {C : List Rep} (h : Inv C) {x : Rep} (hx : x ∈ C) : ∃ A B, C = A ++ x :: B ∧ Adm A x ∧ x ∉ A := by
  obtain ⟨A, B, e⟩ := List.append_of_mem hx
  refine ⟨A, B, e, h.adm A x B e, fun hm => ?_⟩
  have hn := h.nodup
  rw [e, List.nodup_append] at hn
  exact hn.2.2 x hm x (List.mem_cons_self ..) rfl
theorem Inv.good {C : List Rep} (h : Inv C) : GoodL C := by
  refine ⟨fun p => C.findIdx fun y => decide (p ∈ makesL y), fun p => C.length - C.findIdx fun y => decide (p ∈ usesL y), ⟨fun p x hx hk => ?_, fun p x hx hk q hq => ?_⟩, fun p => List.findIdx_le_length, ⟨fun p => Nat.sub_le _ _, fun p u hu hk => ?_⟩⟩
  · obtain ⟨h1, h2⟩ := maker_mem hx
    have hf := rep_fields (h.rep x h1)
    rcases makes_kind h2 with r | r | r
    · exact absurd r hk
    · simp [usesL, r]
    · have hf' : (inB x.hour 0 x.known && inB x.parts.length 2 8 && partsOk x.parts x.parts.length) = true := by simpa [fieldsB, r] using hf
      simp only [Bool.and_eq_true] at hf'
      have := inB_le hf'.1.2
      intro e
      simp only [usesL, r, if_neg (show ¬ (3 : Int) = 2 by decide), if_true] at e
      rw [e] at this; simp at this
  · obtain ⟨h1, h2⟩ := maker_mem hx
    obtain ⟨A, B, e, ha, hnA⟩ := h.split h1
    obtain ⟨⟨y, hy, hm, _⟩, _⟩ := ha q (uses_touch (h.rep x h1) hq)
    have hyC : y ∈ C := by rw [e]; exact List.mem_append_left _ hy
    refine ⟨maker_some hyC hm, ?_⟩
    have e1 : C.findIdx (fun y => decide (q ∈ makesL y)) < A.length := by
      rw [e, List.findIdx_append]
      have hlt : A.findIdx (fun y => decide (q ∈ makesL y)) < A.length := List.findIdx_lt_length.2 ⟨y, hy, by simpa using hm⟩
      rw [if_pos hlt]; exact hlt
    have e2 : A.length ≤ C.findIdx (fun y => decide (p ∈ makesL y)) := by
      rw [e, List.findIdx_append, if_neg]
      · exact Nat.le_add_left _ _
      · intro hlt
        obtain ⟨z, hz, hz2⟩ := List.findIdx_lt_length.1 hlt
        have hzC : z ∈ C := by rw [e]; exact List.mem_append_left _ hz
        have := h.id_eq hzC h1 (makes_id (h.rep z hzC) (h.rep x h1) (by simpa using hz2) h2)
        subst this; exact hnA hz
    omega
  · obtain ⟨h1, h2⟩ := user_mem hu
    obtain ⟨A, B, e, ha, hnA⟩ := h.split h1
    have hf := rep_fields (h.rep u h1)
    rw [fieldsB_7 hk, Bool.and_eq_true, Bool.and_eq_true, Bool.and_eq_true] at hf
    have hpar := parcel_ge hf.1.1.2
    have hne : ¬ u.parcel = u.other := by simpa using hf.2
    have hpo : p = u.other := by simpa [usesL, hk] using h2
    have hqt : u.parcel ∈ touchesL u := List.mem_filter.2 ⟨by simp, by simp; omega⟩
    have e1 : C.findIdx (fun y => decide (p ∈ usesL y)) ≤ A.length := by
      rw [e, List.findIdx_append]
      split
      · exact List.findIdx_le_length
      · rw [List.findIdx_cons]; simp [h2]
    have e2 : A.length + 1 ≤ C.findIdx (fun y => decide (u.parcel ∈ usesL y)) := by
      rw [e, List.findIdx_append, if_neg]
      · rw [List.findIdx_cons]
        have : decide (u.parcel ∈ usesL u) = false := by simp [usesL, hk, hne]
        rw [this]; simp; omega
      · intro hlt
        obtain ⟨z, hz, hz2⟩ := List.findIdx_lt_length.1 hlt
        exact (ha _ hqt).2 z hz (by simpa using hz2)
    have e3 : C.length = A.length + (B.length + 1) := by rw [e]; simp
    omega
theorem good_of {l : List Rep} {known : Int} (h : (checkE l).2 = 0) : GoodL (countL l known) := ((checked h).inv known).good
theorem lowF_bnd {B : Int} : ∀ (xs : List Rep) (a : Int), (∀ x ∈ xs, x.low ≤ B) → a ≤ B → a ≤ lowF a xs ∧ lowF a xs ≤ B
  | [], a, _, ha => ⟨Int.le_refl _, ha⟩
  | x :: xs, a, h, ha => by
    have h1 := h x (List.mem_cons_self ..)
    obtain ⟨h2, h3⟩ := lowF_bnd xs (max a x.low) (fun y hy => h y (List.mem_cons_of_mem _ hy)) (by omega)
    have e : lowF a (x :: xs) = lowF (max a x.low) xs := rfl
    rw [e]; exact ⟨by omega, h3⟩
theorem highF_bnd {B : Int} : ∀ (xs : List Rep) (a : Int), (∀ x ∈ xs, B ≤ x.high) → B ≤ a → highF a xs ≤ a ∧ B ≤ highF a xs
  | [], a, _, ha => ⟨Int.le_refl _, ha⟩
  | x :: xs, a, h, ha => by
    have h1 := h x (List.mem_cons_self ..)
    obtain ⟨h2, h3⟩ := highF_bnd xs (min a x.high) (fun y hy => h y (List.mem_cons_of_mem _ hy)) (by omega)
    have e : highF a (x :: xs) = highF (min a x.high) xs := rfl
    rw [e]; exact ⟨by omega, h3⟩
theorem weigh_span {C : List Rep} (h : ∀ x ∈ C, reportB x = true) {p : Int} {x : Rep} (hx : x ∈ weighL C p) : 1 ≤ x.low ∧ x.low ≤ x.high ∧ x.high ≤ 100000 := by
  obtain ⟨h1, h2⟩ := List.mem_filter.1 hx
  have hf := rep_fields (h x h1)
  simp only [wB, Bool.and_eq_true, decide_eq_true_eq] at h2
  have hs : spanB x.low x.high = true := by
    by_cases k1 : x.kind = 1
    · rw [fieldsB_1 k1] at hf; simp only [Bool.and_eq_true] at hf; exact hf.1.2
    · by_cases k4 : x.kind = 4
      · rw [fieldsB_4 k4] at hf; simp only [Bool.and_eq_true] at hf; exact hf.2
      · have : aboutN x = 0 := by simp [aboutN, k1, k4]
        omega
  simp only [spanB, inB, Bool.and_eq_true, decide_eq_true_eq] at hs
  exact ⟨hs.1.1, hs.1.2, hs.2⟩
theorem parL_ids {l : List Rep} {p : Int} (h : p ∈ idsL l) : parL l p = parOf l p := by simp [parL, parsL_get, h]
theorem arc_bnd {C : List Rep} (h : ∀ x ∈ C, reportB x = true) : ∀ a ∈ arcsL C, 1 ≤ a.low ∧ a.low ≤ 100000 ∧ 1 ≤ a.high ∧ a.high ≤ 100000000 := by
  intro a ha
  obtain ⟨p, hp, rfl⟩ := List.mem_map.1 ha
  have e : parL C p = parOf C p := parL_ids hp
  have h1 := lowF_bnd (B := 100000) (weighL C p) 1 (fun x hx => by have := weigh_span h hx; omega) (by omega)
  have h2 := highF_bnd (B := 1) (weighL C p) 100000000 (fun x hx => by have := weigh_span h hx; omega) (by omega)
  simp only [arcL, e, parOf, parcelP]
  omega
theorem ab_of {l : List Rep} {known : Int} (h : (checkE l).2 = 0) : ABnd (arcsL (countL l known)) := fun a ha => by
  have := arc_bnd ((checked h).inv known).rep a ha; omega

/-! ### What is known later -/
theorem count_early (l : List Rep) (k : Int) : countL (l.filter fun x => decide (x.known ≤ k)) k = countL l k := by
  have hv : ∀ j, voidB (l.filter fun x => decide (x.known ≤ k)) k j = voidB l k j := by
    intro j; simp only [voidB]
    rw [Bool.eq_iff_iff]; simp only [List.any_eq_true, Bool.and_eq_true, decide_eq_true_eq, List.mem_filter]
    constructor
    · rintro ⟨x, ⟨hx, _⟩, h⟩; exact ⟨x, hx, h⟩
    · rintro ⟨x, hx, h⟩; exact ⟨x, ⟨hx, h.1.2⟩, h⟩
  simp only [countL, List.filter_filter]
  refine List.filter_congr fun y hy => ?_
  simp only [cntB, hv]
  cases decide (y.kind = 8) <;> cases decide (y.known ≤ k) <;> cases voidB l k y.id <;> rfl
theorem early_take {k : Int} : ∀ {l : List Rep}, l.Pairwise (fun x y => x.known ≤ y.known) → ∃ n, (l.filter fun x => decide (x.known ≤ k)) = l.take n
  | [], _ => ⟨0, rfl⟩
  | x :: l, h => by
    obtain ⟨h1, h2⟩ := List.pairwise_cons.1 h
    by_cases hx : x.known ≤ k
    · obtain ⟨n, hn⟩ := early_take (k := k) h2
      exact ⟨n + 1, by simp [hx, hn]⟩
    · refine ⟨0, ?_⟩
      rw [List.take_zero, List.filter_eq_nil_iff]
      intro y hy
      rcases List.mem_cons.1 hy with rfl | hy
      · simpa using hx
      · have := h1 y hy; simp; omega
theorem check_take {l : List Rep} (h : (checkE l).2 = 0) (n : Nat) : checkE (l.take n) = (0, 0) := by
  symm
  refine check_none (i := (l.take n).length) (fun j hj => ?_) (by omega)
  simp only [List.length_take] at hj
  have := check_all h j (by omega)
  rw [List.take_take, show min j n = j by omega, List.getElem?_take, if_pos (by omega)]
  exact this
theorem check_early {l : List Rep} (h : (checkE l).2 = 0) (k : Int) : (checkE (l.filter fun x => decide (x.known ≤ k))).2 = 0 := by
  obtain ⟨n, hn⟩ := early_take (k := k) (checked h).srt
  rw [hn, check_take h]
end Go.Lag

/- Flows: what comes in and goes out, along paths and across sides: plain. -/
namespace Go.Lag
open Go Go.RowKit Go.Proofs

/-! ### What a vertex gains -/
def ind (b : Bool) (f : Int) : Int := if b then f else 0
theorem ind_neg (b : Bool) (f : Int) : ind b (-f) = -ind b f := by cases b <;> simp [ind]
def netV (v : Int) : List Arc → List Int → Int
  | a :: A, f :: fl => ind (decide (a.to = v)) f - ind (decide (a.from_ = v)) f + netV v A fl
  | _, _ => 0
theorem netV_set {v d : Int} : ∀ {A : List Arc} {fl : List Int} {i : Nat} {a : Arc} {f : Int}, A[i]? = some a → fl[i]? = some f → netV v A (fl.set i (f + d)) = netV v A fl + ind (decide (a.to = v)) d - ind (decide (a.from_ = v)) d
  | [], fl, i, a, f, ha, hf => by simp at ha
  | b :: A, [], i, a, f, ha, hf => by simp at hf
  | b :: A, g :: fl, 0, a, f, ha, hf => by
    simp at ha hf; subst ha hf
    simp only [List.set_cons_zero, netV, ind]
    split <;> split <;> omega
  | b :: A, g :: fl, i + 1, a, f, ha, hf => by
    simp only [List.getElem?_cons_succ] at ha hf
    have := netV_set (v := v) (d := d) ha hf
    simp only [List.set_cons_succ, netV, this]; omega
theorem netV_at {v d : Int} {A : List Arc} {fl : List Int} {k : Int} (hl : fl.length = A.length) (h0 : 0 ≤ k) (h1 : k < (A.length : Int)) : netV v A (fl.set k.toNat (fAt fl k + d)) = netV v A fl + ind (decide ((aAt A k).to = v)) d - ind (decide ((aAt A k).from_ = v)) d := by
  have hA : k.toNat < A.length := by omega
  have hF : k.toNat < fl.length := by omega
  have e1 : aAt A k = A[k.toNat] := by simp [aAt, hA]
  have e2 : fAt fl k = fl[k.toNat] := by simp [fAt, hF]
  rw [e1, e2]
  exact netV_set (by simp) (by simp)
/-- Leading n along the steps that a search has left. -/
theorem lead_net {A : List Arc} {fl0 : List Int} {skip from_ n : Int} {s : BSt} {rk : Int → Nat} (h : BInv A fl0 skip from_ s rk) : ∀ (k : Nat) (u : Int) (fl : List Int), fl.length = A.length → visB s.seen u = true → rk u < k →
    ∀ w, netV w A (leadL fl (trace A s.by_ from_ k u) n) = netV w A fl + ind (decide (u = w)) n - ind (decide (from_ = w)) n
  | 0, u, fl, _, _, hk => by omega
  | k + 1, u, fl, hl, hv, hk => fun w => by
    by_cases hf : u = from_
    · subst hf; rw [trace_end]; show netV w A fl = _; omega
    · obtain ⟨st, h1, h2, h3, h4⟩ := h.by_ u hv hf
      have e := trace_step (A := A) (from_ := from_) (k := k + 1) hf h1 rfl (by omega)
      rw [e, Nat.add_sub_cancel]
      have e2 : leadL fl (st :: trace A s.by_ from_ k (prevA A st)) n = leadL (lead1 n fl st) (trace A s.by_ from_ k (prevA A st)) n := rfl
      rw [e2, lead_net h k (prevA A st) (lead1 n fl st) (by simp [lead1, hl]) h3 (by omega) w]
      obtain ⟨a0, a1, _, hw⟩ := h2
      unfold lead1
      rw [netV_at hl a0 a1]
      rcases hw with ⟨hw, ht, _⟩ | ⟨hw, ht, _⟩
      · have hp : prevA A st = (aAt A st.arc).from_ := by simp [prevA, hw]
        rw [hw, hp, ht, Int.one_mul]; omega
      · have hp : prevA A st = (aAt A st.arc).to := by simp [prevA, hw]
        rw [hw, hp, ht, Int.neg_mul, Int.one_mul, ind_neg, ind_neg]; omega
theorem path_net {A : List Arc} {fl : List Int} {skip from_ n u : Int} {want : Int → Bool} (hl : fl.length = A.length) (hu : (pathTo A fl skip from_ want).1 = some u) (w : Int) :
    netV w A (leadL fl (stepsTo A fl skip from_ want u) n) = netV w A fl + ind (decide (u = w)) n - ind (decide (from_ = w)) n := by
  obtain ⟨⟨⟨rk, hb⟩, _⟩, h2⟩ := bfs_all (fl := fl) (skip := skip) (want := want) (2 * A.length + 3) _ (start_all A fl skip from_)
  have h3 := (h2 u hu).1
  exact lead_net hb _ u fl hl h3 (hb.lt u h3) w

/-! ### Balance -/
theorem gN_mu1_eq (m : List (Int × Int)) (a : Arc) (w : Int) : gN (mu1 m a) w = gN m w + ind (decide (a.to = w)) a.low - ind (decide (a.from_ = w)) a.low := by
  unfold mu1
  simp only [gN_aset, ind]
  by_cases h1 : a.from_ = w
  · subst h1
    by_cases h2 : a.to = a.from_
    · rw [h2]; simp
    · simp [h2]
  · by_cases h2 : a.to = w
    · subst h2; simp [h1]
    · simp [h1, h2]
theorem mu0_net (w : Int) : ∀ (A : List Arc) (m : List (Int × Int)), gN (A.foldl mu1 m) w = gN m w + netV w A (A.map (·.low))
  | [], m => by simp [netV]
  | a :: A, m => by
    rw [List.foldl_cons, mu0_net w A, gN_mu1_eq]
    simp only [List.map_cons, netV]; omega
/-- The map of what vertices have too much tells the flows' gains. -/
def NOk (A : List Arc) (st : BSta) : Prop := st.1.length = A.length ∧ ∀ w, gN st.2 w = netV w A st.1
theorem NOk.start (A : List Arc) : NOk A (A.map (·.low), mu0 A) := ⟨by simp, fun w => by
  have := mu0_net w A []
  have h0 : gN [] w = 0 := by simp [gN, aget_nil]
  simp only [mu0]; omega⟩
theorem balStep_at {A : List Arc} {st : BSta} {v u : Int} (hne : ¬ v = u) (w : Int) : gN (balStep A st v u).2 w = if u = w then gN st.2 u + roomL A st.1 (stepsTo A st.1 (-1) v (lacks st.2) u) (min (gN st.2 v) (-gN st.2 u)) else if v = w then gN st.2 v - roomL A st.1 (stepsTo A st.1 (-1) v (lacks st.2) u) (min (gN st.2 v) (-gN st.2 u)) else gN st.2 w := by
  simp only [balStep, gN_aset, if_neg hne]
theorem balStep_net {A : List Arc} {st : BSta} {v u : Int} (h : NOk A st) (hv : 0 < gN st.2 v) (hu : (pathTo A st.1 (-1) v (lacks st.2)).1 = some u) : NOk A (balStep A st v u) ∧ ∀ w, gN st.2 w ≤ 0 → gN (balStep A st v u).2 w ≤ 0 := by
  have hneg : gN st.2 u < 0 := by simpa [lacks] using (bfs_path hu).2
  have hne : ¬ v = u := fun e => by subst e; omega
  have hr1 := (roomL_le (A := A) (fl := st.1) (stepsTo A st.1 (-1) v (lacks st.2) u) (min (gN st.2 v) (-gN st.2 u))).1
  refine ⟨⟨by show (leadL _ _ _).length = _; rw [leadL, lead_len]; exact h.1, fun w => ?_⟩, fun w hw => ?_⟩
  · rw [balStep_at hne]
    show _ = netV w A (leadL st.1 (stepsTo A st.1 (-1) v (lacks st.2) u) _)
    rw [path_net h.1 hu w, ← h.2 w]
    simp only [ind]
    by_cases h1 : u = w
    · subst h1; simp [hne]
    · by_cases h2 : v = w
      · subst h2; simp [h1]
      · simp [h1, h2]
  · rw [balStep_at hne]
    split
    · omega
    · split
      · rename_i e; subst e; omega
      · exact hw
theorem balV_inl {A : List Arc} {v : Int} : ∀ (n : Nat) (st st' : BSta), BOk A st → NOk A st → (gN st.2 v).toNat < n → balV A n st v = .inl st' → BOk A st' ∧ NOk A st' ∧ gN st'.2 v ≤ 0 ∧ ∀ w, gN st.2 w ≤ 0 → gN st'.2 w ≤ 0
  | 0, st, st', _, _, hn, _ => by omega
  | n + 1, st, st', hb, hN, hn, h => by
    simp only [balV] at h
    split at h
    · rename_i hv
      split at h
      · cases h
      · rename_i u hu
        obtain ⟨h1, h2⟩ := balStep_ok hb hv hu
        obtain ⟨h3, h4⟩ := balStep_net hN hv hu
        obtain ⟨q1, q2, q3, q4⟩ := balV_inl n _ st' h1 h3 (by omega) h
        exact ⟨q1, q2, q3, fun w hw => q4 w (h4 w hw)⟩
    · rename_i hv
      injection h with h; subst h
      exact ⟨hb, hN, by omega, fun w hw => hw⟩
theorem balV_inr {A : List Arc} {v : Int} {s : List (Int × Bool)} : ∀ (n : Nat) (st : BSta), BOk A st → NOk A st → (gN st.2 v).toNat < n → balV A n st v = .inr s → ∃ st', BOk A st' ∧ NOk A st' ∧ 0 < gN st'.2 v ∧ (pathTo A st'.1 (-1) v (lacks st'.2)).1 = none ∧ s = (pathTo A st'.1 (-1) v (lacks st'.2)).2.seen
  | 0, st, _, _, hn, _ => by omega
  | n + 1, st, hb, hN, hn, h => by
    simp only [balV] at h
    split at h
    · rename_i hv
      split at h
      · rename_i hu
        injection h with h
        exact ⟨st, hb, hN, hv, hu, h.symm⟩
      · rename_i u hu
        obtain ⟨h1, h2⟩ := balStep_ok hb hv hu
        exact balV_inr n _ h1 (balStep_net hN hv hu).1 (by omega) h
    · cases h
theorem balAll_inl {A : List Arc} : ∀ (vs : List Int) (st st' : BSta), BOk A st → NOk A st → balAll A vs st = .inl st' → BOk A st' ∧ NOk A st' ∧ (∀ v ∈ vs, gN st'.2 v ≤ 0) ∧ ∀ w, gN st.2 w ≤ 0 → gN st'.2 w ≤ 0
  | [], st, st', hb, hN, h => by
    injection h with h; subst h
    exact ⟨hb, hN, by simp, fun w hw => hw⟩
  | v :: vs, st, st', hb, hN, h => by
    simp only [balAll] at h
    split at h
    · rename_i st1 h1
      obtain ⟨q1, q2, q3, q4⟩ := balV_inl _ _ _ hb hN (Nat.lt_succ_self _) h1
      obtain ⟨r1, r2, r3, r4⟩ := balAll_inl vs st1 st' q1 q2 h
      refine ⟨r1, r2, fun w hw => ?_, fun w hw => r4 w (q4 w hw)⟩
      rcases List.mem_cons.1 hw with rfl | hw
      · exact r4 w q3
      · exact r3 w hw
    · cases h
theorem balAll_inr {A : List Arc} {s : List (Int × Bool)} : ∀ (vs : List Int) (st : BSta), BOk A st → NOk A st → balAll A vs st = .inr s → ∃ v ∈ vs, ∃ st', BOk A st' ∧ NOk A st' ∧ 0 < gN st'.2 v ∧ (pathTo A st'.1 (-1) v (lacks st'.2)).1 = none ∧ s = (pathTo A st'.1 (-1) v (lacks st'.2)).2.seen
  | [], st, _, _, h => by cases h
  | v :: vs, st, hb, hN, h => by
    simp only [balAll] at h
    split at h
    · rename_i st1 h1
      obtain ⟨q1, q2, _, _⟩ := balV_inl _ _ _ hb hN (Nat.lt_succ_self _) h1
      obtain ⟨w, hw, r⟩ := balAll_inr vs st1 q1 q2 h
      exact ⟨w, List.mem_cons_of_mem _ hw, r⟩
    · rename_i s1 h1
      injection h with h; subst h
      exact ⟨v, List.mem_cons_self .., balV_inr _ _ hb hN (Nat.lt_succ_self _) h1⟩

/-! ### A search that finds nothing -/
/-- All that is reached from v is seen. -/
def Closed (A : List Arc) (fl : List Int) (skip : Int) (seen : List (Int × Bool)) (v : Int) (n : Nat) : Prop := ∀ i : Nat, i < n → ¬ (i : Int) = skip →
  ((aAt A i).from_ = v → fAt fl i < (aAt A i).high → visB seen (aAt A i).to = true) ∧ ((aAt A i).to = v → (aAt A i).low < fAt fl i → visB seen (aAt A i).from_ = true)
theorem Closed.mono {A : List Arc} {fl : List Int} {skip v : Int} {s s' : List (Int × Bool)} {n : Nat} (h : Closed A fl skip s v n) (hm : ∀ q, visB s q = true → visB s' q = true) : Closed A fl skip s' v n :=
  fun i hi hk => ⟨fun h1 h2 => hm _ ((h i hi hk).1 h1 h2), fun h1 h2 => hm _ ((h i hi hk).2 h1 h2)⟩
/-- What one step leaves of a state. -/
structure Grows (s s' : BSt) : Prop where
  seen : ∀ q, visB s.seen q = true → visB s'.seen q = true
  row : ∀ q ∈ s.row, q ∈ s'.row
  new : ∀ q, visB s'.seen q = true → visB s.seen q = true ∨ q ∈ s'.row
theorem Grows.refl (s : BSt) : Grows s s := ⟨fun _ h => h, fun _ h => h, fun _ h => .inl h⟩
theorem Grows.trans {a b c : BSt} (h : Grows a b) (k : Grows b c) : Grows a c := ⟨fun q hq => k.seen q (h.seen q hq), fun q hq => k.row q (h.row q hq), fun q hq => by
  rcases k.new q hq with h1 | h1
  · exact (h.new q h1).imp id (k.row q)
  · exact .inr h1⟩
theorem push_grows (s : BSt) (w : Int) (st : Stp) : Grows s (push s w st) := ⟨fun q hq => by simp [push, visB_aset, hq], fun q hq => List.mem_append_left _ hq, fun q hq => by
  simp only [push, visB_aset, Bool.or_eq_true, decide_eq_true_eq] at hq
  rcases hq with rfl | hq
  · exact .inr (by simp [push])
  · exact .inl hq⟩
theorem bUp_grows (a : Arc) (f v i : Int) (s : BSt) : Grows s (bUp a f v i s) := by unfold bUp; split; exact push_grows ..; exact Grows.refl _
theorem bDn_grows (a : Arc) (f v i : Int) (s : BSt) : Grows s (bDn a f v i s) := by unfold bDn; split; exact push_grows ..; exact Grows.refl _
theorem bArc_grows (A : List Arc) (fl : List Int) (skip v : Int) (s : BSt) (i : Nat) : Grows s (bArc A fl skip v s i) := by
  unfold bArc; split
  · exact Grows.refl _
  · exact (bUp_grows ..).trans (bDn_grows ..)
theorem bUp_closed {a : Arc} {f v i : Int} {s : BSt} (h1 : a.from_ = v) (h2 : f < a.high) : visB (bUp a f v i s).seen a.to = true := by
  unfold bUp
  cases hv : visB s.seen a.to with
  | true => simp [h1, hv]
  | false => simp [h1, hv, h2, push, visB_aset]
theorem bDn_closed {a : Arc} {f v i : Int} {s : BSt} (h1 : a.to = v) (h2 : a.low < f) : visB (bDn a f v i s).seen a.from_ = true := by
  unfold bDn
  cases hv : visB s.seen a.from_ with
  | true => simp [h1, hv]
  | false => simp [h1, hv, h2, push, visB_aset]
theorem bRow_closed (A : List Arc) (fl : List Int) (skip v : Int) (s : BSt) : ∀ n, Grows s (bRow A fl skip v s n) ∧ Closed A fl skip (bRow A fl skip v s n).seen v n
  | 0 => ⟨Grows.refl _, fun i hi => by omega⟩
  | n + 1 => by
    obtain ⟨h1, h2⟩ := bRow_closed A fl skip v s n
    rw [bRow_succ]
    have hg := bArc_grows A fl skip v (bRow A fl skip v s n) n
    refine ⟨h1.trans hg, fun i hi hk => ?_⟩
    by_cases e : i = n
    · subst e
      unfold bArc
      rw [if_neg hk]
      exact ⟨fun q1 q2 => (bDn_grows ..).seen _ (bUp_closed q1 q2), fun q1 q2 => bDn_closed q1 q2⟩
    · exact (h2.mono hg.seen) i (by omega) hk
/-- What is seen waits in the row, or is not wanted and closed. -/
def SDone (A : List Arc) (fl : List Int) (skip : Int) (want : Int → Bool) (s : BSt) : Prop := ∀ v, visB s.seen v = true → v ∈ s.row ∨ (want v = false ∧ Closed A fl skip s.seen v A.length)
theorem bfs_none {A : List Arc} {fl : List Int} {skip from_ : Int} {want : Int → Bool} : ∀ (n : Nat) (s : BSt), todo A from_ s < n → SDone A fl skip want s → (bfs A fl skip want n s).1 = none →
    (∀ q, visB s.seen q = true → visB (bfs A fl skip want n s).2.seen q = true) ∧ ∀ v, visB (bfs A fl skip want n s).2.seen v = true → want v = false ∧ Closed A fl skip (bfs A fl skip want n s).2.seen v A.length
  | 0, s, hn, _, _ => by omega
  | n + 1, s, hn, hD, h => by
    obtain ⟨b, se, row⟩ := s
    cases row with
    | nil =>
      refine ⟨fun q hq => hq, fun v hv => ?_⟩
      rcases hD v hv with h1 | h1
      · cases h1
      · exact h1
    | cons v row =>
      cases hw : want v with
      | true => simp [bfs, hw] at h
      | false =>
        simp only [bfs, hw, Bool.false_eq_true, if_false] at h ⊢
        obtain ⟨hg, hc⟩ := bRow_closed A fl skip v ⟨b, se, row⟩ A.length
        have hn2 : todo A from_ (bRow A fl skip v ⟨b, se, row⟩ A.length) < n := by
          refine Nat.lt_of_le_of_lt (bRow_todo (Nat.le_refl _)) ?_
          simp only [todo, List.length_cons] at hn ⊢; omega
        obtain ⟨q1, q2⟩ := bfs_none n _ hn2 (fun u hu => by
          rcases hg.new u hu with h1 | h1
          · rcases hD u h1 with h2 | ⟨h2, h3⟩
            · rcases List.mem_cons.1 h2 with rfl | h2
              · exact .inr ⟨hw, hc⟩
              · exact .inl (hg.row u h2)
            · exact .inr ⟨h2, h3.mono hg.seen⟩
          · exact .inl h1) h
        exact ⟨fun q hq => q1 q (hg.seen q hq), q2⟩
theorem path_none {A : List Arc} {fl : List Int} {skip from_ : Int} {want : Int → Bool} (h : (pathTo A fl skip from_ want).1 = none) :
    visB (pathTo A fl skip from_ want).2.seen from_ = true ∧ ∀ v, visB (pathTo A fl skip from_ want).2.seen v = true → want v = false ∧ Closed A fl skip (pathTo A fl skip from_ want).2.seen v A.length := by
  obtain ⟨h1, h2⟩ := bfs_none (A := A) (fl := fl) (skip := skip) (from_ := from_) (want := want) _ (start from_) (start_todo A from_) (fun v hv => .inl (by
    simp only [start, visB, aget_cons, aget_nil] at hv
    by_cases hj : from_ = v
    · subst hj; simp [start]
    · simp [hj] at hv)) h
  exact ⟨h1 from_ (by simp [start, visB, aget_cons]), h2⟩

/-! ### Across a set of vertices -/
def crossS (S : Int → Bool) : List Arc → List Int → Int
  | a :: A, f :: fl => ind (S a.to) f - ind (S a.from_) f + crossS S A fl
  | _, _ => 0
def sumN (S : Int → Bool) (g : Int → Int) : List Int → Int
  | [] => 0
  | v :: vs => ind (S v) (g v) + sumN S g vs
theorem sumN_add (S : Int → Bool) (g h : Int → Int) : ∀ vs, sumN S (fun v => g v + h v) vs = sumN S g vs + sumN S h vs
  | [] => rfl
  | v :: vs => by
    simp only [sumN, sumN_add S g h vs, ind]; split <;> omega
theorem sumN_neg (S : Int → Bool) (g : Int → Int) : ∀ vs, sumN S (fun v => -g v) vs = -sumN S g vs
  | [] => rfl
  | v :: vs => by
    simp only [sumN, sumN_neg S g vs, ind]; split <;> omega
theorem sumN_zero (S : Int → Bool) {g : Int → Int} : ∀ vs : List Int, (∀ v ∈ vs, g v = 0) → sumN S g vs = 0
  | [], _ => rfl
  | v :: vs, h => by
    have h1 := h v (List.mem_cons_self ..)
    simp only [sumN, sumN_zero S vs fun w hw => h w (List.mem_cons_of_mem _ hw), h1, ind]; split <;> omega
theorem sumN_one (S : Int → Bool) {w f : Int} : ∀ {vs : List Int}, vs.Nodup → w ∈ vs → sumN S (fun v => ind (decide (w = v)) f) vs = ind (S w) f
  | [], _, h => by cases h
  | v :: vs, hn, h => by
    obtain ⟨h1, h2⟩ := List.nodup_cons.1 hn
    simp only [sumN]
    rcases List.mem_cons.1 h with rfl | h
    · have e : sumN S (fun v => ind (decide (w = v)) f) vs = 0 := sumN_zero S vs fun u hu => by
        have : ¬ w = u := fun e => h1 (e ▸ hu)
        simp [ind, this]
      rw [e]; simp [ind]
    · have : ¬ w = v := fun e => h1 (e ▸ h)
      rw [sumN_one S h2 h]; simp [ind, this]
theorem cross_sum {S : Int → Bool} {vs : List Int} (hn : vs.Nodup) : ∀ (A : List Arc) (fl : List Int), (∀ a ∈ A, a.to ∈ vs ∧ a.from_ ∈ vs) → crossS S A fl = sumN S (fun v => netV v A fl) vs
  | [], fl, _ => by simp only [crossS, netV]; exact (sumN_zero S vs fun _ _ => rfl).symm
  | a :: A, [], _ => by simp only [crossS, netV]; exact (sumN_zero S vs fun _ _ => rfl).symm
  | a :: A, f :: fl, h => by
    obtain ⟨h1, h2⟩ := h a (List.mem_cons_self ..)
    have e : (fun v => netV v (a :: A) (f :: fl)) = fun v => (fun v => (fun v => ind (decide (a.to = v)) f) v + (fun v => -(fun v => ind (decide (a.from_ = v)) f) v) v) v + (fun v => netV v A fl) v := by
      funext v; simp only [netV]; omega
    rw [e, sumN_add, sumN_add, sumN_neg, sumN_one S hn h1, sumN_one S hn h2, ← cross_sum hn A fl fun b hb => h b (List.mem_cons_of_mem _ hb)]
    simp only [crossS]; omega
theorem sum_le {g : Int → Int} : ∀ {vs : List Int}, (∀ v ∈ vs, g v ≤ 0) → sumN (fun _ => true) g vs = 0 → ∀ v ∈ vs, g v = 0
  | [], _, _ => by simp
  | v :: vs, h, h0 => by
    have h1 := h v (List.mem_cons_self ..)
    have h2 : ∀ {ws : List Int}, (∀ w ∈ ws, g w ≤ 0) → sumN (fun _ => true) g ws ≤ 0 := by
      intro ws
      induction ws with
      | nil => intro _; exact Int.le_refl _
      | cons w ws ih =>
        intro hw
        have := ih fun z hz => hw z (List.mem_cons_of_mem _ hz)
        have := hw w (List.mem_cons_self ..)
        simp only [sumN, ind, if_true]; omega
    have h3 := h2 fun w hw => h w (List.mem_cons_of_mem _ hw)
    simp only [sumN, ind, if_true] at h0
    intro w hw
    rcases List.mem_cons.1 hw with rfl | hw
    · omega
    · exact sum_le (fun z hz => h z (List.mem_cons_of_mem _ hz)) (by omega) w hw
theorem cross_all : ∀ (A : List Arc) (fl : List Int), crossS (fun _ => true) A fl = 0
  | [], fl => rfl
  | a :: A, [] => rfl
  | a :: A, f :: fl => by simp only [crossS, cross_all A fl, ind, if_true]; omega
/-- All vertices are balanced. -/
def Bal (A : List Arc) (fl : List Int) : Prop := fl.length = A.length ∧ ∀ v, netV v A fl = 0
theorem net_out {v : Int} : ∀ (A : List Arc) (fl : List Int), (∀ a ∈ A, ¬ a.to = v ∧ ¬ a.from_ = v) → netV v A fl = 0
  | [], fl, _ => rfl
  | a :: A, [], _ => rfl
  | a :: A, f :: fl, h => by
    obtain ⟨h1, h2⟩ := h a (List.mem_cons_self ..)
    simp only [netV, net_out A fl fun b hb => h b (List.mem_cons_of_mem _ hb), ind, h1, h2]; rfl
theorem bal_of {A : List Arc} {st : BSta} {vs : List Int} (hn : vs.Nodup) (hv : ∀ a ∈ A, a.to ∈ vs ∧ a.from_ ∈ vs) (hN : NOk A st) (h : ∀ v ∈ vs, gN st.2 v ≤ 0) : Bal A st.1 := by
  refine ⟨hN.1, fun v => ?_⟩
  have h1 := cross_sum (S := fun _ => true) hn A st.1 hv
  rw [cross_all] at h1
  have h2 := sum_le (g := fun v => netV v A st.1) (vs := vs) (fun v hv => by show netV v A st.1 ≤ 0; rw [← hN.2 v]; exact h v hv) h1.symm
  by_cases hm : v ∈ vs
  · exact h2 v hm
  · exact net_out A st.1 fun a ha => ⟨fun e => hm (e ▸ (hv a ha).1), fun e => hm (e ▸ (hv a ha).2)⟩
theorem Bal.cross {A : List Arc} {fl : List Int} {vs : List Int} (h : Bal A fl) (hn : vs.Nodup) (hv : ∀ a ∈ A, a.to ∈ vs ∧ a.from_ ∈ vs) (S : Int → Bool) : crossS S A fl = 0 := by
  rw [cross_sum hn A fl hv]; exact sumN_zero S vs fun v _ => h.2 v
end Go.Lag

/- Sides: plain. -/
namespace Go.Lag
open Go Go.RowKit Go.Proofs
def endA (a : Arc) (up : Bool) : Int := if up then a.high else a.low
def acrossN (a : Arc) (side : List Int) : Int := if (hasB side a.to && !hasB side a.from_) = true then 1 else if (hasB side a.from_ && !hasB side a.to) = true then -1 else 0
def okAt (l : List Rep) (side : List Int) (i : Nat) : Bool := l.any (fun x => decide (x.id = side[i]?.getD 0) && moveB x) && (decide (i = 0) || decide (side[i - 1]?.getD 0 < side[i]?.getD 0))
def isSideL (l : List Rep) (side : List Int) : Bool := (List.range side.length).all (okAt l side)
theorem isSide_no {l : List Rep} {side : List Int} {i : Nat} (hi : i < side.length) (h : okAt l side i = false) : false = isSideL l side := by
  symm; unfold isSideL; rw [List.all_eq_false]; exact ⟨i, by simpa using hi, by simp [h]⟩
theorem isSide_yes {l : List Rep} {side : List Int} {i : Nat} (hi : ¬ (i : Int) < (side.length : Int)) (h : ∀ j, j < i → okAt l side j = true) : true = isSideL l side := by
  symm; unfold isSideL; rw [List.all_eq_true]; intro j hj; simp at hj; exact h j (by omega)
theorem okAt_step {l : List Rep} {side : List Int} {i : Nat} (h : ∀ j, j < i → okAt l side j = true) (hk : okAt l side i = true) : ∀ j, j < i + 1 → okAt l side j = true := fun j hj => by
  by_cases e : j = i
  · subst e; exact hk
  · exact h j (by omega)
/-- The terms that an end is shown by. -/
def term1 (p : Int) (up : Bool) (side : List Int) (way : Int) (x : Arc) : List Trm := if (decide (x.parcel = p) || decide (acrossN x side = 0)) = true then [] else if acrossN x side = way then [⟨x, !up, -1⟩] else [⟨x, up, 1⟩]
def termsL (l : List Rep) (p : Int) (up : Bool) (side : List Int) : Option (List Trm) :=
  if side.length = 0 then some [⟨aAt (arcsL l) (arcI l p), up, 1⟩] else if acrossN (aAt (arcsL l) (arcI l p)) side = 0 then none
  else some ((arcsL l).flatMap (term1 p up side (acrossN (aAt (arcsL l) (arcI l p)) side)))
theorem term_succ {A : List Arc} {i : Nat} {x : Arc} {f : Arc → List Trm} (h : A[i]? = some x) : (A.take (i + 1)).flatMap f = (A.take i).flatMap f ++ f x := by rw [take_get h]; simp
theorem term_len {A : List Arc} {p : Int} {up : Bool} {side : List Int} {way : Int} : (A.flatMap (term1 p up side way)).length ≤ A.length := by
  induction A with
  | nil => simp
  | cons a A ih =>
    have : (term1 p up side way a).length ≤ 1 := by
      unfold term1; split
      · simp
      · split <;> simp
    simp only [List.flatMap_cons, List.length_append, List.length_cons]; omega
end Go.Lag

/- Ends and what shows them: plain. -/
namespace Go.Lag
open Go Go.RowKit Go.Proofs

/-! ### Raising and sinking keep the balance -/
theorem raiseStep_bal {A : List Arc} {fl : List Int} {i u : Int} (hB : Bal A fl) (h : FOk A fl) (hi : 0 ≤ i ∧ i < (A.length : Int)) (hu : (pathTo A fl i (aAt A i).to (fun v => decide (v = (aAt A i).from_))).1 = some u) : Bal A (raiseStep A fl i u) := by
  have hw : u = (aAt A i).from_ := by simpa using (bfs_path hu).2
  refine ⟨by unfold raiseStep; simp only [List.length_set]; rw [leadL, lead_len]; exact hB.1, fun v => ?_⟩
  unfold raiseStep
  rw [netV_at (by rw [leadL, lead_len]; exact hB.1) hi.1 hi.2, path_net hB.1 hu, hB.2, hw]
  omega
theorem sinkStep_bal {A : List Arc} {fl : List Int} {i u : Int} (hB : Bal A fl) (h : FOk A fl) (hi : 0 ≤ i ∧ i < (A.length : Int)) (hu : (pathTo A fl i (aAt A i).from_ (fun v => decide (v = (aAt A i).to))).1 = some u) : Bal A (sinkStep A fl i u) := by
  have hw : u = (aAt A i).to := by simpa using (bfs_path hu).2
  refine ⟨by unfold sinkStep; simp only [List.length_set]; rw [leadL, lead_len]; exact hB.1, fun v => ?_⟩
  unfold sinkStep
  simp only [Int.sub_eq_add_neg]
  rw [netV_at (by rw [leadL, lead_len]; exact hB.1) hi.1 hi.2, path_net hB.1 hu, hB.2, hw, ind_neg, ind_neg]
  omega
/-- What raising ends in. -/
theorem raiseN_spec {A : List Arc} {i : Int} (hi : 0 ≤ i ∧ i < (A.length : Int)) (hA : ABnd A) : ∀ (n : Nat) (fl : List Int), FOk A fl → Bal A fl → (raiseGap A fl i).toNat < n →
    FOk A (raiseN A i n fl).1 ∧ Bal A (raiseN A i n fl).1 ∧
    ((raiseN A i n fl).2 = none ∧ fAt (raiseN A i n fl).1 i = (aAt A i).high ∨ (pathTo A (raiseN A i n fl).1 i (aAt A i).to (fun v => decide (v = (aAt A i).from_))).1 = none ∧ (raiseN A i n fl).2 = some (pathTo A (raiseN A i n fl).1 i (aAt A i).to (fun v => decide (v = (aAt A i).from_))).2.seen)
  | 0, fl, _, _, hn => by omega
  | n + 1, fl, h, hB, hn => by
    simp only [raiseN]
    split
    · rename_i hg
      split
      · rename_i hu; exact ⟨h, hB, .inr ⟨hu, rfl⟩⟩
      · rename_i u hu
        obtain ⟨h1, h2⟩ := raiseStep_ok h hi hA hg hu
        exact raiseN_spec hi hA n _ h1 (raiseStep_bal hB h hi hu) (by omega)
    · rename_i hg
      refine ⟨h, hB, .inl ⟨rfl, ?_⟩⟩
      have h6 := h.2 i.toNat (by omega)
      rw [show ((i.toNat : Nat) : Int) = i by omega] at h6
      unfold raiseGap at hg; show fAt fl i = _; omega
theorem sinkN_spec {A : List Arc} {i : Int} (hi : 0 ≤ i ∧ i < (A.length : Int)) (hA : ABnd A) : ∀ (n : Nat) (fl : List Int), FOk A fl → Bal A fl → (sinkGap A fl i).toNat < n →
    FOk A (sinkN A i n fl).1 ∧ Bal A (sinkN A i n fl).1 ∧
    ((sinkN A i n fl).2 = none ∧ fAt (sinkN A i n fl).1 i = (aAt A i).low ∨ (pathTo A (sinkN A i n fl).1 i (aAt A i).from_ (fun v => decide (v = (aAt A i).to))).1 = none ∧ (sinkN A i n fl).2 = some (pathTo A (sinkN A i n fl).1 i (aAt A i).from_ (fun v => decide (v = (aAt A i).to))).2.seen)
  | 0, fl, _, _, hn => by omega
  | n + 1, fl, h, hB, hn => by
    simp only [sinkN]
    split
    · rename_i hg
      split
      · rename_i hu; exact ⟨h, hB, .inr ⟨hu, rfl⟩⟩
      · rename_i u hu
        obtain ⟨h1, h2⟩ := sinkStep_ok h hi hA hg hu
        exact sinkN_spec hi hA n _ h1 (sinkStep_bal hB h hi hu) (by omega)
    · rename_i hg
      refine ⟨h, hB, .inl ⟨rfl, ?_⟩⟩
      have h6 := h.2 i.toNat (by omega)
      rw [show ((i.toNat : Nat) : Int) = i by omega] at h6
      unfold sinkGap at hg; show fAt fl i = _; omega

/-! ### The vertices of a list -/
theorem nodes_nodup {C : List Rep} (h : Inv C) : (nodesL C).Nodup := by
  refine List.nodup_cons.2 ⟨fun hm => ?_, ?_⟩
  · obtain ⟨x, hx, e⟩ := List.mem_map.1 hm
    have := rep_id (h.rep x hx); omega
  · rw [List.nodup_iff_pairwise_ne, List.pairwise_map]; exact h.ids
theorem arc_ends {C : List Rep} (h : Inv C) {p : Int} (hp : p ∈ idsL C) :
    ((arcL C p).from_ = 0 ∧ (parL C p).found = true ∨ (parL C p).found = false ∧ ∃ x ∈ C, (aget (makerM C) p) = some x ∧ moveB x = true ∧ (arcL C p).from_ = x.id) ∧
    ((arcL C p).to = 0 ∧ aget (userM C) p = none ∨ ∃ x ∈ C, aget (userM C) p = some x ∧ moveB x = true ∧ (arcL C p).to = x.id) := by
  have e : parL C p = parOf C p := parL_ids hp
  obtain ⟨x, hx⟩ := Option.isSome_iff_exists.1 (ids_mem hp)
  obtain ⟨m1, m2⟩ := maker_mem hx
  have hok : okB C p = true := (List.mem_filter.1 (sortL_mem.1 hp)).2
  constructor
  · simp only [arcL, e, parOf, parcelP, mkOf_some hx]
    by_cases hk : x.kind = 1
    · left; simp [hk]
    · right
      refine ⟨by simp [hk], x, m1, hx, ?_, by simp [hk]⟩
      rcases makes_kind m2 with r | r | r
      · exact absurd r hk
      · simp [moveB, r]
      · simp [moveB, r]
  · simp only [arcL, e, parOf, parcelP]
    cases hu : aget (userM C) p with
    | none => left; exact ⟨rfl, rfl⟩
    | some u =>
      right
      obtain ⟨q1, q2⟩ := user_mem hu
      refine ⟨u, q1, rfl, ?_, by simp⟩
      simp only [okB, hu, Option.isSome_some, Bool.not_true, Bool.false_or, Option.getD_some, Bool.not_eq_true', decide_eq_false_iff_not] at hok
      unfold usesL at q2
      by_cases k2 : u.kind = 2
      · simp [moveB, k2]
      · by_cases k3 : u.kind = 3
        · simp [moveB, k3]
        · simp [k2, k3, hok] at q2
theorem arc_nodes {C : List Rep} (h : Inv C) : ∀ a ∈ arcsL C, a.to ∈ nodesL C ∧ a.from_ ∈ nodesL C := by
  intro a ha
  obtain ⟨p, hp, rfl⟩ := List.mem_map.1 ha
  obtain ⟨h1, h2⟩ := arc_ends h hp
  constructor
  · rcases h2 with ⟨e, _⟩ | ⟨x, hx, _, _, e⟩
    · rw [e]; exact List.mem_cons_self ..
    · rw [e]; exact List.mem_cons_of_mem _ (List.mem_map_of_mem hx)
  · rcases h1 with ⟨e, _⟩ | ⟨_, x, hx, _, _, e⟩
    · rw [e]; exact List.mem_cons_self ..
    · rw [e]; exact List.mem_cons_of_mem _ (List.mem_map_of_mem hx)
theorem ids_nodup (l : List Rep) : (idsL l).Nodup := by
  have hn : ((makerM l).map (·.1)).Nodup := by
    have : ∀ (ks : List Int) (x : Rep) (m : List (Int × Rep)), (m.map (·.1)).Nodup → ((putAll m ks x).map (·.1)).Nodup := by
      intro ks x
      induction ks with
      | nil => intro m h; exact h
      | cons k ks ih => intro m h; exact ih _ (nodup_aset h k x)
    have h2 : ∀ (l : List Rep) (m : List (Int × Rep)), (m.map (·.1)).Nodup → ((l.foldl (fun m x => putAll m (makesL x) x) m).map (·.1)).Nodup := by
      intro l
      induction l with
      | nil => intro m h; exact h
      | cons x l ih => intro m h; exact ih _ (this _ x m h)
    exact h2 l [] (by simp)
  exact ((List.mergeSort_perm _ _).nodup_iff).2 (hn.filter _)
theorem arcs_len {C : List Rep} (h : Inv C) (hC : C.length ≤ 1000) : (arcsL C).length ≤ 1000000 := by
  have h1 := ids_len C
  have h2 := maker_len (l := C) fun x hx => (report_small (h.rep x hx)).1
  simp only [arcsL, List.length_map]; omega
theorem net_low {A : List Arc} (h : ABnd A) (v : Int) : -(200000000 * (A.length : Int)) ≤ netV v A (A.map (·.low)) ∧ netV v A (A.map (·.low)) ≤ 200000000 * (A.length : Int) := by
  induction A with
  | nil => simp [netV]
  | cons a A ih =>
    have h1 := h a (List.mem_cons_self ..)
    have h2 := ih fun b hb => h b (List.mem_cons_of_mem _ hb)
    simp only [List.map_cons, netV, ind, List.length_cons]
    split <;> split <;> omega
/-- The flows that balance begins with. -/
theorem low_start {A : List Arc} (h : ABnd A) (hn : A.length ≤ 1000000) (hno : ∀ a ∈ A, ¬ a.high < a.low) : BOk A (A.map (·.low), mu0 A) :=
  bal_start hno hn fun w => by rw [(NOk.start A).2 w]; exact net_low h w
theorem balOf_ok {C : List Rep} (h : Inv C) (hA : ABnd (arcsL C)) (hC : C.length ≤ 1000) {st : BSta} (hb : balOf C = some st) : FOk (arcsL C) st.1 ∧ Bal (arcsL C) st.1 := by
  unfold balOf at hb
  split at hb
  · rename_i st' h1 h2
    injection hb with hb; subst hb
    have hno : ∀ a ∈ arcsL C, ¬ a.high < a.low := fun a ha => by simpa using List.find?_eq_none.1 h1 a ha
    obtain ⟨q1, q2, q3, _⟩ := balAll_inl _ _ _ (low_start hA (arcs_len h hC) hno) (NOk.start _) h2
    exact ⟨q1.fl, bal_of (nodes_nodup h) (arc_nodes h) q2 q3⟩
  · cases hb

/-! ### What shows an end -/
def valT (t : Trm) : Int := t.sign * endA t.arc t.upper
def tsumL (ts : List Trm) : Int := (ts.map valT).sum
theorem tsum_app (a b : List Trm) : tsumL (a ++ b) = tsumL a + tsumL b := by simp [tsumL]
/-- What the arcs of a parcel carry across. -/
def ownS (p : Int) (S : Int → Bool) : List Arc → List Int → Int
  | a :: A, f :: fl => (if a.parcel = p then ind (S a.to) f - ind (S a.from_) f else 0) + ownS p S A fl
  | _, _ => 0
/-- How the arcs stand to a side: s is 1 where the side is the set itself, -1 where it is the others. -/
def Sided (S : Int → Bool) (side : List Int) (s : Int) (A : List Arc) : Prop := ∀ a ∈ A, acrossN a side = if (S a.to && !S a.from_) = true then s else if (S a.from_ && !S a.to) = true then -s else 0
/-- The arcs across are full, or at their least; but those of p. -/
def Tight (p : Int) (S : Int → Bool) (A : List Arc) (fl : List Int) : Prop := ∀ q ∈ A.zip fl, ¬ q.1.parcel = p → ((S q.1.from_ && !S q.1.to) = true → q.2 = q.1.high) ∧ ((S q.1.to && !S q.1.from_) = true → q.2 = q.1.low)
theorem cut_up {p : Int} {S : Int → Bool} {side : List Int} {s : Int} (h0 : s = 1 ∨ s = -1) : ∀ {A : List Arc} {fl : List Int}, fl.length = A.length → Sided S side s A → Tight p S A fl →
    crossS S A fl = ownS p S A fl - tsumL (A.flatMap (term1 p true side s))
  | [], fl, _, _, _ => by simp [crossS, ownS, tsumL]
  | a :: A, [], hl, _, _ => by simp at hl
  | a :: A, f :: fl, hl, hS, hT => by
    have ih := cut_up (p := p) (S := S) (side := side) h0 (A := A) (fl := fl) (by simpa using hl) (fun b hb => hS b (List.mem_cons_of_mem _ hb)) (fun q hq => hT q (List.mem_cons_of_mem _ hq))
    have h1 := hS a (List.mem_cons_self ..)
    have h2 := hT (a, f) (List.mem_cons_self ..)
    simp only [crossS, ownS, List.flatMap_cons, tsum_app, ih]
    by_cases hp : a.parcel = p
    · simp only [hp, if_true, term1, decide_true, Bool.true_or, tsumL, List.map_nil, List.sum_nil]; omega
    · obtain ⟨h3, h4⟩ := h2 hp
      simp only [hp, if_false]
      cases hto : S a.to <;> cases hfr : S a.from_ <;> simp only [hto, hfr, Bool.not_true, Bool.not_false, Bool.and_true, Bool.and_false, Bool.true_and, Bool.false_and, if_true, if_false, Bool.false_eq_true, ind] at h1 h3 h4 ⊢
      · simp [term1, hp, h1, tsumL]
      · have : ¬ (-s) = s := by omega
        have : ¬ (-s) = 0 := by omega
        simp [term1, hp, h1, tsumL, valT, endA, *]; omega
      · have : ¬ s = 0 := by omega
        simp [term1, hp, h1, tsumL, valT, endA, *]; omega
      · simp [term1, hp, h1, tsumL]
theorem cut_down {p : Int} {S : Int → Bool} {side : List Int} {s : Int} (h0 : s = 1 ∨ s = -1) : ∀ {A : List Arc} {fl : List Int}, fl.length = A.length → Sided S side s A → Tight p S A fl →
    crossS S A fl = ownS p S A fl + tsumL (A.flatMap (term1 p false side (-s)))
  | [], fl, _, _, _ => by simp [crossS, ownS, tsumL]
  | a :: A, [], hl, _, _ => by simp at hl
  | a :: A, f :: fl, hl, hS, hT => by
    have ih := cut_down (p := p) (S := S) (side := side) h0 (A := A) (fl := fl) (by simpa using hl) (fun b hb => hS b (List.mem_cons_of_mem _ hb)) (fun q hq => hT q (List.mem_cons_of_mem _ hq))
    have h1 := hS a (List.mem_cons_self ..)
    have h2 := hT (a, f) (List.mem_cons_self ..)
    simp only [crossS, ownS, List.flatMap_cons, tsum_app, ih]
    by_cases hp : a.parcel = p
    · simp only [hp, if_true, term1, decide_true, Bool.true_or, tsumL, List.map_nil, List.sum_nil]; omega
    · obtain ⟨h3, h4⟩ := h2 hp
      simp only [hp, if_false]
      cases hto : S a.to <;> cases hfr : S a.from_ <;> simp only [hto, hfr, Bool.not_true, Bool.not_false, Bool.and_true, Bool.and_false, Bool.true_and, Bool.false_and, if_true, if_false, Bool.false_eq_true, ind] at h1 h3 h4 ⊢
      · simp [term1, hp, h1, tsumL]
      · have : ¬ (-s) = 0 := by omega
        simp [term1, hp, h1, tsumL, valT, endA, *]; omega
      · have : ¬ s = 0 := by omega
        have : ¬ s = -s := by omega
        simp [term1, hp, h1, tsumL, valT, endA, *]; omega
      · simp [term1, hp, h1, tsumL]
end Go.Lag

/- Ends shown, what they rest on, what has changed: plain. -/
namespace Go.Lag
open Go Go.RowKit Go.Proofs

/-! ### The terms of a sum -/
theorem term1_mem {p : Int} {up : Bool} {side : List Int} {way : Int} {x : Arc} {t : Trm} (h : t ∈ term1 p up side way x) : t.arc = x ∧ (t.sign = 1 ∨ t.sign = -1) := by
  unfold term1 at h
  split at h
  · cases h
  · split at h <;> simp at h <;> subst h <;> simp
theorem terms_mem {l : List Rep} {p : Int} (hp : p ∈ idsL l) {up : Bool} {side : List Int} {ts : List Trm} (h : termsL l p up side = some ts) : ∀ t ∈ ts, t.arc ∈ arcsL l ∧ (t.sign = 1 ∨ t.sign = -1) := by
  unfold termsL at h
  split at h
  · injection h with h; subst h
    intro t ht; simp at ht; subst ht
    exact ⟨aAt_in (arcI_ok hp), .inl rfl⟩
  · split at h
    · cases h
    · injection h with h; subst h
      intro t ht
      obtain ⟨x, hx, h1⟩ := List.mem_flatMap.1 ht
      obtain ⟨e, h2⟩ := term1_mem h1
      exact ⟨e ▸ hx, h2⟩
theorem terms_len {l : List Rep} {p : Int} {up : Bool} {side : List Int} {ts : List Trm} (h : termsL l p up side = some ts) : ts.length ≤ (arcsL l).length + 1 := by
  unfold termsL at h
  split at h
  · injection h with h; subst h; simp
  · split at h
    · cases h
    · injection h with h; subst h
      have := term_len (A := arcsL l) (p := p) (up := up) (side := side) (way := acrossN (aAt (arcsL l) (arcI l p)) side); omega
theorem val_bnd {A : List Arc} (hA : ABnd A) {t : Trm} (h : t.arc ∈ A ∧ (t.sign = 1 ∨ t.sign = -1)) : -100000000 ≤ t.sign * endA t.arc t.upper ∧ t.sign * endA t.arc t.upper ≤ 100000000 := by
  have h1 := hA _ h.1
  rcases h.2 with e | e <;> rw [e] <;> unfold endA <;> split <;> omega
theorem tsum_succ {ts : List Trm} {i : Nat} {t : Trm} (h : ts[i]? = some t) : tsumL (ts.take (i + 1)) = tsumL (ts.take i) + t.sign * endA t.arc t.upper := by
  rw [take_get h, tsum_app]; simp [tsumL, valT]
theorem tsum_bnd {A : List Arc} (hA : ABnd A) : ∀ (ts : List Trm), (∀ t ∈ ts, t.arc ∈ A ∧ (t.sign = 1 ∨ t.sign = -1)) → -(100000000 * (ts.length : Int)) ≤ tsumL ts ∧ tsumL ts ≤ 100000000 * (ts.length : Int)
  | [], _ => by simp [tsumL]
  | t :: ts, h => by
    have h1 := val_bnd hA (h t (List.mem_cons_self ..))
    have h2 := tsum_bnd hA ts fun u hu => h u (List.mem_cons_of_mem _ hu)
    have e : tsumL (t :: ts) = t.sign * endA t.arc t.upper + tsumL ts := by simp [tsumL, valT]
    rw [e, List.length_cons]; omega
/-- What CheckSide answers. -/
def sideOk (up : Bool) (s end_ : Int) : Bool := (up && decide (s ≤ end_)) || (!up && decide (end_ ≤ s))
def sideCk (l : List Rep) (known p : Int) (up : Bool) (end_ : Int) (side : List Int) : Bool × Int :=
  if ¬ lookE l known [p] = 0 then (false, lookE l known [p])
  else if isSideL (countL l known) side = false then (false, 0)
  else match termsL (countL l known) p up side with
    | none => (false, 0)
    | some ts => (sideOk up (tsumL ts) end_, 0)
/-! ### What an end rests on -/
def skipB (t : Trm) : Bool := (t.upper && decide (endA t.arc t.upper = 100000000)) || (!t.upper && decide (endA t.arc t.upper = 1))
def hitB (t : Trm) (x : Rep) : Bool := (t.upper && decide (x.high = endA t.arc t.upper)) || (!t.upper && decide (x.low = endA t.arc t.upper))
def rest1 (C : List Rep) (m : List (Int × Bool)) (t : Trm) : List (Int × Bool) := if skipB t = true then m else match (weighL C t.arc.parcel).find? (hitB t) with
  | some x => aset m x.id true
  | none => m
def restM (C : List Rep) (ts : List Trm) : List (Int × Bool) := ts.foldl (rest1 C) []
def restsE (l : List Rep) (known p : Int) (up : Bool) (side : List Int) : List Int × Int :=
  if ¬ lookE l known [p] = 0 then ([], lookE l known [p])
  else if isSideL (countL l known) side = false then ([], 1)
  else match termsL (countL l known) p up side with
    | none => ([], 1)
    | some ts => (sortL ((restM (countL l known) ts).map (·.1)), 0)
theorem rest1_len (C : List Rep) (m : List (Int × Bool)) (t : Trm) : (rest1 C m t).length ≤ m.length + 1 := by
  unfold rest1; split
  · omega
  · split
    · exact aset_len _ _ _
    · omega
theorem restM_len (C : List Rep) (ts : List Trm) : (restM C ts).length ≤ ts.length := by
  have : ∀ (ts : List Trm) (m : List (Int × Bool)), (ts.foldl (rest1 C) m).length ≤ m.length + ts.length := by
    intro ts
    induction ts with
    | nil => intro m; simp
    | cons t ts ih => intro m; have h1 := ih (rest1 C m t); have h2 := rest1_len C m t; simp only [List.foldl_cons, List.length_cons]; omega
  simpa [restM] using this ts []
theorem find_pre {α : Type} {p : α → Bool} {pre xs : List α} {y : α} (hpre : ∃ zs, zs = xs ∧ (pre ++ [y]) <+: zs) (hno : pre.find? p = none) (hy : p y = true) : xs.find? p = some y := by
  obtain ⟨zs, rfl, r, rfl⟩ := hpre
  rw [List.append_assoc, List.find?_append, hno]; simp [hy]
theorem find_snoc {α : Type} {p : α → Bool} {pre : List α} {y : α} (hno : pre.find? p = none) (hy : p y = false) : (pre ++ [y]).find? p = none := by
  rw [List.find?_append, hno]; simp [hy]
/-! ### What has changed -/
def EBo : Elem Bool where
  sz := 1
  rep cs x := cs = [.bool x]
  len := by rintro cs x rfl; rfl
  one := by
    rintro cs x rfl u hu
    simp only [List.mem_cons, List.not_mem_nil, or_false] at hu
    subst hu; rfl
def chU (a b : List Rep) (sa sb : BSta) (p : Int) (up : Bool) : Bool := !decide (endL a p up sa = endL b p up sb)
def chB (a b : List Rep) (sa sb : BSta) (p : Int) : Bool := (aget (parsL b) p).isSome && [false, true].any (chU a b sa sb p)
def changedE (l : List Rep) (k1 k2 : Int) : List Int × Int :=
  if ¬ lookE l k1 [] = 0 then ([], lookE l k1 [])
  else if ¬ lookE l k2 [] = 0 then ([], lookE l k2 [])
  else match balOf (countL l k1), balOf (countL l k2) with
    | some sa, some sb => ((idsL (countL l k1)).filter (chB (countL l k1) (countL l k2) sa sb), 0)
    | _, _ => ([], 32)
theorem changed_32 {l : List Rep} {k1 k2 : Int} (h1 : lookE l k1 [] = 0) (h2 : lookE l k2 [] = 0) (h : (!(balOf (countL l k1)).isSome || !(balOf (countL l k2)).isSome) = true) : changedE l k1 k2 = ([], 32) := by
  unfold changedE
  rw [if_neg (by simp [h1]), if_neg (by simp [h2])]
  cases ha : balOf (countL l k1) with
  | none => rfl
  | some sa =>
    cases hb : balOf (countL l k2) with
    | none => rfl
    | some sb => simp [ha, hb] at h
theorem changed_0 {l : List Rep} {k1 k2 : Int} {sa sb : BSta} (h1 : lookE l k1 [] = 0) (h2 : lookE l k2 [] = 0) (ha : balOf (countL l k1) = some sa) (hb : balOf (countL l k2) = some sb) : changedE l k1 k2 = ((idsL (countL l k1)).filter (chB (countL l k1) (countL l k2) sa sb), 0) := by
  unfold changedE
  rw [if_neg (by simp [h1]), if_neg (by simp [h2]), ha, hb]
section
variable {r : Option Nat} {P : Program} {m : Nat} {ds : List Deferred} {Q : Exit → Act → World → Prop} {l : Env} {H R : List Assn} {e : TypeId} {rest : List Oper} {ops : Array Oper} {α : Type} {E : Elem α}
/-- A block of one element as1 a row. -/
theorem ToRw1 {b : Nat} {cs : List Value} (E : Elem α) (a : α) (h : RegH r P m ds ops Q rest l (.rw E e (.slice (some ⟨b, 0, none⟩) 1 1) [a] :: R))
    (hp : Pick (.cl b cs e) H R := by repeat (first | exact Pick.head | apply Pick.tail)) (hr : E.rep cs a := by rfl) : RegH r P m ds ops Q rest l H :=
  ToRw E [a] hp (by have := (Elems.nil E).snoc (a := a) (ds := cs) hr; simpa using this) (E.one cs a hr) rfl (by simp only [maxLen, List.length_cons, List.length_nil]; omega) h
theorem ToRw2B {b : Nat} (x y : Bool) (h : RegH r P m ds ops Q rest l (.rw EBo e (.slice (some ⟨b, 0, none⟩) 2 2) [x, y] :: R))
    (hp : Pick (.cl b [.bool x, .bool y] e) H R := by repeat (first | exact Pick.head | apply Pick.tail)) : RegH r P m ds ops Q rest l H :=
  ToRw EBo [x, y] hp (by have := ((Elems.nil EBo).snoc (a := x) (ds := [.bool x]) rfl).snoc (a := y) (ds := [.bool y]) rfl; simpa using this) (by intro u hu; simp at hu; rcases hu with rfl | rfl <;> rfl) rfl (by simp only [maxLen, List.length_cons, List.length_nil]; omega) h
end
end Go.Lag

/- Balance and bounds, told by balOf. -/
namespace Go.Lag
open Go Go.RowKit Go.Proofs
theorem bal2_sp {Z : Hp} {b s pb : Nat} {l : List Rep} {iv : Value} (hB : BeaZ Z b l s iv pb) (hln : l.length ≤ 1000) {g : Nat} {av : Value} {Za : Hp} (hA : SlZ EA Za av (arcsL l)) (hAn : (arcsL l).length ≤ 1000000) (hAb : ABnd (arcsL l)) :
    Sp Tryz.prog 81 [ptr b 0, ptr g 0] [.cl g [av, .slice none 0 0] 213, .zm Za, .zm Z] fun v H' => ∃ c A n k, v = .tuple #[.agg #[.int .i64 c, .slice A n k], .bool (balOf l).isSome] ∧ H' = [] := fun F w hw => by
  refine (balance_sp (A := arcsL l) hB hln hA hAn hAb F w hw).mono ?_
  rintro v w' ⟨H', hk, hh⟩
  rcases hk with ⟨a, hfa, rfl, rfl⟩ | ⟨hfa, sv, seen, hba, rfl, rfl⟩ | ⟨hfa, st, fv, hba, rfl, hok, rfl⟩
  · exact ⟨[], ⟨_, none, 0, 0, by rw [balOf_none (.inl ⟨a, hfa⟩)]; rfl, rfl⟩, hh⟩
  · obtain ⟨A, c, rfl⟩ := OwnS.form (hh.all _ (List.mem_cons_self ..))
    exact ⟨[], ⟨_, A, _, c, by rw [balOf_none (.inr ⟨hfa, _, hba⟩)]; rfl, rfl⟩, hh.right⟩
  · exact ⟨[], ⟨_, none, 0, 0, by rw [balOf_some hfa hba]; rfl, rfl⟩, hh.right⟩
theorem bound2_sp {Z : Hp} {b s pb : Nat} {l : List Rep} {iv : Value} (hB : BeaZ Z b l s iv pb) (hln : l.length ≤ 1000) (hil : (idsL l).length ≤ 1000000) (hAb : ABnd (arcsL l)) {p : Int} (hp : p ∈ idsL l) {up : Bool} {st : BSta} (hst : balOf l = some st) :
    Sp Tryz.prog 83 [ptr b 0, .int .i64 p, .bool up] [.zm Z] fun v H' => ∃ fv sv, v = .tuple #[.int .i64 (endL l p up st), fv, sv, .bool true] ∧ H' = [] := fun F w hw => by
  refine (bound_sp hB hln hil hAb hp (up := up) F w hw).mono ?_
  rintro v w' ⟨H', hk, hh⟩
  rcases hk with ⟨rfl, rfl, hbad⟩ | ⟨st', fv, sv, hfa, hba, hok, rfl, rfl⟩
  · rw [balOf_none hbad] at hst; cases hst
  · have e := balOf_some hfa hba
    rw [hst] at e; injection e with e; subst e
    exact ⟨[], ⟨fv, sv, rfl, rfl⟩, hh.right⟩
theorem both_some {α β : Type} {a : Option α} {b : Option β} (h : (!a.isSome || !b.isSome) = false) : (∃ x, a = some x) ∧ ∃ y, b = some y := by
  simp only [Bool.or_eq_false_iff, Bool.not_eq_false'] at h
  exact ⟨Option.isSome_iff_exists.1 h.1, Option.isSome_iff_exists.1 h.2⟩
theorem pars_in {l : List Rep} {p : Int} (h : (aget (parsL l) p).isSome = true) : p ∈ idsL l := by
  rw [parsL_get] at h; split at h
  · assumption
  · cases h
end Go.Lag

/- Ranges over functions inside a loop: the marks that they leave are kept until the function ends. -/
namespace Go.Lag
open Go Go.RowKit
abbrev dsO (Ds : List Nat) : List Deferred := Ds.map fun D => { target := .collected D, args := #[] }
abbrev obs (Ds : List Nat) : List Assn := Ds.map fun D => Assn.ob D dfr
section
variable {r : Option Nat} {P : Program} {m : Nat} {Q : Exit → Act → World → Prop} {l : Env} {H H' R F : List Assn} {c : Code}
def RoundM (m : Nat) (I : Nat → List Nat → Env → List Assn → Prop) (n : Nat) : Act → World → Prop := fun a w => ∃ n' Ds' l' H', I n' Ds' l' H' ∧ n' < n ∧ Has m (dsO Ds') l' a ∧ Holds H' w
theorem LpM (I : Nat → List Nat → Env → List Assn → Prop) {n : Nat} (Ds0 : List Nat) {l0 : Env} {H0 : List Assn} (h0 : I n Ds0 l0 H0) (hs : Sub l0 l)
    (round : ∀ n Ds l H, I n Ds l H → WH r P m (dsO Ds) c (Exit.then (RoundM m I n) Q) l H)
    (hH : SubH H0 H := by repeat (first | exact SubH.refl | exact SubH.nil | refine SubH.cons (by repeat (first | exact Pick.head | apply Pick.tail)) ?_ | refine SubH.skip ?_)) : WH r P m (dsO Ds0) (.loop c) Q l H := by
  intro w hw a ha
  classical
  let p : Act → World → Nat → Prop := fun a w n => ∃ Ds l H, I n Ds l H ∧ Has m (dsO Ds) l a ∧ Holds H w
  let M : Act → World → Nat := fun a w => if h : ∃ n, p a w n then Classical.choose (exists_min (p a w) h) else 0
  have hM : ∀ a w, (∃ n, p a w n) → p a w (M a w) ∧ ∀ j, p a w j → M a w ≤ j := by
    intro a w h
    have := Classical.choose_spec (exists_min (p a w) h)
    simp only [M, h, dif_pos]
    exact this
  refine wpIn_loop (fun a w => ∃ n, p a w n) M ⟨_, Ds0, l0, H0, h0, ha.sub hs, hH.holds hw⟩ ?_
  intro a w hI
  obtain ⟨⟨Ds, l, H, hI', ha', hw'⟩, hmin⟩ := hM a w hI
  refine wpIn_mono (round _ Ds l H hI' w hw' a ha') fun e a₁ w₁ q => ?_
  cases e with
  | normal =>
    obtain ⟨n', Ds', l', H', h1, h2, h3, h4⟩ := q
    have hex : ∃ n, p a₁ w₁ n := ⟨n', Ds', l', H', h1, h3, h4⟩
    exact ⟨hex, Nat.lt_of_le_of_lt ((hM a₁ w₁ hex).2 _ ⟨Ds', l', H', h1, h3, h4⟩) h2⟩
  | _ => exact q
theorem ReM {I : Nat → List Nat → Env → List Assn → Prop} {n n' : Nat} (Ds' : List Nat) {l' : Env} {H' : List Assn} (hI : I n' Ds' l' H') (hlt : n' < n) (hs : Sub l' l)
    (hH : SubH H' H := by repeat (first | exact SubH.refl | exact SubH.nil | refine SubH.cons (by repeat (first | exact Pick.head | apply Pick.tail)) ?_ | refine SubH.skip ?_)) :
    PostH m (dsO Ds') .normal (Exit.then (RoundM m I n) Q) l H := fun w hw a ha => ⟨n', Ds', l', H', hI, hlt, ha.sub hs, hH.holds hw⟩
theorem leavesMn {fn : Func} {a : Act} {ds : List Deferred} {K : Value → List Assn → Prop} {vs : List Value} {xs : List ResultVar} {v : Value} (hfn : fn.results = xs.toArray) (ha : Has m ds l a) (hr : ResH P R l xs vs) (hv1 : v = oneOrTuple vs) (hK : K v H') (hH : SubH (H' ++ F) R) :
    ∀ (Ds : List Nat) (w : World), Holds (obs Ds ++ R) w → LeavesInM (FW none) 0 P fn a.tmps (fun e w' => ∃ v, e = .returned v ∧ ∃ H', K v H' ∧ Holds (H' ++ F) w') (dsO Ds) .returning w
  | [], w, hw => ⟨_, resultsR_run hfn ha (hr w hw), _, rfl, H', hv1 ▸ hK, hH.holds hw⟩
  | D :: Ds, w, hw => by
    have hw : Holds (.ob D dfr :: (obs Ds ++ R)) w := hw
    refine ⟨by simp, .inl ⟨D, _, rfl, run_takeDeferred hw.head, leavesMn hfn ha hr hv1 hK hH Ds _ ?_⟩⟩
    exact ⟨fun A hA => Assn.g (hw.tail.all A hA) (grownBy_putObj' _ _ _) fun k hk e => (List.pairwise_cons.1 hw.apart).1 A hA |>.ne rfl k hk (by cases e; rfl), hw.tail.apart⟩
theorem RvMn {fn : Func} {K : Value → List Assn → Prop} {vs : List Value} {xs : List ResultVar} (Ds : List Nat) {v : Value} (H' : List Assn) (hp : SubH (obs Ds ++ R) H) (hr : ResH P R l xs vs) (hK : K v H')
    (hH : SubH (H' ++ F) R := by (try simp only [List.nil_append, List.cons_append]); repeat (first | exact SubH.refl | exact SubH.nil | refine SubH.cons (by repeat (first | exact Pick.head | apply Pick.tail)) ?_ | refine SubH.skip ?_))
    (hfn : fn.results = xs.toArray := by rfl) (hv1 : v = oneOrTuple vs := by rfl) : PostH m (dsO Ds) .ret (PostM P fn K F) l H := fun w hw a ha => by
  show LeavesInM _ _ _ _ _ _ a.defers _ _
  rw [ha.defers]
  exact leavesMn hfn ha hr hv1 hK hH Ds w (hp.holds hw)
end
end Go.Lag

/- Chains of moves: plain. -/
namespace Go.Lag
open Go Go.RowKit Go.Proofs

/-! ### A set that a map holds -/
def HereOk (mm : List (Int × Bool)) (S : List Int) : Prop := ∀ p, aget mm p = if p ∈ S then some true else none
theorem HereOk.nil : HereOk [] [] := fun p => by simp [aget_nil]
theorem HereOk.put {mm : List (Int × Bool)} {S : List Int} (h : HereOk mm S) (q : Int) : HereOk (aset mm q true) (S ++ [q]) := fun p => by
  rw [aget_aset, h p]
  by_cases e : q = p
  · subst e; simp
  · simp [e, Ne.symm e]
theorem HereOk.ext {mm : List (Int × Bool)} {S S' : List Int} (h : HereOk mm S) (e : ∀ p, p ∈ S ↔ p ∈ S') : HereOk mm S' := fun p => by
  rw [h p]; by_cases hp : p ∈ S
  · rw [if_pos hp, if_pos ((e p).1 hp)]
  · rw [if_neg hp, if_neg fun q => hp ((e p).2 q)]
theorem HereOk.vis {mm : List (Int × Bool)} {S : List Int} (h : HereOk mm S) (q : Int) : (aget mm q).getD false = decide (q ∈ S) := by
  rw [h q]; by_cases hq : q ∈ S <;> simp [hq]
theorem HereOk.mem {mm : List (Int × Bool)} {S : List Int} (h : HereOk mm S) (hn : (mm.map (·.1)).Nodup) {p : Int × Bool} (hp : p ∈ mm) : p.1 ∈ S := by
  have h1 := aget_of_mem hn hp
  rw [h p.1] at h1
  by_cases hq : p.1 ∈ S
  · exact hq
  · rw [if_neg hq] at h1; cases h1
theorem HereOk.key {mm : List (Int × Bool)} {S : List Int} (h : HereOk mm S) {q : Int} (hq : q ∈ S) : q ∈ mm.map (·.1) := by
  have h1 := h q
  rw [if_pos hq] at h1
  exact List.mem_map.2 ⟨_, mem_of_aget h1, rfl⟩
theorem HereOk.one (q : Int) : HereOk [(q, true)] [q] := HereOk.nil.put q

/-! ### How far parcels lie -/
structure FSt where
  far : List (Int × Int)
  row : List Int
def fPush (p : Int) (s : FSt) (q : Int) : FSt := if (aget s.far q).isSome = true then s else ⟨aset s.far q (gN s.far p + 1), s.row ++ [q]⟩
def fRow (next : Int → List Int) (p : Int) (s : FSt) (n : Nat) : FSt := ((next p).take n).foldl (fPush p) s
def fBfs (next : Int → List Int) : Nat → FSt → FSt
  | 0, s => s
  | n + 1, s => match s.row with
    | [] => s
    | p :: row => fBfs next n ((next p).foldl (fPush p) ⟨s.far, row⟩)
def fStart (p : Int) : FSt := ⟨[(p, 0)], [p]⟩
def inF (far : List (Int × Int)) (q : Int) : Bool := (aget far q).isSome
def cntF (U : List Int) (far : List (Int × Int)) : Nat := (U.filter fun q => !inF far q).length
theorem cntF_le {U : List Int} {f f' : List (Int × Int)} (h : ∀ q, inF f q = true → inF f' q = true) : cntF U f' ≤ cntF U f := by
  unfold cntF
  induction U with
  | nil => simp
  | cons u U ih =>
    simp only [List.filter_cons]
    cases h1 : inF f u with
    | true => simp [h u h1, ih]
    | false =>
      cases h2 : inF f' u with
      | true => simp; omega
      | false => simp; omega
theorem inF_aset {f : List (Int × Int)} {p d q : Int} : inF (aset f p d) q = (decide (p = q) || inF f q) := by
  unfold inF; rw [aget_aset]; by_cases h : p = q <;> simp [h]
theorem aset_some {f : List (Int × Int)} {p d : Int} : ∀ q, (aget f q).isSome = true → (aget (aset f p d) q).isSome = true := fun q h => by
  rw [aget_aset]; split
  · rfl
  · exact h
theorem cntF_aset {U : List Int} {f : List (Int × Int)} {p d : Int} (hp : p ∈ U) (hv : inF f p = false) : cntF U (aset f p d) < cntF U f := by
  have hle : ∀ U : List Int, cntF U (aset f p d) ≤ cntF U f := fun U => cntF_le fun q hq => aset_some q hq
  obtain ⟨a, b, rfl⟩ := List.append_of_mem hp
  have h1 := hle a
  have h2 := hle b
  have e1 : cntF (a ++ p :: b) (aset f p d) = cntF a (aset f p d) + cntF b (aset f p d) := by simp [cntF, List.filter_append, inF_aset]
  have e2 : cntF (a ++ p :: b) f = cntF a f + (cntF b f + 1) := by simp [cntF, List.filter_append, hv]
  omega
def todoF (U : List Int) (s : FSt) : Nat := s.row.length + cntF U s.far
theorem fPush_todo {U : List Int} {p q : Int} {s : FSt} (hq : q ∈ U) : todoF U (fPush p s q) ≤ todoF U s := by
  unfold fPush; split
  · exact Nat.le_refl _
  · rename_i h
    have := cntF_aset (d := gN s.far p + 1) hq (Bool.eq_false_iff.2 h)
    simp only [todoF, List.length_append, List.length_cons, List.length_nil]; omega
theorem fRow_todo {U : List Int} {p : Int} : ∀ (qs : List Int) (s : FSt), (∀ q ∈ qs, q ∈ U) → todoF U (qs.foldl (fPush p) s) ≤ todoF U s
  | [], s, _ => Nat.le_refl _
  | q :: qs, s, h => Nat.le_trans (fRow_todo qs _ fun z hz => h z (List.mem_cons_of_mem _ hz)) (fPush_todo (h q (List.mem_cons_self ..)))
section
variable {next : Int → List Int} {U : List Int} {n : Nat} {s : FSt} {p : Int}
theorem fBfs_next (hn : todoF U s < n) (hx : s.row[0]? = some p) (hU : ∀ q ∈ next p, q ∈ U) : fBfs next n s = fBfs next (n - 1) ((next p).foldl (fPush p) ⟨s.far, s.row.drop 1⟩) ∧ todoF U ((next p).foldl (fPush p) ⟨s.far, s.row.drop 1⟩) < n - 1 := by
  obtain ⟨n, rfl⟩ : ∃ k, n = k + 1 := ⟨n - 1, by omega⟩
  obtain ⟨f, row⟩ := s
  cases row with
  | nil => simp at hx
  | cons u row =>
    simp at hx; subst hx
    refine ⟨rfl, Nat.lt_of_le_of_lt (fRow_todo _ _ hU) ?_⟩
    simp only [todoF, List.length_cons, List.drop_succ_cons, List.drop_zero] at hn ⊢
    omega
theorem fBfs_end (h : ¬ (0 : Int) < (s.row.length : Int)) : fBfs next n s = s := by
  obtain ⟨f, row⟩ := s
  have : row = [] := List.eq_nil_of_length_eq_zero (by simp at h ⊢; simpa using h)
  subst this
  cases n <;> rfl
theorem fStart_todo (U : List Int) (p : Int) : todoF U (fStart p) < U.length + 2 := by
  have : cntF U (fStart p).far ≤ U.length := List.length_filter_le _ _
  have h2 : (fStart p).row.length = 1 := rfl
  simp only [todoF]; omega
end
/-- What the search keeps true. -/
structure FInv (next : Int → List Int) (U : List Int) (p0 : Int) (s : FSt) : Prop where
  zero : aget s.far p0 = some 0
  from_ : ∀ q d, aget s.far q = some d → (q = p0 ∧ d = 0) ∨ (1 ≤ d ∧ ∃ p, aget s.far p = some (d - 1) ∧ q ∈ next p)
  row : ∀ q ∈ s.row, (aget s.far q).isSome = true
  lt : ∀ q d, aget s.far q = some d → 0 ≤ d ∧ d < (s.far.length : Int)
  inU : ∀ q, (aget s.far q).isSome = true → q ∈ U
  le : s.far.length + cntF U s.far ≤ U.length + 1
theorem aset_newN {m : List (Int × Int)} {k a : Int} (h : (aget m k).isSome = false) : (aset m k a).length = m.length + 1 := aset_new (by cases hq : aget m k <;> simp [hq] at h ⊢)
theorem fStart_inv {next : Int → List Int} {U : List Int} {p0 : Int} (h : p0 ∈ U) : FInv next U p0 (fStart p0) := by
  have e : ∀ q d, aget (fStart p0).far q = some d → q = p0 ∧ d = 0 := by
    intro q d hq
    simp only [fStart, aget_cons, aget_nil] at hq
    split at hq
    · rename_i e; injection hq with hq; exact ⟨e.symm, hq.symm⟩
    · cases hq
  have hz : aget (fStart p0).far p0 = some 0 := by simp [fStart, aget_cons]
  refine ⟨hz, fun q d hq => .inl (e q d hq), fun q hq => ?_, fun q d hq => ?_, fun q hq => ?_, ?_⟩
  · simp [fStart] at hq; subst hq; rw [hz]; rfl
  · obtain ⟨_, rfl⟩ := e q d hq; simp [fStart]
  · obtain ⟨d, hd⟩ := Option.isSome_iff_exists.1 hq; rw [(e q d hd).1]; exact h
  · have : cntF U (fStart p0).far ≤ U.length := List.length_filter_le _ _
    have h2 : (fStart p0).far.length = 1 := rfl
    omega
theorem fPush_inv {next : Int → List Int} {U : List Int} {p0 p q : Int} {s : FSt} (h : FInv next U p0 s) (hp : (aget s.far p).isSome = true) (hq : q ∈ next p) (hqU : q ∈ U) : FInv next U p0 (fPush p s q) ∧ (aget (fPush p s q).far p).isSome = true := by
  unfold fPush; split
  · exact ⟨h, hp⟩
  · rename_i hn
    have hn : (aget s.far q).isSome = false := Bool.eq_false_iff.2 hn
    obtain ⟨d, hd⟩ := Option.isSome_iff_exists.1 hp
    have hg : gN s.far p = d := by simp [gN, hd]
    have hl := aset_newN (a := gN s.far p + 1) hn
    have hb := h.lt p d hd
    have hne : ∀ z c, aget s.far z = some c → ¬ q = z := fun z c hz e => by subst e; rw [hz] at hn; cases hn
    have old : ∀ z c, aget s.far z = some c → aget (aset s.far q (gN s.far p + 1)) z = some c := fun z c hz => by rw [aget_aset, if_neg (hne z c hz)]; exact hz
    refine ⟨⟨old _ _ h.zero, fun z c hz => ?_, fun z hz => ?_, fun z c hz => ?_, fun z hz => ?_, ?_⟩, by show (aget (aset s.far q _) p).isSome = true; rw [old p d hd]; rfl⟩
    · simp only [aget_aset] at hz
      split at hz
      · rename_i e; subst e; injection hz with hz
        refine .inr ⟨by omega, p, ?_, hq⟩
        rw [old p d hd]; congr 1; omega
      · rcases h.from_ z c hz with q1 | ⟨q1, r, q2, q3⟩
        · exact .inl q1
        · exact .inr ⟨q1, r, old _ _ q2, q3⟩
    · rcases List.mem_append.1 hz with h1 | h1
      · exact aset_some _ (h.row z h1)
      · simp at h1; subst h1; simp [aget_aset]
    · simp only [aget_aset] at hz
      split at hz
      · injection hz with hz; simp only [hl]; omega
      · have := h.lt z c hz; simp only [hl]; omega
    · simp only [aget_aset] at hz
      split at hz
      · rename_i e; subst e; exact hqU
      · exact h.inU z hz
    · have h1 := cntF_aset (d := gN s.far p + 1) hqU hn
      have h2 := h.le
      simp only [hl]; omega
theorem fRow_inv {next : Int → List Int} {U : List Int} {p0 p : Int} (hU : ∀ q ∈ next p, q ∈ U) : ∀ (qs : List Int) (s : FSt), (∀ q ∈ qs, q ∈ next p) → FInv next U p0 s → (aget s.far p).isSome = true → FInv next U p0 (qs.foldl (fPush p) s) ∧ (aget (qs.foldl (fPush p) s).far p).isSome = true
  | [], s, _, h, hp => ⟨h, hp⟩
  | q :: qs, s, hq, h, hp => by
    obtain ⟨h1, h2⟩ := fPush_inv h hp (hq q (List.mem_cons_self ..)) (hU q (hq q (List.mem_cons_self ..)))
    exact fRow_inv hU qs _ (fun z hz => hq z (List.mem_cons_of_mem _ hz)) h1 h2
theorem fPop_inv {next : Int → List Int} {U : List Int} {p0 : Int} {s : FSt} (h : FInv next U p0 s) (k : Nat) : FInv next U p0 ⟨s.far, s.row.drop k⟩ :=
  ⟨h.zero, h.from_, fun q hq => h.row q (List.mem_of_mem_drop hq), h.lt, h.inU, h.le⟩
theorem fBfs_inv {next : Int → List Int} {U : List Int} {p0 : Int} (hU : ∀ p ∈ U, ∀ q ∈ next p, q ∈ U) : ∀ (n : Nat) (s : FSt), FInv next U p0 s → FInv next U p0 (fBfs next n s)
  | 0, s, h => h
  | n + 1, s, h => by
    obtain ⟨f, row⟩ := s
    cases row with
    | nil => exact h
    | cons p row =>
      have hp : (aget f p).isSome = true := h.row p (List.mem_cons_self ..)
      have h1 := fPop_inv h 1
      exact fBfs_inv hU n _ (fRow_inv (hU p (h.inU p hp)) (next p) _ (fun _ h => h) h1 hp).1
def farL (C : List Rep) (p : Int) : List (Int × Int) := (fBfs (backL C) ((makerM C).length + 2) (fStart p)).far

/-! ### The chain itself -/
def uidN (C : List Rep) (p : Int) : Int := ((aget (userM C) p).getD Rep.zero).id
def best1 (b m : Int) : Int := if b = 0 ∨ m < b then m else b
def bestL (C : List Rep) (S : List Int) : Int := S.foldl (fun b p => best1 b (uidN C p)) 0
def stepP (C : List Rep) (far : List (Int × Int)) (best p : Int) : List Int := if uidN C p = best then (onL C p).filter fun q => decide (aget far q = some (gN far p - 1)) else []
def stepL (C : List Rep) (far : List (Int × Int)) (S : List Int) (best : Int) : List Int := S.flatMap (stepP C far best)
def chainN (C : List Rep) (far : List (Int × Int)) : Nat → List Int → List Int
  | 0, _ => []
  | n + 1, S => if S.any (fun p => decide (gN far p = 0)) = true then [] else bestL C S :: chainN C far n (stepL C far S (bestL C S))
/-- b is the least mark among vis; 0 if there is none. -/
def BestOk (C : List Rep) (S : List Int) (b : Int) : Prop := (S = [] ∧ b = 0) ∨ (∃ p ∈ S, uidN C p = b) ∧ ∀ p ∈ S, b ≤ uidN C p
theorem BestOk.nil (C : List Rep) : BestOk C [] 0 := .inl ⟨rfl, rfl⟩
theorem BestOk.put {C : List Rep} {S : List Int} {b p : Int} (h : BestOk C S b) (hp : 1 ≤ uidN C p) (hS : ∀ q ∈ S, 1 ≤ uidN C q) : BestOk C (S ++ [p]) (best1 b (uidN C p)) := by
  unfold best1
  rcases h with ⟨rfl, rfl⟩ | ⟨⟨q, hq, e⟩, h⟩
  · rw [if_pos (.inl rfl)]; exact .inr ⟨⟨p, by simp, rfl⟩, fun z hz => by simp at hz; subst hz; exact Int.le_refl _⟩
  · have hb := hS q hq
    by_cases hlt : uidN C p < b
    · rw [if_pos (.inr hlt)]
      refine .inr ⟨⟨p, by simp, rfl⟩, fun z hz => ?_⟩
      rcases List.mem_append.1 hz with h1 | h1
      · have := h z h1; omega
      · simp at h1; subst h1; exact Int.le_refl _
    · rw [if_neg (by omega)]
      refine .inr ⟨⟨q, List.mem_append_left _ hq, e⟩, fun z hz => ?_⟩
      rcases List.mem_append.1 hz with h1 | h1
      · exact h z h1
      · simp at h1; subst h1; omega
theorem bestL_ok {C : List Rep} : ∀ (n : Nat) (S : List Int), n ≤ S.length → (∀ p ∈ S, 1 ≤ uidN C p) → BestOk C (S.take n) ((S.take n).foldl (fun b p => best1 b (uidN C p)) 0)
  | 0, S, _, _ => BestOk.nil C
  | n + 1, S, hn, h => by
    have hx : S[n]? = some S[n] := by simp
    rw [take_get hx, List.foldl_append]
    exact (bestL_ok n S (by omega) h).put (h _ (List.getElem_mem _)) fun q hq => h q (List.mem_of_mem_take hq)
theorem BestOk.eq {C : List Rep} {S S' : List Int} {b b' : Int} (h : BestOk C S b) (h' : BestOk C S' b') (e : ∀ p, p ∈ S ↔ p ∈ S') : b = b' := by
  rcases h with ⟨rfl, rfl⟩ | ⟨⟨p, hp, h1⟩, h2⟩
  · rcases h' with ⟨rfl, rfl⟩ | ⟨⟨q, hq, _⟩, _⟩
    · rfl
    · exact absurd ((e q).2 hq) (by simp)
  · rcases h' with ⟨rfl, rfl⟩ | ⟨⟨q, hq, h3⟩, h4⟩
    · exact absurd ((e p).1 hp) (by simp)
    · have := h2 q ((e q).2 hq); have := h4 p ((e p).1 hp); omega
theorem bestL_eq {C : List Rep} {S S' : List Int} {b : Int} (h : BestOk C S' b) (e : ∀ p, p ∈ S' ↔ p ∈ S) (hS : ∀ p ∈ S, 1 ≤ uidN C p) : b = bestL C S := by
  have := bestL_ok S.length S (Nat.le_refl _) hS
  rw [List.take_length] at this
  exact h.eq this e
/-- All of S lie d moves away. -/
structure FarOk (C : List Rep) (far : List (Int × Int)) (p0 : Int) (S : List Int) (d : Int) : Prop where
  ne : S ≠ []
  at_ : ∀ p ∈ S, aget far p = some d
theorem far_used {C : List Rep} {far : List (Int × Int)} {p0 p d : Int} {row : List Int} (hI : Inv C) (hF : FInv (backL C) (madeL C) p0 ⟨far, row⟩) (hp : aget far p = some d) (hd : ¬ d = 0) :
    ∃ q, aget far q = some (d - 1) ∧ q ∈ onL C p ∧ 1 ≤ uidN C p ∧ (aget (userM C) p).isSome = true := by
  rcases hF.from_ p d hp with ⟨_, h⟩ | ⟨h1, q, h2, h3⟩
  · exact absurd h hd
  · have hq : q ∈ madeL C := hF.inU q (by rw [h2]; rfl)
    obtain ⟨x, hx⟩ := Option.isSome_iff_exists.1 (made_mem.1 hq)
    simp only [backL, hx, Option.getD_some] at h3
    split at h3
    · cases h3
    · obtain ⟨m1, m2⟩ := hI.maker.1 hx
      have hu : aget (userM C) p = some x := hI.user.2 ⟨m1, h3⟩
      refine ⟨q, h2, ?_, ?_, ?_⟩
      · simp only [onL, hu, Option.isSome_some, if_true, Option.getD_some]; exact m2
      · have := rep_id (hI.rep x m1)
        simp only [uidN, hu, Option.getD_some]; omega
      · rw [hu]; rfl
theorem mem_stepL {C : List Rep} {far : List (Int × Int)} {S : List Int} {best q : Int} : q ∈ stepL C far S best ↔ ∃ p ∈ S, uidN C p = best ∧ q ∈ onL C p ∧ aget far q = some (gN far p - 1) := by
  simp only [stepL, List.mem_flatMap, stepP]
  constructor
  · rintro ⟨p, hp, h⟩
    split at h
    · rename_i e; rw [List.mem_filter] at h; exact ⟨p, hp, e, h.1, by simpa using h.2⟩
    · cases h
  · rintro ⟨p, hp, e, h1, h2⟩
    exact ⟨p, hp, by rw [if_pos e]; exact List.mem_filter.2 ⟨h1, by simpa using h2⟩⟩
theorem far_step {C : List Rep} {far : List (Int × Int)} {p0 d : Int} {row : List Int} {S : List Int} (hI : Inv C) (hF : FInv (backL C) (madeL C) p0 ⟨far, row⟩) (h : FarOk C far p0 S d) (hd : ¬ d = 0) : FarOk C far p0 (stepL C far S (bestL C S)) (d - 1) := by
  have hu : ∀ p ∈ S, 1 ≤ uidN C p := fun p hp => let ⟨_, _, _, h1, _⟩ := far_used hI hF (h.at_ p hp) hd; h1
  have hb := bestL_ok S.length S (Nat.le_refl _) hu
  rw [List.take_length] at hb
  rcases hb with ⟨e, _⟩ | ⟨⟨p, hp, e⟩, _⟩
  · exact absurd e h.ne
  · obtain ⟨q, h1, h2, _⟩ := far_used hI hF (h.at_ p hp) hd
    have hg : ∀ z ∈ S, gN far z = d := fun z hz => by simp [gN, h.at_ z hz]
    refine ⟨List.ne_nil_of_mem (mem_stepL.2 ⟨p, hp, e, h2, by rw [hg p hp]; exact h1⟩), fun z hz => ?_⟩
    obtain ⟨y, hy, _, _, h3⟩ := mem_stepL.1 hz
    rw [h3, hg y hy]
theorem chain_stop {C : List Rep} {far : List (Int × Int)} {n : Nat} {S : List Int} {p : Int} (hp : p ∈ S) (h : gN far p = 0) : chainN C far n S = [] := by
  cases n with
  | zero => rfl
  | succ n => rw [chainN, if_pos (List.any_eq_true.2 ⟨p, hp, by simpa using h⟩)]
theorem chain_go {C : List Rep} {far : List (Int × Int)} {p0 d : Int} {n : Nat} {S : List Int} (h : FarOk C far p0 S d) (hd : ¬ d = 0) (hn : d.toNat < n) : chainN C far n S = bestL C S :: chainN C far (n - 1) (stepL C far S (bestL C S)) := by
  obtain ⟨n, rfl⟩ : ∃ k, n = k + 1 := ⟨n - 1, by omega⟩
  rw [chainN, if_neg, Nat.add_sub_cancel]
  intro ha
  obtain ⟨p, hp, h1⟩ := List.any_eq_true.1 ha
  have := h.at_ p hp
  simp [gN, this] at h1
  exact hd h1
/-- What Chain answers. -/
def chainE (l : List Rep) (known f p : Int) : List Int × Int :=
  if ¬ lookE l known [f, p] = 0 then ([], lookE l known [f, p])
  else if (aget (farL (countL l known) p) f).isSome = true then (chainN (countL l known) (farL (countL l known) p) ((gN (farL (countL l known) p) f).toNat + 1) [f], 0)
  else ([], 5)

/-! ### Checking a chain -/
def ckP (C : List Rep) (id_ p : Int) : List Int := if ((aget (userM C) p).isSome && decide (uidN C p = id_)) = true then onL C p else []
def ckStep (C : List Rep) (S : List Int) (id_ : Int) : List Int := S.flatMap (ckP C id_)
def ckL (C : List Rep) (f : Int) (chain : List Int) : List Int := chain.foldl (ckStep C) [f]
def ckE (l : List Rep) (known f p : Int) (chain : List Int) : Bool := if lookE l known [f, p] = 0 then decide (p ∈ ckL (countL l known) f chain) else false
theorem mem_ckStep {C : List Rep} {S : List Int} {id_ q : Int} : q ∈ ckStep C S id_ ↔ ∃ p ∈ S, ((aget (userM C) p).isSome = true ∧ uidN C p = id_) ∧ q ∈ onL C p := by
  simp only [ckStep, List.mem_flatMap, ckP]
  constructor
  · rintro ⟨p, hp, h⟩
    split at h
    · rename_i e; simp only [Bool.and_eq_true, decide_eq_true_eq] at e; exact ⟨p, hp, e, h⟩
    · cases h
  · rintro ⟨p, hp, ⟨e1, e2⟩, h1⟩
    exact ⟨p, hp, by simp [e1, e2, h1]⟩
/-! ### For the walks -/
theorem best1_t {b m : Int} (h : (decide (b = 0) || decide (m < b)) = true) : best1 b m = m := by
  simp only [Bool.or_eq_true, decide_eq_true_eq] at h; exact if_pos h
theorem best1_f {b m : Int} (h : (decide (b = 0) || decide (m < b)) = false) : best1 b m = b := by
  simp only [Bool.or_eq_false_iff, decide_eq_false_iff_not] at h; exact if_neg fun q => q.elim h.1 h.2
theorem fPush_t {p q : Int} {s : FSt} (h : (aget s.far q).isSome = true) : fPush p s q = s := if_pos h
theorem fPush_f {p q : Int} {s : FSt} (h : (aget s.far q).isSome = false) : fPush p s q = ⟨aset s.far q (gN s.far p + 1), s.row ++ [q]⟩ := if_neg (by rw [h]; decide)
theorem FInv.bnd {next : Int → List Int} {U : List Int} {p0 : Int} {s : FSt} (h : FInv next U p0 s) (q : Int) : 0 ≤ (aget s.far q).getD 0 ∧ (aget s.far q).getD 0 ≤ (U.length : Int) + 1 := by
  have hl := h.le
  cases hq : aget s.far q with
  | none => simp; omega
  | some d => have := h.lt q d hq; simp only [Option.getD_some]; omega
theorem far_t {m : List (Int × Int)} {p q : Int} : ((aget m q).isSome && decide ((aget m q).getD 0 = (aget m p).getD 0 - 1)) = decide (aget m q = some (gN m p - 1)) := by
  cases hq : aget m q with
  | none => simp
  | some d => simp [gN]
theorem stepL_snoc (C : List Rep) (far : List (Int × Int)) (S : List Int) (p best : Int) : stepL C far (S ++ [p]) best = stepL C far S best ++ stepP C far best p := by simp [stepL]
theorem stepP_no {C : List Rep} {far : List (Int × Int)} {p best : Int} (h : ¬ uidN C p = best) : stepP C far best p = [] := if_neg h
theorem stepP_yes {C : List Rep} {far : List (Int × Int)} {p best : Int} (h : uidN C p = best) : stepP C far best p = (onL C p).filter fun q => decide (aget far q = some (gN far p - 1)) := if_pos h
theorem ckStep_snoc (C : List Rep) (S : List Int) (p id_ : Int) : ckStep C (S ++ [p]) id_ = ckStep C S id_ ++ ckP C id_ p := by simp [ckStep]
theorem HereOk.perm {mm vis : List (Int × Bool)} {S : List Int} (h : HereOk mm S) (hn : (mm.map (·.1)).Nodup) (hp : vis.Perm mm) (p : Int) : p ∈ vis.map (·.1) ↔ p ∈ S := by
  have e : p ∈ vis.map (·.1) ↔ p ∈ mm.map (·.1) := (hp.map _).mem_iff
  rw [e]
  constructor
  · intro hm; obtain ⟨q, hq, rfl⟩ := List.mem_map.1 hm; exact h.mem hn hq
  · exact h.key
theorem stepL_ext {C : List Rep} {far : List (Int × Int)} {S S' : List Int} (e : ∀ p, p ∈ S ↔ p ∈ S') (best q : Int) : q ∈ stepL C far S best ↔ q ∈ stepL C far S' best := by
  rw [mem_stepL, mem_stepL]
  exact ⟨fun ⟨p, hp, h⟩ => ⟨p, (e p).1 hp, h⟩, fun ⟨p, hp, h⟩ => ⟨p, (e p).2 hp, h⟩⟩
theorem ckStep_ext {C : List Rep} {S S' : List Int} (e : ∀ p, p ∈ S ↔ p ∈ S') (id_ q : Int) : q ∈ ckStep C S id_ ↔ q ∈ ckStep C S' id_ := by
  rw [mem_ckStep, mem_ckStep]
  exact ⟨fun ⟨p, hp, h⟩ => ⟨p, (e p).1 hp, h⟩, fun ⟨p, hp, h⟩ => ⟨p, (e p).2 hp, h⟩⟩
theorem perm_ne {mm vis : List (Int × Bool)} {S : List Int} (h : HereOk mm S) (hp : vis.Perm mm) (hS : S ≠ []) : vis ≠ [] := by
  intro e; subst e
  have := hp.length_eq
  have hm : mm = [] := List.eq_nil_of_length_eq_zero (by simpa using this.symm)
  subst hm
  obtain ⟨s, S', rfl⟩ := List.exists_cons_of_ne_nil hS
  have := h.key (q := s) (List.mem_cons_self ..)
  simp at this
section
variable {r : Option Nat} {P : Program} {m : Nat} {ds : List Deferred} {Q : Exit → Act → World → Prop} {l : Env} {H R : List Assn} {α : Type} {E : Value → α → Prop} {b c : Nat} {mm vis : List (Int × α)} {rest : List Oper} {ops : Array Oper}
theorem MiR (h : RegH r P m ds ops Q rest l (.mp E b mm :: R)) (hp : Pick (.mi E b c mm vis) H R := by repeat (first | exact Pick.head | apply Pick.tail)) : RegH r P m ds ops Q rest l H := fun w hw => by
  have hw1 := hw.pick hp
  obtain ⟨o, it, h1, h2, h3, h4⟩ := hw1.head
  exact h w (hw1.swap (B' := .mp E b mm) ⟨o, h1, h2⟩ (fun k hk => .inl hk) rfl)
/-- A map's keys stand once. -/
theorem NdW {c : Code} (b : Nat) (h : (mm.map (·.1)).Nodup → WH r P m ds c Q l H) (hp : Assn.mp E b mm ∈ H := by repeat (first | exact List.Mem.head _ | refine List.Mem.tail _ ?_)) : WH r P m ds c Q l H := fun w hw => by
  obtain ⟨o, h1, h2⟩ := hw.all _ hp
  exact h h2.nodup w hw
theorem NdR (b : Nat) (h : (mm.map (·.1)).Nodup → RegH r P m ds ops Q rest l H) (hp : Assn.mp E b mm ∈ H := by repeat (first | exact List.Mem.head _ | refine List.Mem.tail _ ?_)) : RegH r P m ds ops Q rest l H := fun w hw => by
  obtain ⟨o, h1, h2⟩ := hw.all _ hp
  exact h h2.nodup w hw
/-- A scope that no jump leaves. -/
theorem Sco {c : Code} (h : WH none P m ds c (Exit.noGoto Q) l H) : WH none P m ds (.scope c) Q l H := fun w hw a ha => wpIn_wide.2 (wp_scope_straight (wpIn_wide.1 (h w hw a ha)))
theorem ScN (h : PostH m ds .normal Q l H) : PostH m ds .normal (Exit.noGoto Q) l H := h
theorem ScR (h : PostH m ds .ret Q l H) : PostH m ds .ret (Exit.noGoto Q) l H := h
theorem ScE {k : Nat} (h : PostH m ds (.exit k) Q l H) : PostH m ds (.exit k) (Exit.noGoto Q) l H := h
end
end Go.Lag

namespace Go.Lag
open Go Go.RowKit Go.Proofs
set_option maxRecDepth 100000 in
set_option maxHeartbeats 4000000 in
theorem conflict_sp {Z : Hp} {l : List Rep} {lv : Value} (hl : SlZ (EZ Z) Z lv l := by assumption) {known : Int} (hn : l.length ≤ 1000 := by assumption) (hg : (checkE l).2 = 0 → GoodL (countL l known) := by first | assumption | exact good_of) (hab : (checkE l).2 = 0 → ABnd (arcsL (countL l known)) := by first | assumption | exact ab_of) : Sp Tryz.prog 27 [lv, .int .i64 known] [.zm Z] fun v H' => (¬ lookE l known [] = 0 ∧ v = .tuple #[.agg #[.int .i64 0, .slice none 0 0], .bool false, .int .i64 (lookE l known [])] ∧ H' = []) ∨ (lookE l known [] = 0 ∧ ∃ a, (arcsL (countL l known)).find? (fun a => decide (a.high < a.low)) = some a ∧ v = .tuple #[.agg #[.int .i64 a.parcel, .slice none 0 0], .bool true, .int .i64 0] ∧ H' = []) ∨ (lookE l known [] = 0 ∧ (arcsL (countL l known)).find? (fun a => decide (a.high < a.low)) = none ∧ ∃ sv seen, balAll (arcsL (countL l known)) (nodesL (countL l known)) ((arcsL (countL l known)).map (·.low), mu0 (arcsL (countL l known))) = .inr seen ∧ v = .tuple #[.agg #[.int .i64 0, sv], .bool true, .int .i64 0] ∧ H' = [.rw (EI .i64) 3 sv (sideL (countL l known) seen)]) ∨ (lookE l known [] = 0 ∧ ∃ st, (arcsL (countL l known)).find? (fun a => decide (a.high < a.low)) = none ∧ balAll (arcsL (countL l known)) (nodesL (countL l known)) ((arcsL (countL l known)).map (·.low), mu0 (arcsL (countL l known))) = .inl st ∧ BOk (arcsL (countL l known)) st ∧ v = .tuple #[.agg #[.int .i64 0, .slice none 0 0], .bool false, .int .i64 0] ∧ H' = []) := by
 refine Sp.of 31 Tryz.func27 rfl rfl rfl ?_
 intro F
 refine Sr ?_
 refine Dal fun b4 => ?_
 refine Y As ?_
 refine Y As ?_
 refine Nq ?_
 refine Sr ?_
 refine Y Mv ?_
 refine Y Mv ?_
 have hpn : SlZ (EI .i64) Z (.slice none 0 0) [] := SlZ.nil _ _
 refine D (Cf (hs := looks_sp (hl := hl) (hps := hpn))) ?_
 rintro _ _ ⟨_, ⟨Z14, bv14, hZ14, rfl, rfl, hb14, hc14⟩, rfl⟩
 refine Y Mv ?_
 refine Y Xc ?_
 refine Y Xc ?_
 refine Y As ?_
 refine Y As ?_
 refine Nq ?_
 refine Sq ?_
 refine Sr ?_
 refine Y Mv ?_
 refine Y Ne_ ?_
 refine Nq ?_
 refine Cn (fun h2 => ?_) fun h2 => ?_
 ·
  refine Sr ?_
  refine Y Bd ?_
  refine Y Mv ?_
  refine Dsw ?_
  refine Y As ?_
  refine Y As ?_
  refine Nq ?_
  refine Rt ?_
  refine Rh ?_
  refine RvC (xs := [.cell 4 35, .tmp 5, .tmp 6]) [] (ResH.cell (ResH.tmp (ResH.tmp ResH.nil))) ?_
  exact .inl ⟨h2, rfl, rfl⟩
 ·
  refine Sk ?_
  refine Pq ?_
  refine Sr ?_
  have hE := h2
  obtain ⟨b, s, iv, pb, rfl, hB⟩ := hb14 hE
  obtain ⟨hc0, hin⟩ := look_mem hE
  have hr := checked_rep hc0
  have hsm : ∀ x ∈ countL l known, Small x := fun y hy => (report_small (hr y (count_mem hy))).1
  have hml := maker_len hsm
  have hcl := count_len l known
  have hid := ids_len (countL l known)
  have hln : (countL l known).length ≤ 1000 := by omega
  have hil : (idsL (countL l known)).length ≤ 1000000 := by omega
  have hAb := hab hc0
  have hAn : (arcsL (countL l known)).length ≤ 1000000 := by simpa [arcsL] using hil
  refine Y Mv ?_
  refine Y Mv ?_
  refine D (Cf (hs := graph_sp)) ?_
  rintro _ _ ⟨_, ⟨g, av, Za, rfl, hza, rfl⟩, rfl⟩
  refine D (Cf (hs := balance_sp (A := arcsL (countL l known)))) ?_
  rintro _ _ ⟨_, (⟨a, hfa, rfl, rfl⟩ | ⟨hfa, sv, seen, hba, rfl, rfl⟩ | ⟨hfa, st, fv, hba, rfl, hok, rfl⟩), rfl⟩
  ·
   refine Y Mv ?_
   refine Y Xc ?_
   refine Y Xc ?_
   refine Dal fun b9 => ?_
   refine Dsw ?_
   refine Y As ?_
   refine Nq ?_
   refine Sr ?_
   refine Y LdN ?_
   refine Y Mv ?_
   refine Y Nt ?_
   refine Dsw ?_
   refine Y As ?_
   refine Y As ?_
   refine Nq ?_
   refine Rt ?_
   refine RvC (xs := [.cell 4 35, .tmp 5, .tmp 6]) [] (ResH.cell (ResH.tmp (ResH.tmp ResH.nil))) ?_
   exact .inr (.inl ⟨hE, a, hfa, rfl, rfl⟩)
  ·
   refine Ks (fun isv => ?_)
   obtain ⟨A9, n9, c9, rfl⟩ := isv
   refine Y Mv ?_
   refine Y Xc ?_
   refine Y Xc ?_
   refine Dal fun b9 => ?_
   refine Dsw ?_
   refine Y As ?_
   refine Nq ?_
   refine Sr ?_
   refine Y LdN ?_
   refine Y Mv ?_
   refine Y Nt ?_
   refine Dsw ?_
   refine Y As ?_
   refine Y As ?_
   refine Nq ?_
   refine Rt ?_
   refine RvC (xs := [.cell 4 35, .tmp 5, .tmp 6]) [.rw (EI .i64) 3 (.slice A9 n9 c9) (sideL (countL l known) seen)] (ResH.cell (ResH.tmp (ResH.tmp ResH.nil))) ?_
   exact .inr (.inr (.inl ⟨hE, hfa, _, seen, hba, rfl, rfl⟩))
  ·
   refine Y Mv ?_
   refine Y Xc ?_
   refine Y Xc ?_
   refine Dal fun b9 => ?_
   refine Dsw ?_
   refine Y As ?_
   refine Nq ?_
   refine Sr ?_
   refine Y LdN ?_
   refine Y Mv ?_
   refine Y Nt ?_
   refine Dsw ?_
   refine Y As ?_
   refine Y As ?_
   refine Nq ?_
   refine Rt ?_
   refine RvC (xs := [.cell 4 35, .tmp 5, .tmp 6]) [] (ResH.cell (ResH.tmp (ResH.tmp ResH.nil))) ?_
   exact .inr (.inr (.inr ⟨hE, st, hfa, hba, hok, rfl, rfl⟩))

end Go.Lag

namespace Go.Lag
open Go Go.RowKit Go.Proofs
set_option maxRecDepth 100000 in
set_option maxHeartbeats 4000000 in
theorem finds1_sp {Z : Hp} {a : Par} : Sp Tryz.prog 132 [parV a] [.zm Z] fun v H' => v = .bool (a.found) ∧ [.zm Z] = H' := by
 refine Sp.of 5 Tryz.func132 rfl rfl rfl ?_
 intro F
 refine Sr ?_
 refine Dbx (fun b1 => ?_)
 refine Y As ?_
 refine Nq ?_
 refine Sr ?_
 refine Y Fa ?_
 refine Y Ld ?_
 refine Y As ?_
 refine Nq ?_
 refine Rt ?_
 refine Rv [.zm Z] ?_
 exact ⟨rfl, rfl⟩

set_option maxRecDepth 100000 in
set_option maxHeartbeats 4000000 in
theorem wanted1F_sp {Z : Hp} {b s pb : Nat} {l : List Rep} {iv : Value} (hB : BeaZ Z b l s iv pb := by assumption) {p : Int} {b1 b2 : Nat} : Sp Tryz.prog 209 [.int .i64 p, ptr b1 0, ptr b2 0] [.cl b1 [.func (.func 132) #[] #[]] 220, .cl b2 [ptr b 0] 111, .zm Z] fun v H' => v = .bool (!(fun a : Par => a.found) (parL l p)) ∧ [.cl b1 [.func (.func 132) #[] #[]] 220, .cl b2 [ptr b 0] 111, .zm Z] = H' := by
 refine Sp.of 14 Tryz.func209 rfl rfl rfl ?_
 intro F
 have hba := hB.at_
 have hbp := hB.ps
 refine Sr ?_
 refine Y As ?_
 refine Nq ?_
 refine Drq (fun i => false) _ SubH.refl ?_
 refine Tk 0 [] rfl Ld ?_
 refine Tk 1 [] rfl Ld ?_
 refine Tk 2 [] rfl Nc ?_
 refine Tk 3 [] rfl Fa ?_
 refine Tk 4 [] rfl Ld ?_
 refine Tk 5 [] rfl Mv ?_
 refine Tk 6 [] rfl LkP ?_
 refine Gx 7 rfl (Cc (hs := finds1_sp)) ?_
 rintro _ _ ⟨_, ⟨rfl, rfl⟩, rfl⟩
 refine ⟨fun _ => (by repeat (first | exact SubH.refl | exact SubH.nil | refine SubH.cons (by repeat (first | exact Pick.head | apply Pick.tail)) ?_ | refine SubH.skip ?_)), ?_⟩
 refine Tk 8 [] rfl Nt ?_
 refine Tk 9 [] rfl As ?_
 refine Anq ?_
 refine Rt ?_
 refine Rv [.cl b1 [.func (.func 132) #[] #[]] 220, .cl b2 [ptr b 0] 111, .zm Z] ?_
 exact ⟨rfl, rfl⟩

set_option maxRecDepth 100000 in
set_option maxHeartbeats 4000000 in
theorem wantedF_sp {Z : Hp} {b s pb : Nat} {l : List Rep} {iv : Value} (hB : BeaZ Z b l s iv pb := by assumption) (hil : (idsL l).length ≤ 1000000 := by assumption) : Sp Tryz.prog 119 [ptr b 0, .func (.func 132) #[] #[]] [.zm Z] fun v H' => .rw (EI .i64) 3 v ((idsL l).filter fun p => !!(fun a : Par => a.found) (parL l p)) :: [] = H' := by
 refine Sp.of 12 Tryz.func119 rfl rfl rfl ?_
 intro F
 have hba := hB.at_
 have hbi := hB.ids
 refine Sr ?_
 refine Dbx (fun b2 => ?_)
 refine Dbx (fun b3 => ?_)
 refine Y As ?_
 refine Nq ?_
 refine Sr ?_
 refine Y Ld ?_
 refine Y Nc ?_
 refine Y Fa ?_
 refine Y Ld ?_
 refine D (Cf (hs := cloneI_sp (xs := idsL l) (hn := hil))) ?_
 rintro v9 _ ⟨_, rfl, rfl⟩
 refine Y Mf ?_
 refine D (Cf (hs := deleteI_sp (xs := idsL l) (ff := []) (fc := [ptr b3 0, ptr b2 0]) (preF := [.cl b3 [.func (.func 132) #[] #[]] 220, .cl b2 [ptr b 0] 111, .zm Z]) (p := fun p => !(fun a : Par => a.found) (parL l p)) (fun a _ => wanted1F_sp) (by omega))) ?_
 rintro v11 _ ⟨_, rfl, rfl⟩
 refine Y As ?_
 refine Nq ?_
 refine Rt ?_
 refine Rv (.rw (EI .i64) 3 v11 ((idsL l).filter fun p => !!(fun a : Par => a.found) (parL l p)) :: []) ?_
 rfl

set_option maxRecDepth 100000 in
set_option maxHeartbeats 4000000 in
theorem finds_sp {Z : Hp} {l : List Rep} {lv : Value} (hl : SlZ (EZ Z) Z lv l := by assumption) {known : Int} (hn : l.length ≤ 1000 := by assumption) (hg : (checkE l).2 = 0 → GoodL (countL l known) := by first | assumption | exact good_of) : Sp Tryz.prog 66 [lv, .int .i64 known] [.zm Z] fun v H' => ∃ sv, v = .tuple #[sv, .int .i64 (lookE l known [])] ∧ H' = [.rw (EI .i64) 3 sv (if lookE l known [] = 0 then (idsL (countL l known)).filter (fun p => !!(parL (countL l known) p).found) else [])] := by
 refine Sp.of 19 Tryz.func66 rfl rfl rfl ?_
 intro F
 refine Sr ?_
 refine Y As ?_
 refine Y As ?_
 refine Nq ?_
 refine Sr ?_
 refine Y Mv ?_
 refine Y Mv ?_
 have hpn : SlZ (EI .i64) Z (.slice none 0 0) [] := SlZ.nil _ _
 refine D (Cf (hs := looks_sp (hl := hl) (hps := hpn))) ?_
 rintro _ _ ⟨_, ⟨Z11, bv11, hZ11, rfl, rfl, hb11, hc11⟩, rfl⟩
 refine Y Mv ?_
 refine Y Xc ?_
 refine Y Xc ?_
 refine Y As ?_
 refine Y As ?_
 refine Nq ?_
 refine Sq ?_
 refine Sr ?_
 refine Y Mv ?_
 refine Y Ne_ ?_
 refine Nq ?_
 refine Cn (fun h2 => ?_) fun h2 => ?_
 ·
  refine Sr ?_
  refine Y Mv ?_
  refine Y As ?_
  refine Y As ?_
  refine Nq ?_
  refine Rt ?_
  refine Rh ?_
  refine NilRwP (EI .i64) 3 ?_
  refine Rv2 [.rw (EI .i64) 3 (.slice none 0 0) []] ?_
  exact ⟨_, rfl, by rw [if_neg h2]⟩
 ·
  refine Sk ?_
  refine Pq ?_
  refine Sr ?_
  have hE := h2
  obtain ⟨b, s, iv, pb, rfl, hB⟩ := hb11 hE
  obtain ⟨hc0, hin⟩ := look_mem hE
  have hr := checked_rep hc0
  have hsm : ∀ x ∈ countL l known, Small x := fun y hy => (report_small (hr y (count_mem hy))).1
  have hml := maker_len hsm
  have hcl := count_len l known
  have hid := ids_len (countL l known)
  have hln : (countL l known).length ≤ 1000 := by omega
  have hil : (idsL (countL l known)).length ≤ 1000000 := by omega
  refine Y Mv ?_
  refine D (Cf (hs := wantedF_sp)) ?_
  rintro v18 _ ⟨_, rfl, rfl⟩
  refine Y As ?_
  refine Y As ?_
  refine Nq ?_
  refine Rt ?_
  refine Rv2 [.rw (EI .i64) 3 v18 ((idsL (countL l known)).filter fun p => !!(parL (countL l known) p).found)] ?_
  exact ⟨_, by rw [hE], by rw [if_pos hE]⟩

end Go.Lag

namespace Go.Lag
open Go Go.RowKit Go.Proofs
set_option maxRecDepth 100000 in
set_option maxHeartbeats 4000000 in
theorem present1_sp {Z : Hp} {b s pb : Nat} {l : List Rep} {iv : Value} (hB : BeaZ Z b l s iv pb := by assumption) {hour : Int} {c1 c2 : Nat} {a : Par} : Sp Tryz.prog 120 [parV a, ptr c1 0, ptr c2 0] [.cl c1 [.int .i64 hour] 3, .cl c2 [ptr b 0] 111, .zm Z] fun v H' => v = .bool (presB l hour a) ∧ [.cl c1 [.int .i64 hour] 3, .cl c2 [ptr b 0] 111, .zm Z] = H' := by
 refine Sp.of 29 Tryz.func120 rfl rfl rfl ?_
 intro F
 obtain ⟨lv, mb, ub, hb, hS⟩ := hB.st
 have hba := hB.at_
 have hbp := hB.ps
 have hbi := hB.ids
 have hat := hS.at_
 have hmk := hS.mm
 have hus := hS.us
 refine Sr ?_
 refine Dbx (fun b3 => ?_)
 refine Y As ?_
 refine Nq ?_
 refine Drq (fun i => false) _ SubH.refl ?_
 refine Tk 0 [] rfl Fa ?_
 refine Tk 1 [] rfl Ld ?_
 refine Tk 2 [] rfl Ld ?_
 refine Tk 3 [] rfl Le ?_
 refine Tk 4 [] rfl Mv ?_
 refine GcDA 8 (fun h2 => ?_) fun h2 => ?_
 ·
  refine TkG 5 [] rfl (decide_eq_true h2) Fa ?_
  refine TkG 6 [] rfl (decide_eq_true h2) Ld ?_
  refine TkG 7 [] rfl (decide_eq_true h2) Eq_ ?_
  refine TkG 8 [] rfl (decide_eq_true h2) Mv ?_
  refine GcDA 12 (fun h4 => ?_) fun h4 => ?_
  ·
   refine TkF 9 [] rfl (decide_eq_true h4) ?_
   refine TkF 10 [] rfl (decide_eq_true h4) ?_
   refine TkF 11 [] rfl (decide_eq_true h4) ?_
   refine TkF 12 [] rfl (decide_eq_true h4) ?_
   refine TkF 13 [] rfl (decide_eq_true h4) ?_
   refine TkF 14 [] rfl (decide_eq_true h4) ?_
   refine TkF 15 [] rfl (decide_eq_true h4) ?_
   refine TkF 16 [] rfl (decide_eq_true h4) ?_
   refine TkF 17 [] rfl (decide_eq_true h4) ?_
   refine TkF 18 [] rfl (decide_eq_true h4) ?_
   refine TkF 19 [] rfl (decide_eq_true h4) ?_
   refine TkF 20 [] rfl (decide_eq_true h4) ?_
   refine TkF 21 [] rfl (decide_eq_true h4) ?_
   refine TkG 22 [] rfl (decide_eq_true h2) (PkT (hb := decide_eq_true h4)) ?_
   refine Tk 23 [] rfl (PkT (hb := decide_eq_true h2)) ?_
   refine Tk 24 [] rfl As ?_
   refine Anq ?_
   refine Rt ?_
   refine Rv [.cl c1 [.int .i64 hour] 3, .cl c2 [ptr b 0] 111, .zm Z] ?_
   exact ⟨congrArg Value.bool (by simp [presB, *]), rfl⟩
  ·
   refine TkG 9 [] rfl (decide_eq_false h4) Ld ?_
   refine TkG 10 [] rfl (decide_eq_false h4) Nc ?_
   refine TkG 11 [] rfl (decide_eq_false h4) Fa ?_
   refine TkG 12 [] rfl (decide_eq_false h4) Ld ?_
   refine TkG 13 [] rfl (decide_eq_false h4) Nc ?_
   refine TkG 14 [] rfl (decide_eq_false h4) Fa ?_
   refine TkG 15 [] rfl (decide_eq_false h4) Ld ?_
   refine TkG 16 [] rfl (decide_eq_false h4) Fa ?_
   refine TkG 17 [] rfl (decide_eq_false h4) Ld ?_
   obtain ⟨pv23, hp23, hl23⟩ := lookR hus a.id
   refine TkG 18 [] rfl (decide_eq_false h4) (LkZ hl23) ?_
   refine TkG 19 [] rfl (decide_eq_false h4) Fd ?_
   refine TkG 20 [] rfl (decide_eq_false h4) Ld ?_
   refine TkG 21 [] rfl (decide_eq_false h4) Gr ?_
   refine TkG 22 [] rfl (decide_eq_true h2) (PkF (hb := decide_eq_false h4)) ?_
   refine Tk 23 [] rfl (PkT (hb := decide_eq_true h2)) ?_
   refine Tk 24 [] rfl As ?_
   refine Anq ?_
   refine Rt ?_
   refine Rv [.cl c1 [.int .i64 hour] 3, .cl c2 [ptr b 0] 111, .zm Z] ?_
   exact ⟨congrArg Value.bool (by simp [presB, *]), rfl⟩
 ·
  refine TkF 5 [] rfl (decide_eq_false h2) ?_
  refine TkF 6 [] rfl (decide_eq_false h2) ?_
  refine TkF 7 [] rfl (decide_eq_false h2) ?_
  refine TkF 8 [] rfl (decide_eq_false h2) ?_
  refine TkU 9 [] rfl ?_
  refine TkU 10 [] rfl ?_
  refine TkU 11 [] rfl ?_
  refine TkU 12 [] rfl ?_
  refine TkU 13 [] rfl ?_
  refine TkU 14 [] rfl ?_
  refine TkU 15 [] rfl ?_
  refine TkU 16 [] rfl ?_
  refine TkU 17 [] rfl ?_
  refine TkU 18 [] rfl ?_
  refine TkU 19 [] rfl ?_
  refine TkU 20 [] rfl ?_
  refine TkU 21 [] rfl ?_
  refine TkF 22 [] rfl (decide_eq_false h2) ?_
  refine Tk 23 [] rfl (PkF (hb := decide_eq_false h2)) ?_
  refine Tk 24 [] rfl As ?_
  refine Anq ?_
  refine Rt ?_
  refine Rv [.cl c1 [.int .i64 hour] 3, .cl c2 [ptr b 0] 111, .zm Z] ?_
  exact ⟨congrArg Value.bool (by simp [presB, *]), rfl⟩

set_option maxRecDepth 100000 in
set_option maxHeartbeats 4000000 in
theorem wanted1P_sp {Z : Hp} {b s pb : Nat} {l : List Rep} {iv : Value} (hB : BeaZ Z b l s iv pb := by assumption) {hour : Int} {c1 c2 : Nat} {p : Int} {b1 b2 : Nat} : Sp Tryz.prog 209 [.int .i64 p, ptr b1 0, ptr b2 0] [.cl c1 [.int .i64 hour] 3, .cl c2 [ptr b 0] 111, .cl b1 [.func (.func 120) #[] #[ptr c1 0, ptr c2 0]] 220, .cl b2 [ptr b 0] 111, .zm Z] fun v H' => v = .bool (!(presB l hour) (parL l p)) ∧ [.cl c1 [.int .i64 hour] 3, .cl c2 [ptr b 0] 111, .cl b1 [.func (.func 120) #[] #[ptr c1 0, ptr c2 0]] 220, .cl b2 [ptr b 0] 111, .zm Z] = H' := by
 refine Sp.of 14 Tryz.func209 rfl rfl rfl ?_
 intro F
 have hba := hB.at_
 have hbp := hB.ps
 refine Sr ?_
 refine Y As ?_
 refine Nq ?_
 refine Drq (fun i => false) _ SubH.refl ?_
 refine Tk 0 [] rfl Ld ?_
 refine Tk 1 [] rfl Ld ?_
 refine Tk 2 [] rfl Nc ?_
 refine Tk 3 [] rfl Fa ?_
 refine Tk 4 [] rfl Ld ?_
 refine Tk 5 [] rfl Mv ?_
 refine Tk 6 [] rfl LkP ?_
 refine Gx 7 rfl (Cc (hs := present1_sp)) ?_
 rintro _ _ ⟨_, ⟨rfl, rfl⟩, rfl⟩
 refine ⟨fun _ => (by repeat (first | exact SubH.refl | exact SubH.nil | refine SubH.cons (by repeat (first | exact Pick.head | apply Pick.tail)) ?_ | refine SubH.skip ?_)), ?_⟩
 refine Tk 8 [] rfl Nt ?_
 refine Tk 9 [] rfl As ?_
 refine Anq ?_
 refine Rt ?_
 refine Rv [.cl c1 [.int .i64 hour] 3, .cl c2 [ptr b 0] 111, .cl b1 [.func (.func 120) #[] #[ptr c1 0, ptr c2 0]] 220, .cl b2 [ptr b 0] 111, .zm Z] ?_
 exact ⟨rfl, rfl⟩

set_option maxRecDepth 100000 in
set_option maxHeartbeats 4000000 in
theorem wantedP_sp {Z : Hp} {b s pb : Nat} {l : List Rep} {iv : Value} (hB : BeaZ Z b l s iv pb := by assumption) {hour : Int} {c1 c2 : Nat} (hil : (idsL l).length ≤ 1000000 := by assumption) : Sp Tryz.prog 119 [ptr b 0, .func (.func 120) #[] #[ptr c1 0, ptr c2 0]] [.cl c1 [.int .i64 hour] 3, .cl c2 [ptr b 0] 111, .zm Z] fun v H' => .rw (EI .i64) 3 v ((idsL l).filter fun p => !!(presB l hour) (parL l p)) :: [.cl c1 [.int .i64 hour] 3, .cl c2 [ptr b 0] 111] = H' := by
 refine Sp.of 12 Tryz.func119 rfl rfl rfl ?_
 intro F
 have hba := hB.at_
 have hbi := hB.ids
 refine Sr ?_
 refine Dbx (fun b2 => ?_)
 refine Dbx (fun b3 => ?_)
 refine Y As ?_
 refine Nq ?_
 refine Sr ?_
 refine Y Ld ?_
 refine Y Nc ?_
 refine Y Fa ?_
 refine Y Ld ?_
 refine D (Cf (hs := cloneI_sp (xs := idsL l) (hn := hil))) ?_
 rintro v9 _ ⟨_, rfl, rfl⟩
 refine Y Mf ?_
 refine D (Cf (hs := deleteI_sp (xs := idsL l) (ff := []) (fc := [ptr b3 0, ptr b2 0]) (preF := [.cl c1 [.int .i64 hour] 3, .cl c2 [ptr b 0] 111, .cl b3 [.func (.func 120) #[] #[ptr c1 0, ptr c2 0]] 220, .cl b2 [ptr b 0] 111, .zm Z]) (p := fun p => !(presB l hour) (parL l p)) (fun a _ => wanted1P_sp) (by omega))) ?_
 rintro v11 _ ⟨_, rfl, rfl⟩
 refine Y As ?_
 refine Nq ?_
 refine Rt ?_
 refine Rv (.rw (EI .i64) 3 v11 ((idsL l).filter fun p => !!(presB l hour) (parL l p)) :: [.cl c1 [.int .i64 hour] 3, .cl c2 [ptr b 0] 111]) ?_
 rfl

set_option maxRecDepth 100000 in
set_option maxHeartbeats 4000000 in
theorem present_sp {Z : Hp} {l : List Rep} {lv : Value} (hl : SlZ (EZ Z) Z lv l := by assumption) {known : Int} (hn : l.length ≤ 1000 := by assumption) (hg : (checkE l).2 = 0 → GoodL (countL l known) := by first | assumption | exact good_of) {hour : Int} : Sp Tryz.prog 57 [lv, .int .i64 known, .int .i64 hour] [.zm Z] fun v H' => ∃ sv, v = .tuple #[sv, .int .i64 (lookE l known [])] ∧ H' = [.rw (EI .i64) 3 sv (if lookE l known [] = 0 then (idsL (countL l known)).filter (fun p => !!presB (countL l known) hour (parL (countL l known) p)) else [])] := by
 refine Sp.of 22 Tryz.func57 rfl rfl rfl ?_
 intro F
 refine Sr ?_
 refine Dbx (fun b5 => ?_)
 refine Y As ?_
 refine Y As ?_
 refine Nq ?_
 refine Sr ?_
 refine Y Mv ?_
 refine Y Mv ?_
 have hpn : SlZ (EI .i64) Z (.slice none 0 0) [] := SlZ.nil _ _
 refine D (Cf (hs := looks_sp (hl := hl) (hps := hpn))) ?_
 rintro _ _ ⟨_, ⟨Z13, bv13, hZ13, rfl, rfl, hb13, hc13⟩, rfl⟩
 have hbo := bv_one hb13 hc13
 refine Y Mv ?_
 refine Y Xc ?_
 refine Y Xc ?_
 refine Dal fun b8 => ?_
 refine Dsw (hds := hbo.1) (h1 := by simp [hbo.2]) ?_
 refine Y As ?_
 refine Nq ?_
 refine Sq ?_
 refine Sr ?_
 refine Y Mv ?_
 refine Y Ne_ ?_
 refine Nq ?_
 refine Cn (fun h2 => ?_) fun h2 => ?_
 ·
  refine Sr ?_
  refine Y Mv ?_
  refine Y As ?_
  refine Y As ?_
  refine Nq ?_
  refine Rt ?_
  refine Rh ?_
  refine NilRwP (EI .i64) 3 ?_
  refine Rv2 [.rw (EI .i64) 3 (.slice none 0 0) []] ?_
  exact ⟨_, rfl, by rw [if_neg h2]⟩
 ·
  refine Sk ?_
  refine Pq ?_
  refine Sr ?_
  have hE := h2
  obtain ⟨b, s, iv, pb, rfl, hB⟩ := hb13 hE
  obtain ⟨hc0, hin⟩ := look_mem hE
  have hr := checked_rep hc0
  have hsm : ∀ x ∈ countL l known, Small x := fun y hy => (report_small (hr y (count_mem hy))).1
  have hml := maker_len hsm
  have hcl := count_len l known
  have hid := ids_len (countL l known)
  have hln : (countL l known).length ≤ 1000 := by omega
  have hil : (idsL (countL l known)).length ≤ 1000000 := by omega
  refine Y Ld ?_
  refine Y Mf ?_
  refine D (Cf (hs := wantedP_sp (hour := hour) (c1 := b5) (c2 := b8))) ?_
  rintro v21 _ ⟨_, rfl, rfl⟩
  refine Y As ?_
  refine Y As ?_
  refine Nq ?_
  refine Rt ?_
  refine Rv2 [.rw (EI .i64) 3 v21 ((idsL (countL l known)).filter fun p => !!presB (countL l known) hour (parL (countL l known) p))] ?_
  exact ⟨_, by rw [hE], by rw [if_pos hE]⟩

end Go.Lag

namespace Go.Lag
open Go Go.RowKit Go.Proofs
set_option maxRecDepth 100000 in
set_option maxHeartbeats 4000000 in
theorem end_sp {a : Arc} {up : Bool} : SpV Tryz.prog 123 [arcV a, .bool up] [] (.int .i64 (endA a up)) := by
 refine Sp.of 10 Tryz.func123 rfl rfl rfl ?_
 intro F
 refine Sr ?_
 refine Dbx (fun b2 => ?_)
 refine Y As ?_
 refine Nq ?_
 refine Sq ?_
 refine Sr ?_
 refine Y Mv ?_
 refine Nq ?_
 refine Ct (fun h1 => ?_) fun h1 => ?_
 ·
  refine Sr ?_
  refine Y Fa ?_
  refine Y Ld ?_
  refine Y As ?_
  refine Nq ?_
  refine Rt ?_
  refine Rh ?_
  refine Rv [] ?_
  exact ⟨by simp [endA, h1], rfl⟩
 ·
  refine Sk ?_
  refine Pq ?_
  refine Sr ?_
  refine Y Fa ?_
  refine Y Ld ?_
  refine Y As ?_
  refine Nq ?_
  refine Rt ?_
  refine Rv [] ?_
  exact ⟨by simp [endA, h1], rfl⟩

set_option maxRecDepth 100000 in
set_option maxHeartbeats 4000000 in
theorem across_sp {Z : Hp} {a : Arc} {side : List Int} {sv : Value} (hs : SlZ (EI .i64) Z sv side := by assumption) : SpV Tryz.prog 126 [arcV a, sv] [.zm Z] (.int .i64 (acrossN a side)) := by
 refine Sp.of 27 Tryz.func126 rfl rfl rfl ?_
 intro F
 have hsl := hs.len_le
 refine Sr ?_
 refine Dbx (fun b2 => ?_)
 refine Y As ?_
 refine Nq ?_
 refine Drq (fun i => false) _ SubH.refl ?_
 refine Tk 0 [] rfl Mv ?_
 refine Tk 1 [] rfl Fa ?_
 refine Tk 2 [] rfl Ld ?_
 refine Tk 4 [] rfl Mv ?_
 refine Tk 5 [] rfl Fa ?_
 refine Tk 6 [] rfl Ld ?_
 refine Gx 3 rfl (Cf (hs := hasV_sp)) ?_
 rintro _ _ ⟨_, ⟨rfl, rfl⟩, rfl⟩
 refine ⟨fun _ => (by repeat (first | exact SubH.refl | exact SubH.nil | refine SubH.cons (by repeat (first | exact Pick.head | apply Pick.tail)) ?_ | refine SubH.skip ?_)), ?_⟩
 refine Gx 7 rfl (Cf (hs := hasV_sp)) ?_
 rintro _ _ ⟨_, ⟨rfl, rfl⟩, rfl⟩
 refine ⟨fun _ => (by repeat (first | exact SubH.refl | exact SubH.nil | refine SubH.cons (by repeat (first | exact Pick.head | apply Pick.tail)) ?_ | refine SubH.skip ?_)), ?_⟩
 refine Tk 8 [] rfl As ?_
 refine Tk 9 [] rfl As ?_
 refine Anq ?_
 refine Sq ?_
 refine Bk ?_
 refine Sr ?_
 refine Y Mv ?_
 refine Y Mv ?_
 refine Ga 2 1 true 19 (fun h3 => by
  refine Yg h3 Mv ?_
  refine Yg h3 Nt ?_
  exact Gg) ?_
 refine Y PkA ?_
 refine Y As ?_
 refine Nq ?_
 refine Ct (fun h5 => ?_) fun h5 => ?_
 ·
  refine Sr ?_
  refine Y As ?_
  refine Nq ?_
  refine Rt ?_
  refine Rb ?_
  refine Rh ?_
  refine Rv [] ?_
  exact ⟨congrArg (Value.int .i64) (by simp only [acrossN, h5]; rfl), rfl⟩
 ·
  refine Sr ?_
  refine Y Mv ?_
  refine Y Mv ?_
  refine Ga 2 1 true 25 (fun h6 => by
   refine Yg h6 Mv ?_
   refine Yg h6 Nt ?_
   exact Gg) ?_
  refine Y PkA ?_
  refine Y As ?_
  refine Nq ?_
  refine Ct (fun h8 => ?_) fun h8 => ?_
  ·
   refine Sr ?_
   refine Y As ?_
   refine Nq ?_
   refine Rt ?_
   refine Rb ?_
   refine Rh ?_
   refine Rv [] ?_
   exact ⟨congrArg (Value.int .i64) (by simp only [acrossN, h5, h8]; rfl), rfl⟩
  ·
   refine Sk ?_
   refine Pb ?_
   refine Pq ?_
   refine Sr ?_
   refine Y As ?_
   refine Nq ?_
   refine Rt ?_
   refine Rv [] ?_
   exact ⟨congrArg (Value.int .i64) (by simp only [acrossN, h5, h8]; rfl), rfl⟩

end Go.Lag

namespace Go.Lag
open Go Go.RowKit Go.Proofs
set_option maxRecDepth 100000 in
set_option maxHeartbeats 4000000 in
theorem isSide1_sp {b1 : Nat} {id_ : Int} {x : Rep} {pv : Value} : Sp Tryz.prog 210 [repV x pv, ptr b1 0] [.cl b1 [.int .i64 id_] 3] fun v H' => v = .bool (decide (x.id = id_) && moveB x) ∧ [.cl b1 [.int .i64 id_] 3] = H' := by
 refine Sp.of 18 Tryz.func210 rfl rfl rfl ?_
 intro F
 refine Sr ?_
 refine Dbx (fun b2 => ?_)
 refine Y As ?_
 refine Nq ?_
 refine Sr ?_
 refine Y Fa ?_
 refine Y Ld ?_
 refine Y Ld ?_
 refine Y Eq_ ?_
 refine Y Mv ?_
 refine GcD 7 (fun h2 => ?_) fun h2 => ?_
 ·
  refine Gt (decide_eq_true h2) ?_
  refine Y Fa ?_
  refine Gt (decide_eq_true h2) ?_
  refine Y Ld ?_
  refine Gt (decide_eq_true h2) ?_
  refine Y Eq_ ?_
  refine Gt (decide_eq_true h2) ?_
  refine Y Mv ?_
  refine GcD 11 (fun h4 => ?_) fun h4 => ?_
  ·
   refine Gf (decide_eq_true h4) ?_
   refine Gf (decide_eq_true h4) ?_
   refine Gf (decide_eq_true h4) ?_
   refine Gt (decide_eq_true h2) ?_
   refine Y (PkT (hb := decide_eq_true h4)) ?_
   refine Y (PkT (hb := decide_eq_true h2)) ?_
   refine Y As ?_
   refine Nq ?_
   refine Rt ?_
   refine Rv [.cl b1 [.int .i64 id_] 3] ?_
   exact ⟨congrArg Value.bool (by simp [moveB, *]), rfl⟩
  ·
   refine Gt (decide_eq_false h4) ?_
   refine Y Fa ?_
   refine Gt (decide_eq_false h4) ?_
   refine Y Ld ?_
   refine Gt (decide_eq_false h4) ?_
   refine Y Eq_ ?_
   refine Gt (decide_eq_true h2) ?_
   refine Y (PkF (hb := decide_eq_false h4)) ?_
   refine Y (PkT (hb := decide_eq_true h2)) ?_
   refine Y As ?_
   refine Nq ?_
   refine Rt ?_
   refine Rv [.cl b1 [.int .i64 id_] 3] ?_
   exact ⟨congrArg Value.bool (by simp [moveB, *]), rfl⟩
 ·
  refine Gf (decide_eq_false h2) ?_
  refine Gf (decide_eq_false h2) ?_
  refine Gf (decide_eq_false h2) ?_
  refine Gf (decide_eq_false h2) ?_
  refine Gu ?_
  refine Gu ?_
  refine Gu ?_
  refine Gf (decide_eq_false h2) ?_
  refine Y (PkF (hb := decide_eq_false h2)) ?_
  refine Y As ?_
  refine Nq ?_
  refine Rt ?_
  refine Rv [.cl b1 [.int .i64 id_] 3] ?_
  exact ⟨congrArg Value.bool (by simp [moveB, *]), rfl⟩

end Go.Lag

namespace Go.Lag
open Go Go.RowKit Go.Proofs
set_option maxRecDepth 100000 in
set_option maxHeartbeats 4000000 in
theorem isSide_sp {Z : Hp} {b s pb : Nat} {l : List Rep} {iv : Value} (hB : BeaZ Z b l s iv pb := by assumption) {side : List Int} {sv : Value} (hs : SlZ (EI .i64) Z sv side := by assumption) : SpV Tryz.prog 121 [ptr b 0, sv] [.zm Z] (.bool (isSideL l side)) := by
 refine Sp.of 40 Tryz.func121 rfl rfl rfl ?_
 intro F
 obtain ⟨lv, mb, ub, hb, hS⟩ := hB.st
 have hba := hB.at_
 have hbp := hB.ps
 have hbi := hB.ids
 have hat := hS.at_
 have hmk := hS.mm
 have hus := hS.us
 have hls := hS.ls
 have hsl := hs.len_le
 refine Sr ?_
 refine Y As ?_
 refine Nq ?_
 refine Sq ?_
 refine Sr ?_
 refine Y Mv ?_
 refine Y Ln ?_
 refine Y Mv ?_
 refine Nq ?_
 refine Bk ?_
 refine Lp (fun n_ l_ H_ => ∃ (i : Nat), n_ = side.length - i ∧ l_ = [(0, ptr b 0), (1, sv), (8, sv), (9, .int .i64 (side.length : Int)), (10, .int .i64 (i : Int))] ∧ H_ = .zm Z :: F ∧ (i ≤ side.length) ∧ (∀ j, j < i → okAt l side j = true)) ⟨0, rfl, rfl, rfl, (by omega), (by intro j hj; omega)⟩ ⟨rfl, rfl, rfl, rfl, rfl, trivial⟩ ?_
 rintro _ _ _ ⟨i, rfl, rfl, rfl, hi, hall⟩
 refine Sr ?_
 refine Y Lt ?_
 refine Nq ?_
 refine Sq ?_
 refine Cp (fun h2 => ?_) fun h2 => ?_
 ·
  refine Sk ?_
  refine Pq ?_
  refine Sq ?_
  refine Bk ?_
  refine Sr ?_
  refine Y Mv ?_
  obtain ⟨x13, b13, o13, hx13, he13, hc13⟩ := SlZ.atI hs i (by omega)
  refine Y (IxY rfl rfl (by omega) he13) ?_
  refine Y Ld ?_
  refine Dal fun b6 => ?_
  refine Y As ?_
  refine Dsw ?_
  refine Nq ?_
  refine Sr ?_
  refine Y Mv ?_
  refine Y Nc ?_
  refine Y Fa ?_
  refine Y Ld ?_
  refine Y Nc ?_
  refine Y Fa ?_
  refine Y Ld ?_
  refine Y Mf ?_
  refine D (Cf (hs := anyR_sp (ff := []) (fc := [ptr b6 0]) (preF := [.cl b6 [.int .i64 x13] 3]) (p := fun x => decide (x.id = x13) && moveB x) (fun a _ pv _ => isSide1_sp))) ?_
  rintro _ _ ⟨_, ⟨rfl, rfl⟩, rfl⟩
  refine Y As ?_
  refine Nq ?_
  refine Drq (fun i => false) _ SubH.refl ?_
  refine Tk 0 [] rfl Mv ?_
  refine Tk 1 [] rfl Nt ?_
  refine Tk 2 [] rfl Mv ?_
  refine GcBA 23 (fun h4 => ?_) fun h4 => ?_
  ·
   refine TkG 3 [] rfl (nb_f h4) Mv ?_
   refine TkG 4 [] rfl (nb_f h4) Gr ?_
   refine TkG 5 [] rfl (nb_f h4) Mv ?_
   refine GcDA 28 (fun h6 => ?_) fun h6 => ?_
   ·
    refine TkG 6 [] rfl (decide_eq_true h6) Ld ?_
    refine TkG 7 [] rfl (decide_eq_true h6) Mv ?_
    refine TkG 8 [] rfl (decide_eq_true h6) Mv ?_
    refine TkG 9 [] rfl (decide_eq_true h6) Su ?_
    obtain ⟨x34, b34, o34, hx34, he34, hc34⟩ := SlZ.atI hs (((i : Int) - 1).toNat) (by omega)
    refine TkG 10 [] rfl (decide_eq_true h6) (IxY rfl rfl (by omega) he34) ?_
    refine TkG 11 [] rfl (decide_eq_true h6) Ld ?_
    refine TkG 12 [] rfl (decide_eq_true h6) Le ?_
    refine TkG 13 [] rfl (nb_f h4) (PkT (hb := decide_eq_true h6)) ?_
    refine Tk 14 [] rfl (PkF (hb := nb_f h4)) ?_
    refine Anq ?_
    refine Cp (fun h8 => ?_) fun h8 => ?_
    ·
     refine Sr ?_
     refine Y As ?_
     refine Nq ?_
     refine Rt ?_
     refine Rb ?_
     refine Rh ?_
     refine Rh ?_
     refine Rb ?_
     refine Rh ?_
     refine Rv [] ?_
     exact ⟨congrArg Value.bool (isSide_no (i := i) (by omega) (by rw [show ((i : Int) - 1).toNat = i - 1 by omega] at hx34; simp only [okAt, hx13, hx34, Option.getD_some, h4, Bool.true_and]; simp; omega)), rfl⟩
    ·
     refine Sk ?_
     refine Pb ?_
     refine Pq ?_
     refine Rg ?_
     refine Y Ad ?_
     refine Y Mv ?_
     refine Nl ?_
     refine Re ⟨(i + 1), rfl, rfl, rfl, (by omega), (okAt_step hall (by rw [show ((i : Int) - 1).toNat = i - 1 by omega] at hx34; simp only [okAt, hx13, hx34, Option.getD_some, h4, Bool.true_and]; simp; omega))⟩ (by omega) ⟨rfl, rfl, rfl, rfl, rfl, trivial⟩
   ·
    refine TkF 6 [] rfl (decide_eq_false h6) ?_
    refine TkF 7 [] rfl (decide_eq_false h6) ?_
    refine TkF 8 [] rfl (decide_eq_false h6) ?_
    refine TkF 9 [] rfl (decide_eq_false h6) ?_
    refine TkF 10 [] rfl (decide_eq_false h6) ?_
    refine TkF 11 [] rfl (decide_eq_false h6) ?_
    refine TkF 12 [] rfl (decide_eq_false h6) ?_
    refine TkG 13 [] rfl (nb_f h4) (PkF (hb := decide_eq_false h6)) ?_
    refine Tk 14 [] rfl (PkF (hb := nb_f h4)) ?_
    refine Anq ?_
    refine CtF rfl ?_
    refine Sk ?_
    refine Pb ?_
    refine Pq ?_
    refine Rg ?_
    refine Y Ad ?_
    refine Y Mv ?_
    refine Nl ?_
    refine Re ⟨(i + 1), rfl, rfl, rfl, (by omega), (okAt_step hall (by (obtain rfl : i = 0 := by omega); simp only [okAt, hx13, Option.getD_some, h4, Bool.true_and, decide_true, Bool.true_or]))⟩ (by omega) ⟨rfl, rfl, rfl, rfl, rfl, trivial⟩
  ·
   refine TkF 3 [] rfl (nb_t h4) ?_
   refine TkF 4 [] rfl (nb_t h4) ?_
   refine TkF 5 [] rfl (nb_t h4) ?_
   refine TkU 6 [] rfl ?_
   refine TkU 7 [] rfl ?_
   refine TkU 8 [] rfl ?_
   refine TkU 9 [] rfl ?_
   refine TkU 10 [] rfl ?_
   refine TkU 11 [] rfl ?_
   refine TkU 12 [] rfl ?_
   refine TkF 13 [] rfl (nb_t h4) ?_
   refine Tk 14 [] rfl (PkT (hb := nb_t h4)) ?_
   refine Anq ?_
   refine CtT rfl ?_
   refine Sr ?_
   refine Y As ?_
   refine Nq ?_
   refine Rt ?_
   refine Rb ?_
   refine Rh ?_
   refine Rh ?_
   refine Rb ?_
   refine Rh ?_
   refine Rv [] ?_
   exact ⟨congrArg Value.bool (isSide_no (i := i) (by omega) (by simp only [okAt, hx13, Option.getD_some, h4, Bool.false_and])), rfl⟩
 ·
  refine Ex ?_
  refine Xt ?_
  refine Xt ?_
  refine Xb ?_
  refine Pq ?_
  refine Sr ?_
  refine Y As ?_
  refine Nq ?_
  refine Rt ?_
  refine Rv [] ?_
  exact ⟨congrArg Value.bool (isSide_yes (by assumption) hall), rfl⟩

end Go.Lag

namespace Go.Lag
open Go Go.RowKit Go.Proofs
set_option maxRecDepth 100000 in
set_option maxHeartbeats 4000000 in
theorem terms1_sp {b1 : Nat} {p : Int} {a : Arc} : Sp Tryz.prog 211 [arcV a, ptr b1 0] [.cl b1 [.int .i64 p] 3] fun u H' => u = .bool (decide (a.parcel = p)) ∧ [.cl b1 [.int .i64 p] 3] = H' := by
 refine Sp.of 8 Tryz.func211 rfl rfl rfl ?_
 intro F
 refine Sr ?_
 refine Dbx (fun b2 => ?_)
 refine Y As ?_
 refine Nq ?_
 refine Sr ?_
 refine Y Fa ?_
 refine Y Ld ?_
 refine Y Ld ?_
 refine Y Eq_ ?_
 refine Y As ?_
 refine Nq ?_
 refine Rt ?_
 refine Rv [.cl b1 [.int .i64 p] 3] ?_
 exact ⟨rfl, rfl⟩

end Go.Lag
