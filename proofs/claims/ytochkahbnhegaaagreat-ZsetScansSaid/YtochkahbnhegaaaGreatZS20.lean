/- The statement ZsetScans: the walk. -/
import Derived.Test.YtochkahbnhegaaaGreatZS19
set_option linter.unusedVariables false
set_option linter.unusedSimpArgs false
namespace Go.X.W
open Go Go.X Go.Proofs

variable {H : Heap} {fr : Mem} {K : Value → Heap → Prop}

abbrev isE (e : Ent) : Ent → Bool := fun a => decide (a = e)
theorem one_of {o L : List Ent} (h : o.Perm L) (hn : L.Nodup) {e : Ent} (he : e ∈ L) : (o.filter (isE e)).length = 1 := by
  rw [(h.filter _).length_eq]
  clear h
  induction L with
  | nil => cases he
  | cons a L ih =>
    rw [List.nodup_cons] at hn
    rw [List.filter_cons]
    by_cases ha : a = e
    · subst ha
      have : L.filter (isE a) = [] := by
        rw [List.filter_eq_nil_iff]
        intro x hx h
        simp only [isE, decide_eq_true_eq] at h
        subst h
        exact hn.1 hx
      simp [isE, this]
    · rcases List.mem_cons.1 he with rfl | he
      · exact absurd rfl ha
      · rw [if_neg (by simpa [isE] using ha)]
        exact ih hn.2 he

theorem filt_cat {α : Type} (t f g h : α → Bool) (hg : ∀ x, (t x && f x) = g x) (hh : ∀ x, (!t x && f x) = h x) (l : List α) : (l.filter f).Perm (l.filter g ++ l.filter h) := by
  refine (List.filter_append_perm t (l.filter f)).symm.trans ?_
  rw [List.filter_filter, List.filter_filter, List.filter_congr (fun x _ => hg x), List.filter_congr (fun x _ => hh x)]
theorem inRE_cat {sd : Int} {p q e : Nat} (h1 : p ≤ q) (h2 : q ≤ e) (l : List Ent) : (l.filter fun x => inR sd p e x.1).Perm ((l.filter fun x => inR sd p q x.1) ++ l.filter fun x => inR sd q e x.1) := by
  refine filt_cat (fun x => decide (posN sd x.1 < q)) _ _ _ (fun x => ?_) (fun x => ?_) l
  · unfold inR
    rw [Bool.eq_iff_iff]
    simp only [Bool.and_eq_true, decide_eq_true_eq]
    omega
  · unfold inR
    rw [Bool.eq_iff_iff]
    simp only [Bool.and_eq_true, Bool.not_eq_true', decide_eq_true_eq, decide_eq_false_iff_not]
    omega
theorem cur0 : curV 0 = .int .u32 0 := by
  unfold curV
  rw [Nat.zero_mod, rev_zero]
  rfl
theorem curE : curV 4294967296 = .int .u32 0 := by
  unfold curV
  rw [Nat.mod_self, rev_zero]
  rfl

theorem zset_ScanV_h {sd : Int} {p s : Nat} {z : ZSt} {zm m : Mem} (cv : Nat → Value) (hcv : ∀ p, cv p = curV p) (hp : p < 4294967296) (hz : ZRepA sd p z s zm) (ok : ZOk z) (hh : Has H (zm + m))
    (hK : ∀ H' zm' v sl o e, SlOwn 2 v (entsC o) sl → lenV v = o.length → p + 4194304 ≤ e → e ≤ 4294967296 → ZRepA sd e z s zm' → o.Perm (z.L.filter fun x => inR sd p e x.1) → Has H' (sl + (zm' + m)) → K (.tuple #[v, cv e]) H') :
    CallH P f_zset_Set_Scan [ptrV s, cv p] H K := by
  rw [hcv]
  refine zset_ScanL_h hp hz ok hh fun H' zm' v sl o e h1 h2 h3 h4 h5 h6 hh => ?_
  rw [← hcv]
  exact hK H' zm' v sl o e h1 h2 h3 h4 h5 h6 hh
theorem curN {e : Nat} (h : 0 < e) (h2 : e < 4294967296) : ∃ c : Int, ¬ c = 0 ∧ curV e = .int .u32 c := by
  refine ⟨_, fun h3 => ?_, rfl⟩
  have h3 : revN 32 (e % 4294967296) = 0 := by omega
  have h4 := rev32_rev (n := e % 4294967296) (Nat.mod_lt _ (by omega))
  rw [h3, rev_zero, Nat.mod_eq_of_lt (by omega)] at h4
  omega
theorem cv_ex : ∃ cv : Nat → Value, (∀ p, cv p = curV p) := ⟨_, fun _ => rfl⟩

theorem zsetScans_h {le lm seed : Int} {v : Value} {acts : List ActR} (hh : Has H fr) (hA : ∀ H', Has H' fr → RowsAt 6 H' v (acts.map actC)) (hrow : ∀ x ∈ acts, ActOk x)
    (hK : ∀ H', Has H' fr → K (.bool true) H') : CallH P f_paliolaw11_ZsetScans [.agg #[.int .i64 le, .int .i64 lm], .int .u32 seed, v] H K := by
  apply k_paliolaw11_ZsetScans
  unfold c_paliolaw11_ZsetScans
  rw [x_boxN]
  refine h_allocA hh fun lb H1 hh => ?_
  refine shown_h hh fun H2 hh => ?_
  refine h_load2 (b := lb) hh rfl rfl ?_
  refine law_made_h (fr := cell lb [.int .i64 le, .int .i64 lm] + fr) hh (fun H' h => hA H' h.right) hrow fun H3 s r zm rm hz hr hh => ?_
  have ok : ZOk (madeZ (newZ le lm seed) (acts.take 100)) := (ZOk.new le lm seed).made (l := acts.take 100) fun x hx => hrow x (List.mem_of_mem_take hx)
  generalize madeZ (newZ le lm seed) (acts.take 100) = z at *
  clear hr
  have h400 := ok.ok.len
  have hLn : z.L.Nodup := by
    have := ok.ok.nodup
    rw [List.nodup_iff_pairwise_ne] at this ⊢
    exact (List.pairwise_map.1 this).imp fun h e => h (by rw [e])
  (try simp only [xl, xo, Bool.not_eq_true', decide_eq_false_iff_not, ite_not, List.size_toArray, List.length_cons, List.length_nil, Nat.reduceAdd, qt, decide_eq_true_eq, Int.toNat_zero, Int.toNat_natCast, Nat.zero_mul, Nat.mul_one, Nat.one_mul, List.toList_toArray, List.cons_append, List.nil_append, List.append_nil, true_and, and_true, Nat.zero_add, Nat.add_zero, Bool.not_true, Bool.not_false, if_true, if_false, reduceCtorEq, List.set_cons_zero, List.set_cons_succ])
  refine zset_Len_h hz ok hh fun H4 hh => ?_
  refine zset_Range_h hz ok hh fun H5 va sla hva hlva hh => ?_
  rw [rng_all] at hva hlva
  refine join_ofS (fun st Q => ∃ (w : Value) (wl : Mem) (o : List Ent) (c : Int) (zm' m' : Mem), st = ((w, .int .u32 0, .int .i64 c), []) ∧ SlOwn 2 w (entsC o) wl ∧ lenV w = o.length ∧ o.Perm z.L ∧ (z.il = false → o = z.L ∧ c = 1) ∧ ZRep z s zm' ∧ Has Q (wl + (sla + (zm' + (fr + m'))))) ?_ ?_
  · rintro st Q ⟨w, wl, o, c, zm', m', rfl, hw, hlw, hp, hpk, hz', hh⟩ g
    refine zset_Encoding_h hz' (hh.front zm') ?_
    have hE1 := own_ents hw hlw (hh.front wl)
    have hE2 := own_ents hva hlva (hh.front sla)
    cases hil : z.il with
    | false =>
      obtain ⟨rfl, rfl⟩ := hpk hil
      simp only [Bool.false_eq_true, if_false]
      (try simp only [xl, xo, Bool.not_eq_true', decide_eq_false_iff_not, ite_not, List.size_toArray, List.length_cons, List.length_nil, Nat.reduceAdd, qt, decide_eq_true_eq, Int.toNat_zero, Int.toNat_natCast, Nat.zero_mul, Nat.mul_one, Nat.one_mul, List.toList_toArray, List.cons_append, List.nil_append, List.append_nil, true_and, and_true, Nat.zero_add, Nat.add_zero, Bool.not_true, Bool.not_false, if_true, if_false, reduceCtorEq, List.set_cons_zero, List.set_cons_succ])
      refine ref05_Same_h hE1 hE2 (by omega) ?_
      exact hK Q (hh.front fr).left
    | true =>
      simp only [if_true]
      (try simp only [xl, xo, Bool.not_eq_true', decide_eq_false_iff_not, ite_not, List.size_toArray, List.length_cons, List.length_nil, Nat.reduceAdd, qt, decide_eq_true_eq, Int.toNat_zero, Int.toNat_natCast, Nat.zero_mul, Nat.mul_one, Nat.one_mul, List.toList_toArray, List.cons_append, List.nil_append, List.append_nil, true_and, and_true, Nat.zero_add, Nat.add_zero, Bool.not_true, Bool.not_false, if_true, if_false, reduceCtorEq, List.set_cons_zero, List.set_cons_succ])
      rw [if_neg (by decide)]
      refine hE1.len (hE2.len ?_)
      have hol : o.length = z.L.length := hp.length_eq
      (try simp only [xl, xo, Bool.not_eq_true', decide_eq_false_iff_not, ite_not, List.size_toArray, List.length_cons, List.length_nil, Nat.reduceAdd, qt, decide_eq_true_eq, Int.toNat_zero, Int.toNat_natCast, Nat.zero_mul, Nat.mul_one, Nat.one_mul, List.toList_toArray, List.cons_append, List.nil_append, List.append_nil, true_and, and_true, Nat.zero_add, Nat.add_zero, Bool.not_true, Bool.not_false, if_true, if_false, reduceCtorEq, List.set_cons_zero, List.set_cons_succ])
      rw [if_pos (by omega)]
      refine loop_i (fun k st Q' => Q' = Q ∧ ∃ i : Nat, i + k = z.L.length ∧ st = (.int .i64 i, [])) z.L.length ⟨rfl, 0, by omega, rfl⟩ ?_
      rintro k _ g Q ⟨rfl, i, hik, rfl⟩
      refine hE2.len ?_
      (try simp only [xl, xo, Bool.not_eq_true', decide_eq_false_iff_not, ite_not, List.size_toArray, List.length_cons, List.length_nil, Nat.reduceAdd, qt, decide_eq_true_eq, Int.toNat_zero, Int.toNat_natCast, Nat.zero_mul, Nat.mul_one, Nat.one_mul, List.toList_toArray, List.cons_append, List.nil_append, List.append_nil, true_and, and_true, Nat.zero_add, Nat.add_zero, Bool.not_true, Bool.not_false, if_true, if_false, reduceCtorEq, List.set_cons_zero, List.set_cons_succ])
      by_cases hi : i < z.L.length
      · rw [if_pos (by omega)]
        have hg2 : z.L[i]? = some (z.L[i]'hi) := List.getElem?_eq_getElem hi
        generalize z.L[i]'hi = e at hg2
        refine loop_i (fun k2 st Q' => Q' = Q ∧ ∃ j : Nat, j + k2 = o.length ∧ st = ((.int .i64 ((o.take j).filter (isE e)).length, .int .i64 j), [])) o.length ⟨rfl, 0, by omega, rfl⟩ ?_
        rintro k2 _ g2 Q ⟨rfl, j, hjk, rfl⟩
        refine hE1.len ?_
        (try simp only [xl, xo, Bool.not_eq_true', decide_eq_false_iff_not, ite_not, List.size_toArray, List.length_cons, List.length_nil, Nat.reduceAdd, qt, decide_eq_true_eq, Int.toNat_zero, Int.toNat_natCast, Nat.zero_mul, Nat.mul_one, Nat.one_mul, List.toList_toArray, List.cons_append, List.nil_append, List.append_nil, true_and, and_true, Nat.zero_add, Nat.add_zero, Bool.not_true, Bool.not_false, if_true, if_false, reduceCtorEq, List.set_cons_zero, List.set_cons_succ])
        by_cases hj : j < o.length
        · rw [if_pos (by omega)]
          have hg1 : o[j]? = some (o[j]'hj) := List.getElem?_eq_getElem hj
          generalize o[j]'hj = a at hg1
          obtain ⟨p, hp1, hp2⟩ := hE1.at hg1
          obtain ⟨p', hp1', hp2'⟩ := hE2.at hg2
          refine hp1 (load_row hp2 (hp1' (load_row hp2' ?_)))
          (try simp only [xl, xo, Bool.not_eq_true', decide_eq_false_iff_not, ite_not, List.size_toArray, List.length_cons, List.length_nil, Nat.reduceAdd, qt, decide_eq_true_eq, Int.toNat_zero, Int.toNat_natCast, Nat.zero_mul, Nat.mul_one, Nat.one_mul, List.toList_toArray, List.cons_append, List.nil_append, List.append_nil, true_and, and_true, Nat.zero_add, Nat.add_zero, Bool.not_true, Bool.not_false, if_true, if_false, reduceCtorEq, List.set_cons_zero, List.set_cons_succ])
          have hcnt := filter_take (p := isE e) hg1
          have hle := List.length_filter_le (isE e) (o.take j)
          rw [List.length_take] at hle
          have hdec : (decide (a.1 = e.1) && decide (a.2 = e.2)) = isE e a := by
            rw [Bool.eq_iff_iff]
            simp only [isE, Bool.and_eq_true, decide_eq_true_eq, Prod.ext_iff]
          rw [hdec]
          cases hq : isE e a with
          | true =>
            rw [hq, if_pos rfl] at hcnt
            simp only [if_true]
            (try simp only [xl, xo, Bool.not_eq_true', decide_eq_false_iff_not, ite_not, List.size_toArray, List.length_cons, List.length_nil, Nat.reduceAdd, qt, decide_eq_true_eq, Int.toNat_zero, Int.toNat_natCast, Nat.zero_mul, Nat.mul_one, Nat.one_mul, List.toList_toArray, List.cons_append, List.nil_append, List.append_nil, true_and, and_true, Nat.zero_add, Nat.add_zero, Bool.not_true, Bool.not_false, if_true, if_false, reduceCtorEq, List.set_cons_zero, List.set_cons_succ])
            refine ⟨k2 - 1, by omega, j + 1, by omega, ?_⟩
            rw [hcnt, w64 (n := (j : Int) + 1) (by omega), w64 (by omega)]
            simp
          | false =>
            rw [hq] at hcnt
            simp only [Bool.false_eq_true, if_false, List.append_nil] at hcnt ⊢
            (try simp only [xl, xo, Bool.not_eq_true', decide_eq_false_iff_not, ite_not, List.size_toArray, List.length_cons, List.length_nil, Nat.reduceAdd, qt, decide_eq_true_eq, Int.toNat_zero, Int.toNat_natCast, Nat.zero_mul, Nat.mul_one, Nat.one_mul, List.toList_toArray, List.cons_append, List.nil_append, List.append_nil, true_and, and_true, Nat.zero_add, Nat.add_zero, Bool.not_true, Bool.not_false, if_true, if_false, reduceCtorEq, List.set_cons_zero, List.set_cons_succ])
            refine ⟨k2 - 1, by omega, j + 1, by omega, ?_⟩
            rw [hcnt, w64 (n := (j : Int) + 1) (by omega)]
            rfl
        · rw [if_neg (by omega)]
          obtain rfl : j = o.length := by omega
          rw [List.take_length, one_of hp hLn (List.mem_of_getElem? hg2)]
          (try simp only [xl, xo, Bool.not_eq_true', decide_eq_false_iff_not, ite_not, List.size_toArray, List.length_cons, List.length_nil, Nat.reduceAdd, qt, decide_eq_true_eq, Int.toNat_zero, Int.toNat_natCast, Nat.zero_mul, Nat.mul_one, Nat.one_mul, List.toList_toArray, List.cons_append, List.nil_append, List.append_nil, true_and, and_true, Nat.zero_add, Nat.add_zero, Bool.not_true, Bool.not_false, if_true, if_false, reduceCtorEq, List.set_cons_zero, List.set_cons_succ])
          rw [if_pos (by omega)]
          (try simp only [xl, xo, Bool.not_eq_true', decide_eq_false_iff_not, ite_not, List.size_toArray, List.length_cons, List.length_nil, Nat.reduceAdd, qt, decide_eq_true_eq, Int.toNat_zero, Int.toNat_natCast, Nat.zero_mul, Nat.mul_one, Nat.one_mul, List.toList_toArray, List.cons_append, List.nil_append, List.append_nil, true_and, and_true, Nat.zero_add, Nat.add_zero, Bool.not_true, Bool.not_false, if_true, if_false, reduceCtorEq, List.set_cons_zero, List.set_cons_succ])
          refine ⟨k - 1, by omega, i + 1, by omega, ?_⟩
          rw [w64 (by omega)]
          rfl
      · rw [if_neg (by omega)]
        simpa using hK Q (hh.front fr).left
  · intro J hJ
    have hz0 := hz
    cases hil : z.il with
    | false =>
      refine loop_i (fun k st G => (k = 1 ∧ st = ((.slice none 0 0, .int .u32 0, .int .i64 0), []) ∧ ∃ m', Has G (sla + (zm + (fr + m')))) ∨
          (k = 0 ∧ ∃ w wl m', st = ((w, .int .u32 0, .int .i64 1), []) ∧ SlOwn 2 w (entsC z.L) wl ∧ lenV w = z.L.length ∧ Has G (wl + (sla + (zm + (fr + m')))))) 1
        (.inl ⟨rfl, rfl, rm + cell lb [.int .i64 le, .int .i64 lm], hh.to (by ac_rfl)⟩) ?_
      rintro k st g G (⟨rfl, rfl, m', hh⟩ | ⟨rfl, w, wl, m', rfl, hw, hlw, hh⟩)
      · unfold JoinP
        (try simp only [xl, xo, Bool.not_eq_true', decide_eq_false_iff_not, ite_not, List.size_toArray, List.length_cons, List.length_nil, Nat.reduceAdd, qt, decide_eq_true_eq, Int.toNat_zero, Int.toNat_natCast, Nat.zero_mul, Nat.mul_one, Nat.one_mul, List.toList_toArray, List.cons_append, List.nil_append, List.append_nil, true_and, and_true, Nat.zero_add, Nat.add_zero, Bool.not_true, Bool.not_false, if_true, if_false, reduceCtorEq, List.set_cons_zero, List.set_cons_succ])
        intro g2
        refine zset_ScanP_h hz ok hil (hh.front zm) fun G2 w wl hw hlw hh => ?_
        (try simp only [xl, xo, Bool.not_eq_true', decide_eq_false_iff_not, ite_not, List.size_toArray, List.length_cons, List.length_nil, Nat.reduceAdd, qt, decide_eq_true_eq, Int.toNat_zero, Int.toNat_natCast, Nat.zero_mul, Nat.mul_one, Nat.one_mul, List.toList_toArray, List.cons_append, List.nil_append, List.append_nil, true_and, and_true, Nat.zero_add, Nat.add_zero, Bool.not_true, Bool.not_false, if_true, if_false, reduceCtorEq, List.set_cons_zero, List.set_cons_succ])
        refine h_appendE (l := []) (r := z.L) (sl := emp) (.inl ⟨rfl, rfl, rfl⟩) (hh.to (emp_add _).symm) (own_ents hw hlw hh) (by simp; omega) fun w2 wl2 G3 hw2 hh hlw2 => ?_
        refine ⟨0, by omega, .inr ⟨rfl, w2, wl2, _, by rw [w64 (by omega)]; rfl, by simpa using hw2, by simpa using hlw2, (hh.front (wl2 + (sla + (zm + fr)))).to (by simp only [mem_assoc]; rfl)⟩⟩
      · unfold JoinP
        (try simp only [xl, xo, Bool.not_eq_true', decide_eq_false_iff_not, ite_not, List.size_toArray, List.length_cons, List.length_nil, Nat.reduceAdd, qt, decide_eq_true_eq, Int.toNat_zero, Int.toNat_natCast, Nat.zero_mul, Nat.mul_one, Nat.one_mul, List.toList_toArray, List.cons_append, List.nil_append, List.append_nil, true_and, and_true, Nat.zero_add, Nat.add_zero, Bool.not_true, Bool.not_false, if_true, if_false, reduceCtorEq, List.set_cons_zero, List.set_cons_succ])
        rw [if_neg (by omega)]
        exact hJ _ G ⟨w, wl, z.L, 1, zm, m', rfl, hw, hlw, List.Perm.refl _, fun _ => ⟨rfl, rfl⟩, hz, hh⟩
    | true =>
      obtain ⟨sd, hzA⟩ := ZRepA.of hz hil
      obtain ⟨cv, hcv⟩ := cv_ex
      have cv0 : cv 0 = .int .u32 0 := (hcv 0).trans cur0
      refine loop_i (fun k st G => ∃ (j e : Nat) (w : Value) (wl : Mem) (o : List Ent) (zm m' : Mem), k = 4294967296 - e ∧ st = ((w, cv e, .int .i64 j), []) ∧ 4194304 * j ≤ e ∧ e ≤ 4294967296 ∧ (0 < e → 0 < j) ∧
          SlOwn 2 w (entsC o) wl ∧ lenV w = o.length ∧ o.Perm (z.L.filter fun x => inR sd 0 e x.1) ∧ ZRepA sd e z s zm ∧ Has G (wl + (sla + (zm + (fr + m'))))) 4294967296
        ⟨0, 0, .slice none 0 0, emp, [], zm, rm + cell lb [.int .i64 le, .int .i64 lm], by omega, by rw [cv0]; rfl, by omega, by omega, by omega, .inl ⟨rfl, rfl, rfl⟩, rfl, ?_, hzA, hh.to (by simp only [emp_add]; ac_rfl)⟩ ?_
      · have : (z.L.filter fun x => inR sd 0 0 x.1) = [] := by
          rw [List.filter_eq_nil_iff]
          intro x _ h
          unfold inR at h
          simp only [Bool.and_eq_true, decide_eq_true_eq] at h
          omega
        rw [this]
      rintro k st g G ⟨j, e, w, wl, o, zm, m', rfl, rfl, hj, he, hj0, hw, hlw, hp, hzA, hh⟩
      have hol : o.length ≤ z.L.length := by rw [hp.length_eq]; exact List.length_filter_le _ _
      refine join_ofS (fun st Q => st = ((), []) ∧ Q = G ∧ e < 4294967296) ?_ ?_
      · rintro st Q ⟨rfl, rfl, hlt⟩ g2
        refine zset_ScanV_h cv hcv hlt hzA ok (hh.front zm) fun G2 zm2 v2 sl2 o2 e2 h1 h2 h3 h4 h5 h6 hh => ?_
        (try simp only [xl, xo, Bool.not_eq_true', decide_eq_false_iff_not, ite_not, List.size_toArray, List.length_cons, List.length_nil, Nat.reduceAdd, qt, decide_eq_true_eq, Int.toNat_zero, Int.toNat_natCast, Nat.zero_mul, Nat.mul_one, Nat.one_mul, List.toList_toArray, List.cons_append, List.nil_append, List.append_nil, true_and, and_true, Nat.zero_add, Nat.add_zero, Bool.not_true, Bool.not_false, if_true, if_false, reduceCtorEq, List.set_cons_zero, List.set_cons_succ])
        have hol2 : o2.length ≤ z.L.length := by rw [h6.length_eq]; exact List.length_filter_le _ _
        refine h_appendE hw (hh.front wl) (own_ents h1 h2 hh) (by omega) fun w2 wl2 G3 hw2 hh hlw2 => ?_
        have e9 : IntKind.i64.wrap ((j : Int) + 1) = ((j + 1 : Nat) : Int) := by rw [w64 (by omega)]; rfl
        refine ⟨4294967296 - e2, by omega, j + 1, e2, w2, wl2, o ++ o2, zm2, _, by omega, by rw [e9], by omega, h4, fun _ => by omega, hw2, hlw2, ?_, h5, (hh.front (wl2 + (sla + (zm2 + fr)))).to (by simp only [mem_assoc]; rfl)⟩
        refine (hp.append h6).trans ?_
        exact (inRE_cat (by omega) (by omega) _).symm
      · intro J2 hJ2
        (try simp only [xl, xo, Bool.not_eq_true', decide_eq_false_iff_not, ite_not, List.size_toArray, List.length_cons, List.length_nil, Nat.reduceAdd, qt, decide_eq_true_eq, Int.toNat_zero, Int.toNat_natCast, Nat.zero_mul, Nat.mul_one, Nat.one_mul, List.toList_toArray, List.cons_append, List.nil_append, List.append_nil, true_and, and_true, Nat.zero_add, Nat.add_zero, Bool.not_true, Bool.not_false, if_true, if_false, reduceCtorEq, List.set_cons_zero, List.set_cons_succ])
        have hdone : e = 4294967296 → J ((w, cv e, .int .i64 j), []) G := fun hE => by
          subst hE
          refine hJ _ G ⟨w, wl, o, j, zm, m', ?_, hw, hlw, ?_, (fun h => by rw [hil] at h; cases h), hzA.to ok, hh⟩
          · rw [hcv, curE]
          · refine hp.trans (List.Perm.of_eq ?_)
            rw [List.filter_eq_self]
            intro x _
            have := rev32_lt (hsum sd x.1).toNat
            unfold inR posN
            simp only [Bool.and_eq_true, decide_eq_true_eq]
            omega
        by_cases hj1 : j = 0
        · subst hj1
          have he0 : e = 0 := by omega
          (try simp only [xl, xo, Bool.not_eq_true', decide_eq_false_iff_not, ite_not, List.size_toArray, List.length_cons, List.length_nil, Nat.reduceAdd, qt, decide_eq_true_eq, Int.toNat_zero, Int.toNat_natCast, Nat.zero_mul, Nat.mul_one, Nat.one_mul, List.toList_toArray, List.cons_append, List.nil_append, List.append_nil, true_and, and_true, Nat.zero_add, Nat.add_zero, Bool.not_true, Bool.not_false, if_true, if_false, reduceCtorEq, List.set_cons_zero, List.set_cons_succ])
          exact hJ2 _ _ ⟨rfl, rfl, by omega⟩
        · rw [if_neg (by omega)]
          by_cases hE : e = 4294967296
          · have h := hdone hE
            rw [hE, hcv, curE] at h ⊢
            (try simp only [xl, xo, Bool.not_eq_true', decide_eq_false_iff_not, ite_not, List.size_toArray, List.length_cons, List.length_nil, Nat.reduceAdd, qt, decide_eq_true_eq, Int.toNat_zero, Int.toNat_natCast, Nat.zero_mul, Nat.mul_one, Nat.one_mul, List.toList_toArray, List.cons_append, List.nil_append, List.append_nil, true_and, and_true, Nat.zero_add, Nat.add_zero, Bool.not_true, Bool.not_false, if_true, if_false, reduceCtorEq, List.set_cons_zero, List.set_cons_succ])
            exact h
          · obtain ⟨c, hc, hce⟩ := curN (e := e) (by omega) (by omega)
            rw [← hcv] at hce
            rw [hce]
            (try simp only [xl, xo, Bool.not_eq_true', decide_eq_false_iff_not, ite_not, List.size_toArray, List.length_cons, List.length_nil, Nat.reduceAdd, qt, decide_eq_true_eq, Int.toNat_zero, Int.toNat_natCast, Nat.zero_mul, Nat.mul_one, Nat.one_mul, List.toList_toArray, List.cons_append, List.nil_append, List.append_nil, true_and, and_true, Nat.zero_add, Nat.add_zero, Bool.not_true, Bool.not_false, if_true, if_false, reduceCtorEq, List.set_cons_zero, List.set_cons_succ])
            rw [if_neg hc, if_pos (by omega)]
            exact hJ2 _ _ ⟨rfl, rfl, by omega⟩
end Go.X.W
