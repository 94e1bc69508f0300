/- Of our own, laid together by program: Rows of one's own, opened. Equal values. The program's own facts. The program's types (laid by mktypes.py). Functions of the program as predicate transformers (laid by gen.py). Functions of the program as predicate transformers (laid by gen.py). -/
import Derived.Test.YtbndemefjckenaaDoorM1
import Derived.ChangeKeysEq
import Derived.Laws.Tables
import Derived.KernelRfl
import Derived.Test.YtbndemefjckenaaDoorProg
section
set_option linter.unusedVariables false
set_option linter.unusedSimpArgs false
set_option linter.unusedVariables false
set_option linter.unusedSimpArgs false
namespace Go.Px
open Go Go.RowKit
variable {α β : Type} {P : Program} {L L2 : List Item} {w : World} {K : Value → World → Prop}
abbrev SL (g o n c : Nat) : Value := .slice (some ⟨g, o, none⟩) n c
theorem own_open {E : Enc α} {e : TypeId} {v : Value} {xs : List α} (hs : St L w) (hp : L.Perm (own E e v xs :: L2)) (hne : xs ≠ []) :
    ∃ g cap cur, v = SL g 0 xs.length cap ∧ xs.length ≤ cap ∧ cap ≤ maxLen ∧ cur.length = cap * E.k ∧ cur.take (xs.length * E.k) = xs.flatMap E.f ∧ St (box g e cur :: L2) w := by
  have hs2 := hs.perm hp
  have h : w.ownsRow 0 e E.k v xs.length (xs.flatMap E.f) := hs2.get (x := own E e v xs) (by simp)
  rcases h.2 with ⟨rfl, h0⟩ | ⟨g, cap, cur, rfl, hb, hg, hn, hm, hc, ht⟩
  · exact absurd (List.eq_nil_of_length_eq_zero h0) hne
  · refine ⟨g, cap, cur.toList, rfl, hn, hm, by simpa using hc, ht, ?_⟩
    exact hs2.upd (x := own E e (SL g 0 xs.length cap) xs) (y := box g e cur.toList) .here (Ext.refl No w) (fun _ _ h => h.elim) hg (fun _ => rfl) fun k hk => .inl (by rw [show k = g from hk]; rfl)
theorem own_close {E : Enc α} {e : TypeId} {g n cap : Nat} {cur : List Value} {ys : List α} (hs : St (box g e cur :: L2) w) (hn : ys.length = n) (hc : n ≤ cap) (hm : cap ≤ maxLen) (hl : cur.length = cap * E.k) (ht : cur.take (n * E.k) = ys.flatMap E.f) :
    St (own E e (SL g 0 n cap) ys :: L2) w := by
  have h : w.heap[g]? = some (.cells cur.toArray e (0, 0)) := hs.get (x := box g e cur) (by simp)
  refine hs.upd (x := box g e cur) (y := own E e (SL g 0 n cap) ys) .here (Ext.refl No w) (fun _ _ h => h.elim) ?_ (fun _ => rfl) fun k hk => .inl (by cases hk; rfl)
  refine ⟨by rw [E.length, hn], .inr ⟨g, cap, cur.toArray, by rw [hn], Nat.zero_le _, h, by omega, hm, by simpa using hl, ?_⟩⟩
  rw [hn]
  exact ht
theorem Yd.slh {t k : Nat} {a : Option Addr} {n c : Nat} {kl kh : IntKind} {i j : Int} (l h : Nat) (hi : i = l := by omega) (hj : j = h := by omega) (h1 : l ≤ h := by omega) (h2 : h ≤ c := by omega) (ht : row1 P t k = true := by kernel_rfl) :
    Yd P L (Instr.sliceAt t (.slice a n c) (some (.int kl i)) (some (.int kh j)) none) (sliced a l h c k) := .of fun w => by
  subst hi; subst hj
  have hu := row1_size (P := P) (w := w) ht
  rw [run_sliceAt_slice _ _ _ _ _ _ hu.1, run_slice_lh w t a n c hu.1 kl kh _ _ (by omega) (by omega) (by omega), hu.2]
  simp [Result.andThen]
theorem Yd.sl {t k : Nat} {a : Option Addr} {n c : Nat} {kl : IntKind} {i : Int} (l : Nat) (hi : i = l := by omega) (h1 : l ≤ n := by omega) (ht : row1 P t k = true := by kernel_rfl) :
    Yd P L (Instr.sliceAt t (.slice a n c) (some (.int kl i)) none none) (sliced a l n c k) := .of fun w => by
  subst hi
  have hu := row1_size (P := P) (w := w) ht
  rw [run_sliceAt_slice _ _ _ _ _ _ hu.1, run_slice_l w t a n c hu.1 kl _ (by omega) (by omega), hu.2]
  simp [Result.andThen]
theorem Yd.sh {t k : Nat} {a : Option Addr} {n c : Nat} {kh : IntKind} {j : Int} (h : Nat) (hj : j = h := by omega) (h2 : h ≤ c := by omega) (ht : row1 P t k = true := by kernel_rfl) :
    Yd P L (Instr.sliceAt t (.slice a n c) none (some (.int kh j)) none) (sliced a 0 h c k) := .of fun w => by
  subst hj
  have hu := row1_size (P := P) (w := w) ht
  rw [run_sliceAt_slice _ _ _ _ _ _ hu.1, run_slice_h w t a n c hu.1 kh _ (by omega) (by omega), hu.2]
  simp [Result.andThen]
theorem Yd.slhm {t k : Nat} {a : Option Addr} {n c : Nat} {kl kh km : IntKind} {i j m : Int} (l h x : Nat) (hi : i = l := by omega) (hj : j = h := by omega) (hm : m = x := by omega) (h1 : l ≤ h := by omega) (h2 : h ≤ x := by omega) (h3 : x ≤ c := by omega) (ht : row1 P t k = true := by kernel_rfl) :
    Yd P L (Instr.sliceAt t (.slice a n c) (some (.int kl i)) (some (.int kh j)) (some (.int km m))) (sliced a l h x k) := .of fun w => by
  subst hi; subst hj; subst hm
  have hu := row1_size (P := P) (w := w) ht
  rw [run_sliceAt_slice _ _ _ _ _ _ hu.1, run_slice_lhm w t a n c hu.1 kl kh km _ _ _ (by omega) (by omega) (by omega) (by omega), hu.2]
  simp [Result.andThen]
theorem Yd.lenS {t ty : Nat} {a : Option Addr} {n c : Nat} {cs : Array Bool} (ht : lenT P t = true := by kernel_rfl) : Yd P L (builtin .len #[t] ty cs #[.slice a n c]) (.value (I (n : Nat))) := .of fun w => by
  unfold lenT at ht
  split at ht
  · rename_i e hd
    simp [builtin, Builtin.len_, Sem.run_bind, run_under hd, Result.andThen, pure, Sem.run, goInt]
  · cases ht
theorem sliced_at {g l h m k : Nat} (hm : l < m) : sliced (some ⟨g, 0, none⟩) l h m k = SL g (l * k) (h - l) (m - l) := by
  unfold sliced
  rw [if_neg (by omega)]
  simp [add_off]
/-- Elements put behind a part of an opened row. -/
theorem st_put {E : Enc α} {t ty e bytes : Nat} {cs : Array Bool} {g n cap o m c : Nat} {cur news : List Value} (hs : St (box g e cur :: L2) w) (hnews : m ≠ 0 → Row w g o news) (hnl : news.length = m * E.k) (h1 : news.all (·.oneCell') = true) (hroom : n + m ≤ cap) (hl : cur.length = cap * E.k)
    (hk : ∀ w', St (box g e (cur.take (n * E.k) ++ news ++ cur.drop ((n + m) * E.k)) :: L2) w' → K (SL g 0 (n + m) cap) w') (ht : grows P t E.k e bytes = true := by kernel_rfl) :
    CallN P (builtin .append #[t, t] ty cs #[SL g 0 n cap, SL g o m c]) K w := by
  obtain ⟨hu, i, z, hi, hsi, hby, hz, hzs⟩ := grows_spec ht
  have h : w.heap[g]? = some (.cells cur.toArray e (0, 0)) := hs.get (x := box g e cur) (by simp)
  have hfit : n * i.size + news.length ≤ cur.toArray.size := by
    rw [hnl, hsi, ← Nat.add_mul]
    have := Nat.mul_le_mul_right E.k hroom
    simpa [hl] using this
  have hr := run_append_room (P := P) w t ty e i hu hi g n cap cur.toArray h ⟨g, o, none⟩ m c news (by rw [hnl, hsi]) (fun j u hj => by
    rw [add_off]
    have hm : m ≠ 0 := fun h0 => by rw [h0, Nat.zero_mul] at hnl; rw [List.eq_nil_of_length_eq_zero hnl] at hj; cases hj
    exact hnews hm j u hj) (fun u hu => List.all_eq_true.1 h1 u hu) hroom hfit
  refine CallN_value (v := SL g 0 (n + m) cap) (w' := w.setRow g (cur.take (n * E.k) ++ news ++ cur.drop ((n + m) * E.k)).toArray) ?_ (hk _ ?_)
  · unfold builtin
    rw [hsi, hnl, ← Nat.add_mul] at hr
    simp only [Sem.run_bind, hr, Result.andThen, pure, Sem.run]
  · refine hs.upd (x := box g e cur) .here (Ext.setRow w g _) (fun k _ hk => ⟨rfl, hk⟩) (setRow_heap w g _ _ e _ h) (fun _ => rfl) fun k hk => .inl hk
theorem zeroCells_toList (z : Array Value) (n : Nat) : (Builtin.zeroCells z n).toList = (List.range (n * z.size)).map (z[· % z.size]!) := by
  simp [Builtin.zeroCells]
/-- Elements are struck out. -/
theorem st_clear {E : Enc α} {t ty e bytes : Nat} {cs : Array Bool} {g o n c : Nat} {cur : List Value} (z0 : α) (hs : St (box g e cur :: L2) w) (hn : 0 < n) (hfit : o + n * E.k ≤ cur.length) (hz : zeroT P e = some (E.val z0))
    (hk : ∀ w' zs, zs.length = n * E.k → St (box g e (cur.take o ++ zs ++ cur.drop (o + n * E.k)) :: L2) w' → K (.tuple #[]) w') (ht : grows P t E.k e bytes = true := by kernel_rfl) :
    CallN P (builtin .clear #[t] ty cs #[SL g o n c]) K w := by
  obtain ⟨hu, i, z, hi, hsi, hby, hz', hzs⟩ := grows_spec ht
  have h : w.heap[g]? = some (.cells cur.toArray e (0, 0)) := hs.get (x := box g e cur) (by simp)
  have hzl : (E.val z0).cells.toList = E.f z0 := E.cells z0
  have hzsz : (E.val z0).cells.size = E.k := by rw [← Array.length_toList, hzl, E.len]
  obtain ⟨zs, hzs⟩ : ∃ zs, zs = (Builtin.zeroCells (E.val z0).cells n).toList := ⟨_, rfl⟩
  have hlz : zs.length = n * E.k := by rw [hzs, zeroCells_toList, List.length_map, List.length_range, hzsz]
  have h1 : ∀ u ∈ zs, u.oneCell' = true := fun u hu => by
    rw [hzs, zeroCells_toList] at hu
    obtain ⟨j, hj, rfl⟩ := List.mem_map.1 hu
    have hp := E.pos
    have hlt : j % (E.val z0).cells.size < (E.val z0).cells.size := Nat.mod_lt _ (by omega)
    have hge : (E.val z0).cells[j % (E.val z0).cells.size]! = (E.val z0).cells[j % (E.val z0).cells.size] := getElem!_pos (E.val z0).cells _ hlt
    rw [hge]
    refine List.all_eq_true.1 (E.one z0) _ ?_
    rw [← hzl]
    exact Array.mem_toList_iff.2 (Array.getElem_mem hlt)
  have hst := run_storeCells_at P g o e zs 0 cur.toArray w h (by simp; omega) h1
  simp only [Nat.add_zero] at hst
  refine CallN_value (v := .tuple #[]) (w' := w.setRow g (cur.take o ++ zs ++ cur.drop (o + n * E.k)).toArray) ?_ (hk _ zs hlz ?_)
  · have e1 : (Builtin.clear_ #[t] ty #[SL g o n c]).run P w = .ok (.tuple #[]) (w.setRow g (cur.take o ++ zs ++ cur.drop (o + n * E.k)).toArray) := by
      obtain ⟨m, rfl⟩ : ∃ m, n = m + 1 := ⟨n - 1, by omega⟩
      rw [hlz] at hst
      have hzv := zeroT_spec (P := P) (w := w) hz
      subst hzs
      simp [Builtin.clear_, run_under hu, hzv, Sem.run_bind, Result.andThen, hst, pure, Sem.run]
    unfold builtin
    simp only [Sem.run_bind, e1, Result.andThen, pure, Sem.run]
  · exact hs.upd (x := box g e cur) .here (Ext.setRow w g _) (fun k _ hk => ⟨rfl, hk⟩) (setRow_heap w g _ _ e _ h) (fun _ => rfl) fun k hk => .inl hk
theorem flat_set (E : Enc α) (xs : List α) (i : Nat) (y : α) (hi : i < xs.length) : (xs.set i y).flatMap E.f = (xs.flatMap E.f).take (i * E.k) ++ E.f y ++ (xs.flatMap E.f).drop (i * E.k + E.k) := by
  have e : i * E.k + E.k = (i + 1) * E.k := by rw [Nat.add_mul, Nat.one_mul]
  rw [e, E.take, E.drop, List.set_eq_take_append_cons_drop, if_pos hi, List.flatMap_append, List.flatMap_cons, List.append_assoc]
/-- One element is put. -/
theorem st_elem {E : Enc α} {e : TypeId} {v : Value} {ys : List α} {t t' : Nat} {k : IntKind} {i : Int} {U : Value → Unit → World → Prop} (hs : St (own E e v ys :: L2) w) (j : Nat) (y : α) (hk : ∀ p w, St (own E e v (ys.set j y) :: L2) w → U p () w)
    (hi : i = j := by omega) (hj : j < ys.length := by omega) (ht : row1 P t E.k = true := by kernel_rfl) (ht' : ldT P t' E = true := by kernel_rfl) :
    Do P (Instr.indexAt t v (.int k i)) (fun p w => Do P (Instr.storeAt t' p (E.val y)) (U p) w) w := by
  subst hi
  have hne : ys ≠ [] := fun h => by rw [h] at hj; simp at hj
  obtain ⟨g, cap, cur, rfl, h1, h2, h3, h4, hs2⟩ := own_open hs (List.Perm.refl _) hne
  obtain ⟨el, he⟩ := row1_spec ht
  refine Do_ok (run_indexSlice he (by omega) (by omega)) ?_
  have hsz : (sizeOf t').run P w = .ok E.k w := by
    unfold ldT at ht'
    split at ht'
    · exact (aggT_spec ht').2
    · rename_i ha
      have : E.k = 1 := by rw [← E.len y, E.vone y ha]; rfl
      rw [this]
      exact (oneT_spec ht').2
  have hc : (E.val y).cells.size = E.k := by rw [← Array.length_toList, E.cells, E.len]
  have hh : Has w g e cur := hs2.get (x := box g e cur) (by simp)
  have hjk : j * E.k + E.k ≤ ys.length * E.k := by rw [← Nat.add_one_mul]; exact Nat.mul_le_mul_right _ hj
  have hck : ys.length * E.k ≤ cap * E.k := Nat.mul_le_mul_right _ h1
  have hr := run_storeN (P := P) (o := 0 + j * E.k) hsz hc hh (by omega) (by rw [E.cells]; exact E.one y)
  have e0 : ((j : Int)).toNat = j := by omega
  rw [e0]
  refine Do_ok hr (hk _ _ ?_)
  rw [E.cells, Nat.zero_add]
  have hset := setRow_heap w g cur.toArray (cur.take (j * E.k) ++ E.f y ++ cur.drop (j * E.k + E.k)).toArray e (0, 0) hh
  have hs3 : St (box g e (cur.take (j * E.k) ++ E.f y ++ cur.drop (j * E.k + E.k)) :: L2) (w.setRow g (cur.take (j * E.k) ++ E.f y ++ cur.drop (j * E.k + E.k)).toArray) :=
    hs2.upd (x := box g e cur) .here (Ext.setRow w g _) (fun k _ hk => ⟨rfl, hk⟩) hset (fun _ => rfl) fun k hk => .inl hk
  refine own_close hs3 (by rw [List.length_set]) h1 h2 ?_ ?_
  · rw [List.length_append, List.length_append, List.length_take, List.length_drop, E.len]; omega
  · rw [flat_set E ys j y hj, ← h4]
    have a1 : (cur.take (ys.length * E.k)).take (j * E.k) = cur.take (j * E.k) := by rw [List.take_take, Nat.min_eq_left (by omega)]
    have a2 : (cur.take (ys.length * E.k)).drop (j * E.k + E.k) = (cur.drop (j * E.k + E.k)).take (ys.length * E.k - (j * E.k + E.k)) := by rw [List.drop_take]
    rw [a1, a2]
    have hl : (cur.take (j * E.k) ++ E.f y).length = j * E.k + E.k := by rw [List.length_append, List.length_take, E.len]; omega
    rw [List.take_append, hl, List.take_of_length_le (by omega)]
theorem St.pull {L : List Item} {w : World} (h : St L w) (i : Nat) {x : Item} (hx : L[i]? = some x) : St (x :: L.eraseIdx i) w := by
  refine h.perm ?_
  have hp : ∀ {L : List Item} {i : Nat} {x : Item}, L[i]? = some x → L.Perm (x :: L.eraseIdx i) := by
    intro L
    induction L with
    | nil => intro i x h; simp at h
    | cons a L ih =>
      intro i x h
      cases i with
      | zero => simp at h; subst h; exact List.Perm.refl _
      | succ i => exact (List.Perm.cons a (ih (by simpa using h))).trans (List.Perm.swap _ _ _)
  exact hp hx
theorem St.rowB {L : List Item} {w : World} {b : Nat} {e : TypeId} {cs : List Value} (h : St L w) (hb : box b e cs ∈ L) : Row w b 0 cs := Has.row (e := e) (h.get hb)
theorem row_cases {α : Type} {E : Enc α} {v : Value} {xs : List α} (hs : St L w) (h : RowIn E v xs L) : (v = NoSl ∧ xs = []) ∨ ∃ b o c, v = SL b o xs.length c := by
  rcases (h w hs).2 with ⟨rfl, h0⟩ | ⟨b, o, c, rfl, _⟩
  · exact .inl ⟨rfl, List.eq_nil_of_length_eq_zero h0⟩
  · exact .inr ⟨b, o, c, rfl⟩
theorem st_part3 {E : Enc α} {v : Value} {xs : List α} {t : Nat} {kl kh km : IntKind} {i j m : Int} (hs : St L w) (h : rows E v xs ∈ L) (l r : Nat) (hk : ∀ v', St (rows E v' ((xs.drop l).take (r - l)) :: L) w → K v' w)
    (hi : i = l := by omega) (hj : j = r := by omega) (hm : m = r := by omega) (h1 : l ≤ r := by omega) (h2 : r ≤ xs.length := by omega) (ht : row1 P t E.k = true := by kernel_rfl) : Do P (Instr.sliceAt t v (some (.int kl i)) (some (.int kh j)) (some (.int km m))) K w := by
  refine Do_part3 (hs.get h) l r (fun v' hv p => hk v' (hs.part h hv (fun hn hx => hn (by rw [hx]; simp)) ?_)) ht hi hj hm h1 h2
  rw [E.drop, E.take] at p
  have : (List.take (r - l) (List.drop l xs)).length = r - l := by rw [List.length_take, List.length_drop]; omega
  rw [this]
  exact p
/-- The rest of a row, told whatever else turns. -/
theorem RdS_from {E : Enc α} {v : Value} {xs : List α} {t : Nat} {kl : IntKind} {i : Int} {S : World → Prop} {K : Value → Prop} (hs : St L w) (h : rows E v xs ∈ L) (l : Nat)
    (hk : ∀ v', (∀ L' w', St L' w' → rows E v xs ∈ L' → St (rows E v' (xs.drop l) :: L') w') → K v') (hi : i = l := by omega) (h1 : l ≤ xs.length := by omega) (ht : row1 P t E.k = true := by kernel_rfl) : RdS P S (Instr.sliceAt t v (some (.int kl i)) none none) K := by
  subst hi
  rcases row_cases hs (RowIn.of h) with ⟨rfl, rfl⟩ | ⟨b, o, c, rfl⟩
  · have hl : l = 0 := by simpa using h1
    subst hl
    refine ⟨NoSl, fun w' _ => ?_, hk NoSl fun L' w' hs' _ => ?_⟩
    · have hu := row1_size (P := P) (w := w') ht
      rw [run_sliceAt_slice _ _ _ _ _ _ hu.1, run_slice_l w' t none 0 0 hu.1 kl _ (by omega) (by omega), hu.2]
      simp [Result.andThen, sliced]
    · simpa using hs'.nilR
  · have h2 : Sl w (SL b o xs.length c) E.k xs.length (xs.flatMap E.f) := hs.get h
    have hc : xs.length ≤ c := by
      rcases h2.2 with ⟨h3, _⟩ | ⟨b', o', c', h3, hc, _⟩
      · cases h3
      · cases h3; exact hc
    refine ⟨sliced (some ⟨b, o, none⟩) l xs.length c E.k, fun w' _ => ?_, hk _ fun L' w' hs' hm => ?_⟩
    · have hu := row1_size (P := P) (w := w') ht
      rw [run_sliceAt_slice _ _ _ _ _ _ hu.1, run_slice_l w' t _ xs.length c hu.1 kl _ (by omega) (by omega), hu.2]
      simp [Result.andThen]
    · have h4 : Sl w' (SL b o xs.length c) E.k xs.length (xs.flatMap E.f) := hs'.get hm
      have hr : Row w' b o (xs.flatMap E.f) := by
        rcases h4.2 with ⟨h3, _⟩ | ⟨b', o', c', h3, _, hr⟩
        · cases h3
        · cases h3; exact hr
      refine hs'.part hm (sliced_own _ _ _ _ _ _) (fun hn hx => hn (by rw [hx]; simp)) ?_
      have h5 := Sl.part_some (s := E.k) h4 h1 (Nat.le_refl _) hc hr c hc
      have ht2 : ((xs.flatMap E.f).drop (l * E.k)).take ((xs.length - l) * E.k) = (xs.drop l).flatMap E.f := by
        rw [E.drop]
        apply List.take_of_length_le
        rw [E.length, List.length_drop]
        exact Nat.le_refl _
      rw [ht2] at h5
      rw [List.length_drop]
      exact h5
theorem Gd.sub {L L' : List Item} {b o : Nat} {cs : List Value} (h : Gd L b o cs) (hs : L.Sublist L') : Gd L' b o cs := fun w h' => h w (h'.sub hs)
theorem Join_in {k : Env → World → Prop} {m : (Env → World → Prop) → Prop} (h : m k) : Join k m := h
theorem JoinD_in {k : Env → List Nat → World → Prop} {m : (Env → List Nat → World → Prop) → Prop} (h : m k) : JoinD k m := h
theorem Guard_t {x y : Prop} (h : x) : Guard (.bool true) true x y := h
theorem Guard_f {x y : Prop} (h : x) : Guard (.bool false) false x y := h
theorem Guard_yes {p : Prop} [Decidable p] {x y : Prop} {want : Bool} (h : decide p = want) (h1 : x) : Guard (.bool (decide p)) want x y := by rw [h]; cases want <;> exact h1
theorem Guard_no {p : Prop} [Decidable p] {x y : Prop} {want : Bool} (h : decide p = !want) (h1 : y) : Guard (.bool (decide p)) want x y := by rw [h]; cases want <;> exact h1
theorem Guard_dec {p : Prop} [Decidable p] {x y : Prop} (h1 : p → x) (h2 : ¬ p → y) : Guard (.bool (decide p)) true x y := by
  by_cases h : p
  · rw [decide_eq_true h]; exact h1 h
  · rw [decide_eq_false h]; exact h2 h
theorem Guard_decF {p : Prop} [Decidable p] {x y : Prop} (h1 : ¬ p → x) (h2 : p → y) : Guard (.bool (decide p)) false x y := by
  by_cases h : p
  · rw [decide_eq_true h]; exact h2 h
  · rw [decide_eq_false h]; exact h1 h
theorem Yd.mkf (f : FuncId) (first captured : Array Value) (h : hasBody P f = true := by kernel_rfl) : Yd P L (Instr.makeFunc (.func f) first captured) (.func (.func f) first captured) := .of fun w => rfl
end Go.Px
end
section
set_option linter.unusedVariables false
set_option linter.unusedSimpArgs false
set_option linter.unusedVariables false
set_option linter.unusedSimpArgs false
namespace Go.Px
open Go Go.RowKit
variable {α β : Type} {P : Program} {L L2 : List Item} {w : World} {K : Value → World → Prop}
theorem run_part1 {t off : Nat} {cs : Array Value} {v : Value} (ht : oneT P t = true) (hv : cs[off]? = some v) : (part t cs off).run P w = .ok v w := by
  unfold part
  rw [Sem.run_bind, (oneT_spec ht).1]
  simp [Result.andThen, hv, pure, Sem.run]
theorem run_partN {t off n : Nat} {pre mid post : List Value} (ht : aggT P t n = true) (h1 : pre.length = off) (h2 : mid.length = n) : (part t (pre ++ (mid ++ post)).toArray off).run P w = .ok (.agg mid.toArray) w := by
  unfold part
  rw [Sem.run_bind, (aggT_spec ht).1]
  simp only [Result.andThen, if_true, Sem.run_bind, (aggT_spec ht).2]
  have : ((pre ++ (mid ++ post)).toArray.extract off (off + n)) = mid.toArray := by
    apply Array.ext'
    rw [Array.toList_extract]
    simp only [List.extract, Nat.add_sub_cancel_left]
    subst h1; subst h2
    rw [List.drop_left, List.take_left]
  rw [this]
  rfl
theorem run_partE {E : Enc β} {t off : Nat} {pre post : List Value} {x : β} (ht : ldT P t E = true) (h1 : pre.length = off) : (part t (pre ++ (E.f x ++ post)).toArray off).run P w = .ok (E.val x) w := by
  unfold ldT at ht
  split at ht
  · rename_i ha
    rw [E.vagg x ha]
    exact run_partN ht h1 (E.len x)
  · rename_i ha
    refine run_part1 ht ?_
    rw [E.vone x ha]
    subst h1
    simp
theorem run_partF {E : Enc α} {E2 : Enc β} {g : α → β} {u : α → β → α} {t off : Nat} {x : α} (ht : ldT P t E2 = true) (hf : Fl E off E2 g u) : (part t (E.f x).toArray off).run P w = .ok (E2.val (g x)) w := by
  obtain ⟨pre, post, hl, h1, -⟩ := hf.h x
  rw [h1]
  exact run_partE ht hl
/-- Some bytes. -/
theorem run_items8 {e d : Nat} (he : intT P e .u8 = true) (ho : oneT P e = true) (xs ys : List Nat) : ∀ is : List Nat, (∀ i ∈ is, i < xs.length ∧ i < ys.length) → (Op.eqItems (d + 1) e 1 (xs.map Y).toArray (ys.map Y).toArray is).run P w = .ok (is.all fun i => xs.getD i 0 == ys.getD i 0) w
  | [], _ => rfl
  | i :: is, h => by
    have hi := h i (by simp)
    have e1 : (part e (xs.map Y).toArray (i * 1)).run P w = .ok (Y (xs.getD i 0)) w := run_part1 ho (by simp [List.getD_eq_getElem?_getD, List.getElem?_eq_getElem hi.1])
    have e2 : (part e (ys.map Y).toArray (i * 1)).run P w = .ok (Y (ys.getD i 0)) w := run_part1 ho (by simp [List.getD_eq_getElem?_getD, List.getElem?_eq_getElem hi.2])
    have e3 : (Op.equalIn (d + 1) e (Y (xs.getD i 0)) (Y (ys.getD i 0))).run P w = .ok (xs.getD i 0 == ys.getD i 0) w := by
      rw [run_equalIn_int w d e .u8 .u8 _ _ (intT_spec he)]
      congr 1
      rw [Bool.eq_iff_iff]
      simp only [beq_iff_eq]
      omega
    have ih := run_items8 (d := d) he ho xs ys is (fun j hj => h j (by simp [hj]))
    unfold Op.eqItems
    simp only [Sem.run_bind, e1, e2, e3, Result.andThen]
    cases hb : (xs.getD i 0 == ys.getD i 0) with
    | true => simp only [Bool.not_true, Bool.false_eq_true, if_false, ih, List.all_cons, hb, Bool.true_and]
    | false => simp only [Bool.not_false, if_true, List.all_cons, hb, Bool.false_and]; rfl
def arr32 (P : Program) (t : TypeId) : Bool := match P.underlying t with | some (.array k e) => Nat.beq k 32 && intT P e .u8 && oneT P e && Nat.beq (P.cellsOf e) 1 && (P.info? e).isSome | _ => false
/-- Equality of a kind, some levels down. -/
def EqD (P : Program) (t : Nat) (E : Enc β) (m : Nat) : Prop := ∀ (d : Nat) (w : World) (x y : β), ∃ b : Bool, (b = true ↔ x = y) ∧ (Op.equalIn (d + m) t (E.val x) (E.val y)).run P w = .ok b w
theorem EqD.up {E : Enc β} {t m m' : Nat} (h : EqD P t E m) (hm : m ≤ m') : EqD P t E m' := fun d w x y => by
  obtain ⟨b, h1, h2⟩ := h (d + (m' - m)) w x y
  exact ⟨b, h1, by rw [show d + m' = d + (m' - m) + m by omega]; exact h2⟩
theorem EqD.t {E : Enc β} {t m : Nat} (h : EqD P t E m) (hm : m ≤ 6) : EqT P t E := ⟨h.up hm⟩
theorem eqD_id {t : Nat} (h : arr32 P t = true) : EqD P t EId 2 := fun d w x y => by
  unfold arr32 at h
  split at h
  · rename_i k e hu
    simp only [Bool.and_eq_true] at h
    obtain ⟨⟨⟨⟨h1, h2⟩, h3⟩, h4⟩, h5⟩ := h
    have hk := Nat.eq_of_beq_eq_true h1
    subst hk
    obtain ⟨i, hi⟩ := Option.isSome_iff_exists.1 h5
    refine ⟨(List.range 32).all fun i => x.l.getD i 0 == y.l.getD i 0, ?_, ?_⟩
    · constructor
      · intro h
        apply Id.ext'
        apply List.ext_getElem?
        intro j
        by_cases hj : j < 32
        · have := List.all_eq_true.1 h j (List.mem_range.2 hj)
          simp only [beq_iff_eq, List.getD_eq_getElem?_getD] at this
          rw [List.getElem?_eq_getElem (by rw [x.len]; exact hj), List.getElem?_eq_getElem (by rw [y.len]; exact hj)] at this ⊢
          simpa using this
        · rw [List.getElem?_eq_none (by rw [x.len]; omega), List.getElem?_eq_none (by rw [y.len]; omega)]
      · rintro rfl
        exact List.all_eq_true.2 fun i _ => by simp
    · show (Op.equalIn (d + 2) t (.agg (x.l.map Y).toArray) (.agg (y.l.map Y).toArray)).run P w = _
      rw [run_equalIn_array w (d + 1) _ _ hu hi, Nat.eq_of_beq_eq_true h4]
      exact run_items8 (d := d) h2 h3 x.l y.l _ fun i hi => by
        have := List.mem_range.1 hi
        rw [x.len, y.len]; exact ⟨this, this⟩
  · cases h
/-- Are the fields equal, one by one? -/
theorem run_eqF_nil {d : Nat} {xs ys : Array Value} : (Op.eqFields d xs ys []).run P w = .ok true w := rfl
theorem run_eqF_cons {d : Nat} {xs ys : Array Value} {f : Field} {fs : List Field} {a b : Value} {r r' : Bool} (hn : f.name ≠ "_") (h1 : (part f.type xs f.offset).run P w = .ok a w) (h2 : (part f.type ys f.offset).run P w = .ok b w) (h3 : (Op.equalIn d f.type a b).run P w = .ok r w)
    (h4 : (Op.eqFields d xs ys fs).run P w = .ok r' w) : (Op.eqFields d xs ys (f :: fs)).run P w = .ok (r && r') w := by
  simp only [Op.eqFields, hn, ne_eq, not_false_eq_true, if_true, Sem.run_bind, h1, h2, h3, Result.andThen]
  cases r
  · simp only [Bool.not_false, if_true, Bool.false_and]; rfl
  · simp only [Bool.not_true, Bool.false_eq_true, if_false, Bool.true_and, h4]
theorem eqD_I {t : Nat} (h : intT P t .i64 = true) : EqD P t EI 1 := fun d w x y => ⟨x == y, by simp, run_equalIn_int w d t .i64 .i64 x y (intT_spec h)⟩
theorem eqD_W {t : Nat} (h : intT P t .u64 = true) : EqD P t EW 1 := fun d w x y => ⟨((x : Int) == y), by rw [beq_iff_eq]; omega, run_equalIn_int w d t .u64 .u64 x y (intT_spec h)⟩
theorem eqD_Y {t : Nat} (h : intT P t .u8 = true) : EqD P t EY 1 := fun d w x y => ⟨((x : Int) == y), by rw [beq_iff_eq]; omega, run_equalIn_int w d t .u8 .u8 x y (intT_spec h)⟩
/-- A struct whose fields are these. -/
inductive EqFs (P : Program) (E : Enc α) (d m : Nat) : List Field → (α → α → Prop) → Prop
  | nil : EqFs P E d m [] fun _ _ => True
  | cons {f : Field} {fs : List Field} {R : α → α → Prop} {β : Type} {E2 : Enc β} {g : α → β} {u : α → β → α} (hn : f.name ≠ "_") (hf : Fl E f.offset E2 g u) (ht : ldT P f.type E2 = true) (he : EqD P f.type E2 m) (h : EqFs P E d m fs R) : EqFs P E d m (f :: fs) fun x y => g x = g y ∧ R x y
theorem run_eqFs {E : Enc α} {d m : Nat} {fs : List Field} {R : α → α → Prop} (h : EqFs P E d m fs R) (x y : α) : ∃ b : Bool, (b = true ↔ R x y) ∧ (Op.eqFields (d + m) (E.f x).toArray (E.f y).toArray fs).run P w = .ok b w := by
  induction h with
  | nil => exact ⟨true, by simp, rfl⟩
  | cons hn hf ht he _ ih =>
    obtain ⟨b1, h1, h2⟩ := ih
    obtain ⟨b2, h3, h4⟩ := he d w _ _
    exact ⟨b2 && b1, by rw [Bool.and_eq_true, h1, h3], run_eqF_cons hn (run_partF ht hf) (run_partF ht hf) h4 h2⟩
theorem eqD_struct {E : Enc α} {t m : Nat} {R : α → α → Prop} (fs : List Field) (ht : P.underlying t = some (.struct fs.toArray)) (hp : P.stoodInHeld t = false) (ha : E.agg = true) (h : ∀ d, EqFs P E d m fs R) (hR : ∀ x y, R x y ↔ x = y) : EqD P t E (m + 1) := fun d w x y => by
  have e1 : P.fieldsOf t = fs.toArray := by simp [Program.fieldsOf, ht]
  obtain ⟨b, h1, h2⟩ := run_eqFs (w := w) (h d) x y
  refine ⟨b, h1.trans (hR x y), ?_⟩
  rw [E.vagg x ha, E.vagg y ha, show d + (m + 1) = d + m + 1 from rfl, run_equalIn_struct w (d + m) t _ _ (by rw [e1]; exact ht) hp, e1]
  exact h2
theorem eqD_B {t : Nat} (h : P.underlying t = some .bool) : EqD P t EB 1 := fun d w x y => ⟨x == y, by simp, run_equalIn_bool w d t x y h⟩
theorem bytes_ext {x y : ByteArray} (h : x.toList = y.toList) : x = y := by
  rw [ByteArray.toList_eq, ByteArray.toList_eq] at h
  obtain ⟨⟨x⟩⟩ := x
  obtain ⟨⟨y⟩⟩ := y
  simp at h
  rw [h]
theorem eqD_S {t : Nat} (h : P.underlying t = some .string) : EqD P t ES 1 := fun d w x y => ⟨x.toList == y.toList, ⟨fun h => bytes_ext (eq_of_beq h), fun h => by rw [h]; exact beq_self_eq_true _⟩, run_equalIn_string w d t x y h⟩
instance (a b : Id) : Decidable (a = b) := decidable_of_iff (a.l = b.l) ⟨Id.ext', fun h => by rw [h]⟩
/-! ### Structs that are built -/
theorem mapM_get {γ δ : Type} {f : γ → Option δ} : ∀ {l : List γ} {r : List δ}, l.mapM f = some r → ∀ (i : Nat) (x : γ), l[i]? = some x → ∃ y, f x = some y ∧ r[i]? = some y
  | [], r, h, i, x, hx => by simp at hx
  | a :: l, r, h, i, x, hx => by
    simp only [List.mapM_cons, Option.bind_eq_bind, Option.pure_def, Option.bind_eq_some_iff] at h
    obtain ⟨b, hb, bs, hbs, he⟩ := h
    simp only [Option.some.injEq] at he
    subst he
    cases i with
    | zero => simp at hx; subst hx; exact ⟨b, hb, by simp⟩
    | succ i => simpa using mapM_get hbs i x (by simpa using hx)
def stT (P : Program) (t : TypeId) : Bool := match P.underlying t with
  | some (.struct fields) => (P.info? t).isSome && (fields.toList.mapM (fun f => (P.info? f.type).map fun i => (f.offset, i.size))).isSome
  | _ => false
class StT (P : Program) (t : Nat) {α : outParam Type} (E : outParam (Enc α)) (z : outParam α) : Prop where
  h : stT P t = true
  hz : zeroT P t = some (E.val z)
  agg : E.agg = true
class Fp (P : Program) (t i : Nat) (off : outParam Nat) {β : outParam Type} (E2 : outParam (Enc β)) : Prop where
  h : fieldT P t i off E2.k = true
inductive Bl (P : Program) (t : Nat) (E : Enc α) : α → List (Nat × Value) → α → Prop
  | nil {z x : α} (h : z = x := by rfl) : Bl P t E z [] x
  | cons {z x : α} {i off : Nat} {β : Type} {E2 : Enc β} {g : α → β} {u : α → β → α} {v : Value} {rest : List (Nat × Value)} [hp : Fp P t i off E2] [hf : Fl E off E2 g u] (y : β) (hv : E2.val y = v) (h : Bl P t E (u z y) rest x) : Bl P t E z ((i, v) :: rest) x
theorem Bl.fill {E : Enc α} {t : Nat} {z x : α} {parts : List (Nat × Value)} (h : Bl P t E z parts x) {place : Nat → Option (Nat × Nat)} (hpl : ∀ i off n, fieldT P t i off n = true → place i = some (off, n)) : Instr.fill place (E.f z).toArray parts = some (E.f x).toArray := by
  induction h with
  | nil h => rw [h]; rfl
  | @cons z x i off β E2 g u v rest hp hf y hv _ ih =>
    subst hv
    obtain ⟨pre, post, hl, h1, h2⟩ := hf.h z
    have hc : (E2.val y).cells.size = E2.k := by rw [← Array.length_toList, E2.cells, E2.len]
    have hm : (E2.f (g z)).length = E2.k := E2.len _
    rw [fill_cons (hpl i off _ hp.h) hc (by rw [h1]; simp only [List.length_append, hm]; omega)]
    have e1 : (E.f z).take off ++ (E2.val y).cells.toList ++ (E.f z).drop (off + E2.k) = E.f (u z y) := by
      rw [h1, h2, E2.cells]
      subst hl
      rw [← List.drop_drop, List.take_left, List.drop_left, ← hm, List.drop_left, List.append_assoc]
    rw [e1]
    exact ih
theorem Yd.build {E : Enc α} {t : Nat} {z x : α} {parts : List (Nat × Value)} [hs : StT P t E z] (h : Bl P t E z parts x) : Yd P L (Instr.build t parts.toArray) (E.val x) := .of fun w => by
  have h1 := hs.h
  have hz := hs.hz
  rw [E.vagg x hs.agg]
  refine run_build w t _ _ ?_
  unfold stT at h1
  unfold zeroT at hz
  split at h1
  · rename_i fields hu
    simp only [Bool.and_eq_true, Option.isSome_iff_exists] at h1
    obtain ⟨⟨it, hit⟩, places, hp⟩ := h1
    rw [hit] at hz
    simp only [Option.bind_some] at hz
    unfold Program.built
    simp only [hit, hu, hz, hp]
    have e1 : (E.val z).cells = (E.f z).toArray := by rw [← E.cells]
    rw [e1]
    refine h.fill fun i off n hf => ?_
    unfold fieldT at hf
    rw [hu] at hf
    simp only at hf
    split at hf
    · rename_i fx hx
      simp only [Bool.and_eq_true] at hf
      have h3 := hf.2
      split at h3
      · rename_i ii hii
        obtain ⟨y, hy1, hy2⟩ := mapM_get hp i fx (by simpa using hx)
        rw [hii] at hy1
        simp only [Option.map_some, Option.some.injEq] at hy1
        rw [Nat.eq_of_beq_eq_true hf.1, Nat.eq_of_beq_eq_true h3] at hy1
        rw [hy1]
        simpa using hy2
      · cases h3
    · cases hf
  · cases h1
/-- The zero value. -/
theorem Yd.build0 {E : Enc α} {t : Nat} {z : α} [hs : StT P t E z] : Yd P L (Instr.build t #[]) (E.val z) := Yd.build (parts := []) .nil
def id0 : Id := ⟨List.replicate 32 0, by simp, fun x hx => by rw [List.eq_of_mem_replicate hx]; decide⟩
def sv0 : SV := ⟨NoSl, rfl, rfl⟩
def svp : SV := ⟨.pointer none, rfl, rfl⟩
def svm : SV := ⟨.map none, rfl, rfl⟩
theorem Yd.cellS {t b o : Nat} {v : Value} (h : Yd P L (Instr.loadAt t (A b o)) v) : Yd P L (cellS t (A b o)) v := fun w hs => by
  have e : (asAddr (A b o)).run P w = .ok ⟨b, o, none⟩ w := rfl
  unfold Go.Px.cellS
  rw [Sem.run_bind, e]
  exact h w hs
/-- A new struct, by its zero value. -/
theorem st_new {E : Enc α} {t : Nat} {z : α} [h : StT P t E z] (hs : St L w) (hk : ∀ b w, St (box b t (E.f z) :: L) w → K (A b 0) w) : Do P (Instr.alloc t true (.tuple #[])) K w :=
  st_alloc _ hs (fun b w hs => hk b w (by rw [← E.cells]; exact hs)) h.hz
/-- A struct that is boxed. -/
theorem st_boxE {E : Enc α} {t : Nat} {x : α} (hs : St L w) (hk : ∀ b w, St (box b t (E.f x) :: L) w → K (A b 0) w) : Do P (Instr.box t (E.val x)) K w :=
  st_box hs (fun b w hs => hk b w (by rw [← E.cells]; exact hs))
end Go.Px
end
section
set_option linter.unusedVariables false
set_option linter.unusedSimpArgs false
namespace Go.Px
open Go Go.Proofs
def cvTryd : List TypeId := [22]
theorem mixedTryd : Tryd.prog.follows .mixedOrders = true := by kernel_rfl
end Go.Px
end
section
set_option linter.unusedVariables false
set_option linter.unusedSimpArgs false
set_option linter.unusedVariables false
set_option maxRecDepth 20000
namespace Go.Px
open Go Go.Proofs
instance : One Tryd.prog 1 := ⟨by kernel_rfl⟩
instance : One Tryd.prog 2 := ⟨by kernel_rfl⟩
instance : IntT Tryd.prog 2 .i64 := ⟨by kernel_rfl⟩
instance : Ty Tryd.prog 2 EI := ⟨by kernel_rfl⟩
instance : One Tryd.prog 3 := ⟨by kernel_rfl⟩
instance : IntT Tryd.prog 3 .i64 := ⟨by kernel_rfl⟩
instance : Ty Tryd.prog 3 EI := ⟨by kernel_rfl⟩
instance : One Tryd.prog 4 := ⟨by kernel_rfl⟩
instance : Ty Tryd.prog 4 EB := ⟨by kernel_rfl⟩
instance : One Tryd.prog 5 := ⟨by kernel_rfl⟩
instance : IntT Tryd.prog 5 .u8 := ⟨by kernel_rfl⟩
instance : Ty Tryd.prog 5 EY := ⟨by kernel_rfl⟩
instance : One Tryd.prog 6 := ⟨by kernel_rfl⟩
instance : IntT Tryd.prog 6 .u8 := ⟨by kernel_rfl⟩
instance : Ty Tryd.prog 6 EY := ⟨by kernel_rfl⟩
instance : One Tryd.prog 9 := ⟨by kernel_rfl⟩
instance : Ty Tryd.prog 9 ES := ⟨by kernel_rfl⟩
instance : One Tryd.prog 10 := ⟨by kernel_rfl⟩
instance : Ty Tryd.prog 10 ES := ⟨by kernel_rfl⟩
instance : One Tryd.prog 11 := ⟨by kernel_rfl⟩
instance : Ty Tryd.prog 11 ES := ⟨by kernel_rfl⟩
instance : One Tryd.prog 12 := ⟨by kernel_rfl⟩
instance : IntT Tryd.prog 12 .u64 := ⟨by kernel_rfl⟩
instance : Ty Tryd.prog 12 EW := ⟨by kernel_rfl⟩
instance : One Tryd.prog 15 := ⟨by kernel_rfl⟩
instance : Ty Tryd.prog 15 ESV := ⟨by kernel_rfl⟩
instance : One Tryd.prog 16 := ⟨by kernel_rfl⟩
instance : Ty Tryd.prog 16 ESV := ⟨by kernel_rfl⟩
instance : One Tryd.prog 17 := ⟨by kernel_rfl⟩
instance : Ty Tryd.prog 17 ESV := ⟨by kernel_rfl⟩
instance : One Tryd.prog 20 := ⟨by kernel_rfl⟩
instance : One Tryd.prog 21 := ⟨by kernel_rfl⟩
instance : IntT Tryd.prog 21 .i32 := ⟨by kernel_rfl⟩
instance : Ty Tryd.prog 21 EI32 := ⟨by kernel_rfl⟩
instance : One Tryd.prog 22 := ⟨by kernel_rfl⟩
instance : Ty Tryd.prog 22 ESV := ⟨by kernel_rfl⟩
instance : One Tryd.prog 23 := ⟨by kernel_rfl⟩
instance : IntT Tryd.prog 23 .u64 := ⟨by kernel_rfl⟩
instance : Ty Tryd.prog 23 EW := ⟨by kernel_rfl⟩
instance : One Tryd.prog 24 := ⟨by kernel_rfl⟩
instance : One Tryd.prog 25 := ⟨by kernel_rfl⟩
instance : Ty Tryd.prog 25 ESV := ⟨by kernel_rfl⟩
instance : One Tryd.prog 26 := ⟨by kernel_rfl⟩
instance : ArrT Tryd.prog 27 32 1 := ⟨by kernel_rfl⟩
instance : EqT Tryd.prog 27 EId := (eqD_id (by kernel_rfl)).t (by decide)
instance : Ty Tryd.prog 27 EId := ⟨by kernel_rfl⟩
instance : ArrT Tryd.prog 28 32 1 := ⟨by kernel_rfl⟩
instance : EqT Tryd.prog 28 EId := (eqD_id (by kernel_rfl)).t (by decide)
instance : Ty Tryd.prog 28 EId := ⟨by kernel_rfl⟩
instance : One Tryd.prog 29 := ⟨by kernel_rfl⟩
instance : One Tryd.prog 30 := ⟨by kernel_rfl⟩
instance : One Tryd.prog 31 := ⟨by kernel_rfl⟩
instance : Ty Tryd.prog 31 ESV := ⟨by kernel_rfl⟩
instance : One Tryd.prog 35 := ⟨by kernel_rfl⟩
instance : One Tryd.prog 38 := ⟨by kernel_rfl⟩
instance : Ty Tryd.prog 38 ESV := ⟨by kernel_rfl⟩
instance : One Tryd.prog 39 := ⟨by kernel_rfl⟩
instance : One Tryd.prog 40 := ⟨by kernel_rfl⟩
instance : IntT Tryd.prog 40 .i64 := ⟨by kernel_rfl⟩
instance : Ty Tryd.prog 40 EI := ⟨by kernel_rfl⟩
instance : One Tryd.prog 42 := ⟨by kernel_rfl⟩
instance : One Tryd.prog 43 := ⟨by kernel_rfl⟩
instance : One Tryd.prog 44 := ⟨by kernel_rfl⟩
instance : One Tryd.prog 46 := ⟨by kernel_rfl⟩
instance : One Tryd.prog 47 := ⟨by kernel_rfl⟩
instance : One Tryd.prog 48 := ⟨by kernel_rfl⟩
instance : One Tryd.prog 49 := ⟨by kernel_rfl⟩
instance : Ty Tryd.prog 49 ESV := ⟨by kernel_rfl⟩
instance : One Tryd.prog 50 := ⟨by kernel_rfl⟩
instance : Ty Tryd.prog 50 ESV := ⟨by kernel_rfl⟩
instance : One Tryd.prog 55 := ⟨by kernel_rfl⟩
instance : One Tryd.prog 56 := ⟨by kernel_rfl⟩
instance : Ty Tryd.prog 56 ESV := ⟨by kernel_rfl⟩
instance : One Tryd.prog 58 := ⟨by kernel_rfl⟩
instance : One Tryd.prog 62 := ⟨by kernel_rfl⟩
instance : One Tryd.prog 63 := ⟨by kernel_rfl⟩
instance : One Tryd.prog 64 := ⟨by kernel_rfl⟩
instance : One Tryd.prog 65 := ⟨by kernel_rfl⟩
instance : Ty Tryd.prog 65 ESV := ⟨by kernel_rfl⟩
instance : One Tryd.prog 66 := ⟨by kernel_rfl⟩
instance : One Tryd.prog 68 := ⟨by kernel_rfl⟩
instance : One Tryd.prog 73 := ⟨by kernel_rfl⟩
instance : One Tryd.prog 75 := ⟨by kernel_rfl⟩
instance : One Tryd.prog 76 := ⟨by kernel_rfl⟩
instance : One Tryd.prog 77 := ⟨by kernel_rfl⟩
instance : Ty Tryd.prog 77 ESV := ⟨by kernel_rfl⟩
instance : One Tryd.prog 78 := ⟨by kernel_rfl⟩
instance : One Tryd.prog 79 := ⟨by kernel_rfl⟩
instance : Ty Tryd.prog 79 ESV := ⟨by kernel_rfl⟩
instance : One Tryd.prog 80 := ⟨by kernel_rfl⟩
instance : One Tryd.prog 82 := ⟨by kernel_rfl⟩
instance : One Tryd.prog 83 := ⟨by kernel_rfl⟩
instance : Ty Tryd.prog 83 ESV := ⟨by kernel_rfl⟩
instance : One Tryd.prog 86 := ⟨by kernel_rfl⟩
instance : One Tryd.prog 87 := ⟨by kernel_rfl⟩
instance : One Tryd.prog 88 := ⟨by kernel_rfl⟩
instance : One Tryd.prog 89 := ⟨by kernel_rfl⟩
instance : One Tryd.prog 90 := ⟨by kernel_rfl⟩
instance : One Tryd.prog 91 := ⟨by kernel_rfl⟩
instance : One Tryd.prog 92 := ⟨by kernel_rfl⟩
instance : One Tryd.prog 97 := ⟨by kernel_rfl⟩
instance : One Tryd.prog 98 := ⟨by kernel_rfl⟩
instance : One Tryd.prog 99 := ⟨by kernel_rfl⟩
instance : One Tryd.prog 100 := ⟨by kernel_rfl⟩
instance : One Tryd.prog 101 := ⟨by kernel_rfl⟩
instance : Ty Tryd.prog 101 ESV := ⟨by kernel_rfl⟩
instance : One Tryd.prog 102 := ⟨by kernel_rfl⟩
instance : One Tryd.prog 104 := ⟨by kernel_rfl⟩
instance : One Tryd.prog 105 := ⟨by kernel_rfl⟩
instance : One Tryd.prog 106 := ⟨by kernel_rfl⟩
instance : One Tryd.prog 107 := ⟨by kernel_rfl⟩
instance : One Tryd.prog 109 := ⟨by kernel_rfl⟩
instance : One Tryd.prog 110 := ⟨by kernel_rfl⟩
instance : IntT Tryd.prog 110 .u32 := ⟨by kernel_rfl⟩
instance : Ty Tryd.prog 110 EU := ⟨by kernel_rfl⟩
instance : ArrT Tryd.prog 111 8 1 := ⟨by kernel_rfl⟩
instance : ArrT Tryd.prog 112 64 1 := ⟨by kernel_rfl⟩
instance : One Tryd.prog 113 := ⟨by kernel_rfl⟩
instance : One Tryd.prog 114 := ⟨by kernel_rfl⟩
instance : One Tryd.prog 115 := ⟨by kernel_rfl⟩
instance : One Tryd.prog 116 := ⟨by kernel_rfl⟩
instance : One Tryd.prog 117 := ⟨by kernel_rfl⟩
instance : One Tryd.prog 118 := ⟨by kernel_rfl⟩
instance : Ty Tryd.prog 118 ESV := ⟨by kernel_rfl⟩
instance : One Tryd.prog 119 := ⟨by kernel_rfl⟩
instance : One Tryd.prog 120 := ⟨by kernel_rfl⟩
instance : One Tryd.prog 121 := ⟨by kernel_rfl⟩
instance : One Tryd.prog 122 := ⟨by kernel_rfl⟩
instance : One Tryd.prog 123 := ⟨by kernel_rfl⟩
instance : Ty Tryd.prog 123 ESV := ⟨by kernel_rfl⟩
instance : One Tryd.prog 124 := ⟨by kernel_rfl⟩
instance : One Tryd.prog 125 := ⟨by kernel_rfl⟩
instance : One Tryd.prog 126 := ⟨by kernel_rfl⟩
instance : One Tryd.prog 127 := ⟨by kernel_rfl⟩
instance : One Tryd.prog 128 := ⟨by kernel_rfl⟩
instance : One Tryd.prog 129 := ⟨by kernel_rfl⟩
instance : One Tryd.prog 130 := ⟨by kernel_rfl⟩
instance : One Tryd.prog 131 := ⟨by kernel_rfl⟩
instance : One Tryd.prog 132 := ⟨by kernel_rfl⟩
instance : One Tryd.prog 133 := ⟨by kernel_rfl⟩
instance : One Tryd.prog 134 := ⟨by kernel_rfl⟩
instance : One Tryd.prog 135 := ⟨by kernel_rfl⟩
instance : One Tryd.prog 136 := ⟨by kernel_rfl⟩
instance : One Tryd.prog 137 := ⟨by kernel_rfl⟩
instance : One Tryd.prog 138 := ⟨by kernel_rfl⟩
instance : One Tryd.prog 139 := ⟨by kernel_rfl⟩
instance : One Tryd.prog 140 := ⟨by kernel_rfl⟩
instance : One Tryd.prog 141 := ⟨by kernel_rfl⟩
instance : One Tryd.prog 142 := ⟨by kernel_rfl⟩
instance : One Tryd.prog 143 := ⟨by kernel_rfl⟩
instance : IntT Tryd.prog 143 .u64 := ⟨by kernel_rfl⟩
instance : Ty Tryd.prog 143 EW := ⟨by kernel_rfl⟩
instance : One Tryd.prog 144 := ⟨by kernel_rfl⟩
instance : One Tryd.prog 145 := ⟨by kernel_rfl⟩
instance : One Tryd.prog 146 := ⟨by kernel_rfl⟩
instance : ArrT Tryd.prog 147 16 1 := ⟨by kernel_rfl⟩
instance : ArrT Tryd.prog 148 16 1 := ⟨by kernel_rfl⟩
instance : One Tryd.prog 149 := ⟨by kernel_rfl⟩
instance : One Tryd.prog 150 := ⟨by kernel_rfl⟩
instance : One Tryd.prog 151 := ⟨by kernel_rfl⟩
instance : One Tryd.prog 152 := ⟨by kernel_rfl⟩
instance : One Tryd.prog 153 := ⟨by kernel_rfl⟩
instance : One Tryd.prog 154 := ⟨by kernel_rfl⟩
instance : IntT Tryd.prog 154 .i64 := ⟨by kernel_rfl⟩
instance : Ty Tryd.prog 154 EI := ⟨by kernel_rfl⟩
instance : One Tryd.prog 156 := ⟨by kernel_rfl⟩
instance : One Tryd.prog 157 := ⟨by kernel_rfl⟩
instance : One Tryd.prog 158 := ⟨by kernel_rfl⟩
instance : One Tryd.prog 159 := ⟨by kernel_rfl⟩
instance : One Tryd.prog 161 := ⟨by kernel_rfl⟩
instance : One Tryd.prog 162 := ⟨by kernel_rfl⟩
instance : One Tryd.prog 163 := ⟨by kernel_rfl⟩
instance : One Tryd.prog 164 := ⟨by kernel_rfl⟩
instance : One Tryd.prog 165 := ⟨by kernel_rfl⟩
instance : Ty Tryd.prog 165 ESV := ⟨by kernel_rfl⟩
instance : One Tryd.prog 166 := ⟨by kernel_rfl⟩
instance : IntT Tryd.prog 166 .u64 := ⟨by kernel_rfl⟩
instance : Ty Tryd.prog 166 EW := ⟨by kernel_rfl⟩
instance : One Tryd.prog 167 := ⟨by kernel_rfl⟩
instance : One Tryd.prog 168 := ⟨by kernel_rfl⟩
instance : One Tryd.prog 169 := ⟨by kernel_rfl⟩
instance : One Tryd.prog 170 := ⟨by kernel_rfl⟩
instance : Ty Tryd.prog 170 ESV := ⟨by kernel_rfl⟩
instance : One Tryd.prog 171 := ⟨by kernel_rfl⟩
instance : One Tryd.prog 172 := ⟨by kernel_rfl⟩
instance : One Tryd.prog 173 := ⟨by kernel_rfl⟩
instance : Ty Tryd.prog 173 ESV := ⟨by kernel_rfl⟩
instance : One Tryd.prog 174 := ⟨by kernel_rfl⟩
instance : One Tryd.prog 175 := ⟨by kernel_rfl⟩
instance : ArrT Tryd.prog 178 0 1 := ⟨by kernel_rfl⟩
instance : One Tryd.prog 181 := ⟨by kernel_rfl⟩
instance : IntT Tryd.prog 181 .u8 := ⟨by kernel_rfl⟩
instance : Ty Tryd.prog 181 EY := ⟨by kernel_rfl⟩
instance : One Tryd.prog 182 := ⟨by kernel_rfl⟩
instance : IntT Tryd.prog 182 .u8 := ⟨by kernel_rfl⟩
instance : Ty Tryd.prog 182 EY := ⟨by kernel_rfl⟩
instance : One Tryd.prog 183 := ⟨by kernel_rfl⟩
instance : One Tryd.prog 184 := ⟨by kernel_rfl⟩
instance : Ty Tryd.prog 184 ESV := ⟨by kernel_rfl⟩
instance : One Tryd.prog 185 := ⟨by kernel_rfl⟩
instance : IntT Tryd.prog 185 .i32 := ⟨by kernel_rfl⟩
instance : Ty Tryd.prog 185 EI32 := ⟨by kernel_rfl⟩
instance : One Tryd.prog 186 := ⟨by kernel_rfl⟩
instance : IntT Tryd.prog 186 .i32 := ⟨by kernel_rfl⟩
instance : Ty Tryd.prog 186 EI32 := ⟨by kernel_rfl⟩
instance : One Tryd.prog 189 := ⟨by kernel_rfl⟩
structure notes_Note where
  Kind : Int
  Pack : Id
  N : Nat
  Nonce : Nat
  Bytes : SV
  Way : SV
def notes_Note.cells (x : notes_Note) : List Value := EI.f x.Kind ++ (EId.f x.Pack ++ (EW.f x.N ++ (EW.f x.Nonce ++ (ESV.f x.Bytes ++ (ESV.f x.Way ++ [])))))
def Enotes_Note : Enc notes_Note := .ofA 37 notes_Note.cells (by decide) (fun x => by simp only [notes_Note.cells, List.length_append, Enc.len]; rfl) (fun x => by simp only [notes_Note.cells, List.all_append, Enc.one]; rfl)
instance : Ty Tryd.prog 33 Enotes_Note := ⟨by kernel_rfl⟩
instance : Fl Enotes_Note 0 EI notes_Note.Kind (fun x y => { x with Kind := y }) := ⟨fun x => ⟨[], EId.f x.Pack ++ (EW.f x.N ++ (EW.f x.Nonce ++ (ESV.f x.Bytes ++ (ESV.f x.Way ++ ([]))))), rfl, by simp only [Enotes_Note, Enc.ofA, notes_Note.cells, List.append_assoc, List.nil_append], fun y => by simp only [Enotes_Note, Enc.ofA, notes_Note.cells, List.append_assoc, List.nil_append]⟩⟩
instance : Fl Enotes_Note 1 EId notes_Note.Pack (fun x y => { x with Pack := y }) := ⟨fun x => ⟨EI.f x.Kind, EW.f x.N ++ (EW.f x.Nonce ++ (ESV.f x.Bytes ++ (ESV.f x.Way ++ ([])))), by simp only [List.length_append, Enc.len]; rfl, by simp only [Enotes_Note, Enc.ofA, notes_Note.cells, List.append_assoc, List.nil_append], fun y => by simp only [Enotes_Note, Enc.ofA, notes_Note.cells, List.append_assoc, List.nil_append]⟩⟩
instance : Fl Enotes_Note 33 EW notes_Note.N (fun x y => { x with N := y }) := ⟨fun x => ⟨EI.f x.Kind ++ EId.f x.Pack, EW.f x.Nonce ++ (ESV.f x.Bytes ++ (ESV.f x.Way ++ ([]))), by simp only [List.length_append, Enc.len]; rfl, by simp only [Enotes_Note, Enc.ofA, notes_Note.cells, List.append_assoc, List.nil_append], fun y => by simp only [Enotes_Note, Enc.ofA, notes_Note.cells, List.append_assoc, List.nil_append]⟩⟩
instance : Fl Enotes_Note 34 EW notes_Note.Nonce (fun x y => { x with Nonce := y }) := ⟨fun x => ⟨EI.f x.Kind ++ EId.f x.Pack ++ EW.f x.N, ESV.f x.Bytes ++ (ESV.f x.Way ++ ([])), by simp only [List.length_append, Enc.len]; rfl, by simp only [Enotes_Note, Enc.ofA, notes_Note.cells, List.append_assoc, List.nil_append], fun y => by simp only [Enotes_Note, Enc.ofA, notes_Note.cells, List.append_assoc, List.nil_append]⟩⟩
instance : Fl Enotes_Note 35 ESV notes_Note.Bytes (fun x y => { x with Bytes := y }) := ⟨fun x => ⟨EI.f x.Kind ++ EId.f x.Pack ++ EW.f x.N ++ EW.f x.Nonce, ESV.f x.Way ++ ([]), by simp only [List.length_append, Enc.len]; rfl, by simp only [Enotes_Note, Enc.ofA, notes_Note.cells, List.append_assoc, List.nil_append], fun y => by simp only [Enotes_Note, Enc.ofA, notes_Note.cells, List.append_assoc, List.nil_append]⟩⟩
instance : Fl Enotes_Note 36 ESV notes_Note.Way (fun x y => { x with Way := y }) := ⟨fun x => ⟨EI.f x.Kind ++ EId.f x.Pack ++ EW.f x.N ++ EW.f x.Nonce ++ ESV.f x.Bytes, [], by simp only [List.length_append, Enc.len]; rfl, by simp only [Enotes_Note, Enc.ofA, notes_Note.cells, List.append_assoc, List.nil_append], fun y => by simp only [Enotes_Note, Enc.ofA, notes_Note.cells, List.append_assoc, List.nil_append]⟩⟩
def znotes_Note : notes_Note := ⟨0, id0, 0, 0, sv0, sv0⟩
instance : StT Tryd.prog 33 Enotes_Note znotes_Note := ⟨by kernel_rfl, by kernel_rfl, rfl⟩
instance : Fp Tryd.prog 33 0 0 EI := ⟨by kernel_rfl⟩
instance : Fp Tryd.prog 33 1 1 EId := ⟨by kernel_rfl⟩
instance : Fp Tryd.prog 33 2 33 EW := ⟨by kernel_rfl⟩
instance : Fp Tryd.prog 33 3 34 EW := ⟨by kernel_rfl⟩
instance : Fp Tryd.prog 33 4 35 ESV := ⟨by kernel_rfl⟩
instance : Fp Tryd.prog 33 5 36 ESV := ⟨by kernel_rfl⟩
structure audit_Target where
  Who : Int
  Pack : Id
  Leaves : Int
def audit_Target.cells (x : audit_Target) : List Value := EI.f x.Who ++ (EId.f x.Pack ++ (EI.f x.Leaves ++ []))
def Eaudit_Target : Enc audit_Target := .ofA 34 audit_Target.cells (by decide) (fun x => by simp only [audit_Target.cells, List.length_append, Enc.len]; rfl) (fun x => by simp only [audit_Target.cells, List.all_append, Enc.one]; rfl)
instance : Ty Tryd.prog 37 Eaudit_Target := ⟨by kernel_rfl⟩
instance : Fl Eaudit_Target 0 EI audit_Target.Who (fun x y => { x with Who := y }) := ⟨fun x => ⟨[], EId.f x.Pack ++ (EI.f x.Leaves ++ ([])), rfl, by simp only [Eaudit_Target, Enc.ofA, audit_Target.cells, List.append_assoc, List.nil_append], fun y => by simp only [Eaudit_Target, Enc.ofA, audit_Target.cells, List.append_assoc, List.nil_append]⟩⟩
instance : Fl Eaudit_Target 1 EId audit_Target.Pack (fun x y => { x with Pack := y }) := ⟨fun x => ⟨EI.f x.Who, EI.f x.Leaves ++ ([]), by simp only [List.length_append, Enc.len]; rfl, by simp only [Eaudit_Target, Enc.ofA, audit_Target.cells, List.append_assoc, List.nil_append], fun y => by simp only [Eaudit_Target, Enc.ofA, audit_Target.cells, List.append_assoc, List.nil_append]⟩⟩
instance : Fl Eaudit_Target 33 EI audit_Target.Leaves (fun x y => { x with Leaves := y }) := ⟨fun x => ⟨EI.f x.Who ++ EId.f x.Pack, [], by simp only [List.length_append, Enc.len]; rfl, by simp only [Eaudit_Target, Enc.ofA, audit_Target.cells, List.append_assoc, List.nil_append], fun y => by simp only [Eaudit_Target, Enc.ofA, audit_Target.cells, List.append_assoc, List.nil_append]⟩⟩
def zaudit_Target : audit_Target := ⟨0, id0, 0⟩
instance : StT Tryd.prog 37 Eaudit_Target zaudit_Target := ⟨by kernel_rfl, by kernel_rfl, rfl⟩
instance : Fp Tryd.prog 37 0 0 EI := ⟨by kernel_rfl⟩
instance : Fp Tryd.prog 37 1 1 EId := ⟨by kernel_rfl⟩
instance : Fp Tryd.prog 37 2 33 EI := ⟨by kernel_rfl⟩
theorem eqD_audit_Target : EqD Tryd.prog 37 Eaudit_Target 3 := eqD_struct [⟨ "Who", 3, 0, false, "", "", 0⟩, ⟨ "Pack", 28, 1, false, "", "", 8⟩, ⟨ "Leaves", 3, 33, false, "", "", 40⟩] (by kernel_rfl) (by kernel_rfl) rfl (fun d => .cons (by decide) (inferInstance : Fl Eaudit_Target 0 EI audit_Target.Who _) (by kernel_rfl) ((eqD_I (by kernel_rfl)).up (by decide)) (.cons (by decide) (inferInstance : Fl Eaudit_Target 1 EId audit_Target.Pack _) (by kernel_rfl) ((eqD_id (by kernel_rfl)).up (by decide)) (.cons (by decide) (inferInstance : Fl Eaudit_Target 33 EI audit_Target.Leaves _) (by kernel_rfl) ((eqD_I (by kernel_rfl)).up (by decide)) (.nil)))) (fun x y => by cases x; cases y; simp)
instance : EqT Tryd.prog 37 Eaudit_Target := eqD_audit_Target.t (by decide)
instance (x y : audit_Target) : Decidable (x = y) := decidable_of_iff (x.Who = y.Who ∧ x.Pack = y.Pack ∧ x.Leaves = y.Leaves) (by cases x; cases y; simp)
structure ref24_A where
  Drawn : Nat
  L : SV
def ref24_A.cells (x : ref24_A) : List Value := EW.f x.Drawn ++ (ESV.f x.L ++ [])
def Eref24_A : Enc ref24_A := .ofA 2 ref24_A.cells (by decide) (fun x => by simp only [ref24_A.cells, List.length_append, Enc.len]; rfl) (fun x => by simp only [ref24_A.cells, List.all_append, Enc.one]; rfl)
instance : Ty Tryd.prog 52 Eref24_A := ⟨by kernel_rfl⟩
instance : Fl Eref24_A 0 EW ref24_A.Drawn (fun x y => { x with Drawn := y }) := ⟨fun x => ⟨[], ESV.f x.L ++ ([]), rfl, by simp only [Eref24_A, Enc.ofA, ref24_A.cells, List.append_assoc, List.nil_append], fun y => by simp only [Eref24_A, Enc.ofA, ref24_A.cells, List.append_assoc, List.nil_append]⟩⟩
instance : Fl Eref24_A 1 ESV ref24_A.L (fun x y => { x with L := y }) := ⟨fun x => ⟨EW.f x.Drawn, [], by simp only [List.length_append, Enc.len]; rfl, by simp only [Eref24_A, Enc.ofA, ref24_A.cells, List.append_assoc, List.nil_append], fun y => by simp only [Eref24_A, Enc.ofA, ref24_A.cells, List.append_assoc, List.nil_append]⟩⟩
def zref24_A : ref24_A := ⟨0, sv0⟩
instance : StT Tryd.prog 52 Eref24_A zref24_A := ⟨by kernel_rfl, by kernel_rfl, rfl⟩
instance : Fp Tryd.prog 52 0 0 EW := ⟨by kernel_rfl⟩
instance : Fp Tryd.prog 52 1 1 ESV := ⟨by kernel_rfl⟩
structure law24_Act where
  Kind : Int
  Who : Int
  Pack : Nat
  Lot : Nat
  Nonce : Nat
  Right : Bool
  Wait : Nat
  Skip : Nat
  Bytes : SV
def law24_Act.cells (x : law24_Act) : List Value := EI.f x.Kind ++ (EI.f x.Who ++ (EY.f x.Pack ++ (EW.f x.Lot ++ (EW.f x.Nonce ++ (EB.f x.Right ++ (EW.f x.Wait ++ (EY.f x.Skip ++ (ESV.f x.Bytes ++ []))))))))
def Elaw24_Act : Enc law24_Act := .ofA 9 law24_Act.cells (by decide) (fun x => by simp only [law24_Act.cells, List.length_append, Enc.len]; rfl) (fun x => by simp only [law24_Act.cells, List.all_append, Enc.one]; rfl)
instance : Ty Tryd.prog 54 Elaw24_Act := ⟨by kernel_rfl⟩
instance : Fl Elaw24_Act 0 EI law24_Act.Kind (fun x y => { x with Kind := y }) := ⟨fun x => ⟨[], EI.f x.Who ++ (EY.f x.Pack ++ (EW.f x.Lot ++ (EW.f x.Nonce ++ (EB.f x.Right ++ (EW.f x.Wait ++ (EY.f x.Skip ++ (ESV.f x.Bytes ++ ([])))))))), rfl, by simp only [Elaw24_Act, Enc.ofA, law24_Act.cells, List.append_assoc, List.nil_append], fun y => by simp only [Elaw24_Act, Enc.ofA, law24_Act.cells, List.append_assoc, List.nil_append]⟩⟩
instance : Fl Elaw24_Act 1 EI law24_Act.Who (fun x y => { x with Who := y }) := ⟨fun x => ⟨EI.f x.Kind, EY.f x.Pack ++ (EW.f x.Lot ++ (EW.f x.Nonce ++ (EB.f x.Right ++ (EW.f x.Wait ++ (EY.f x.Skip ++ (ESV.f x.Bytes ++ ([]))))))), by simp only [List.length_append, Enc.len]; rfl, by simp only [Elaw24_Act, Enc.ofA, law24_Act.cells, List.append_assoc, List.nil_append], fun y => by simp only [Elaw24_Act, Enc.ofA, law24_Act.cells, List.append_assoc, List.nil_append]⟩⟩
instance : Fl Elaw24_Act 2 EY law24_Act.Pack (fun x y => { x with Pack := y }) := ⟨fun x => ⟨EI.f x.Kind ++ EI.f x.Who, EW.f x.Lot ++ (EW.f x.Nonce ++ (EB.f x.Right ++ (EW.f x.Wait ++ (EY.f x.Skip ++ (ESV.f x.Bytes ++ ([])))))), by simp only [List.length_append, Enc.len]; rfl, by simp only [Elaw24_Act, Enc.ofA, law24_Act.cells, List.append_assoc, List.nil_append], fun y => by simp only [Elaw24_Act, Enc.ofA, law24_Act.cells, List.append_assoc, List.nil_append]⟩⟩
instance : Fl Elaw24_Act 3 EW law24_Act.Lot (fun x y => { x with Lot := y }) := ⟨fun x => ⟨EI.f x.Kind ++ EI.f x.Who ++ EY.f x.Pack, EW.f x.Nonce ++ (EB.f x.Right ++ (EW.f x.Wait ++ (EY.f x.Skip ++ (ESV.f x.Bytes ++ ([]))))), by simp only [List.length_append, Enc.len]; rfl, by simp only [Elaw24_Act, Enc.ofA, law24_Act.cells, List.append_assoc, List.nil_append], fun y => by simp only [Elaw24_Act, Enc.ofA, law24_Act.cells, List.append_assoc, List.nil_append]⟩⟩
instance : Fl Elaw24_Act 4 EW law24_Act.Nonce (fun x y => { x with Nonce := y }) := ⟨fun x => ⟨EI.f x.Kind ++ EI.f x.Who ++ EY.f x.Pack ++ EW.f x.Lot, EB.f x.Right ++ (EW.f x.Wait ++ (EY.f x.Skip ++ (ESV.f x.Bytes ++ ([])))), by simp only [List.length_append, Enc.len]; rfl, by simp only [Elaw24_Act, Enc.ofA, law24_Act.cells, List.append_assoc, List.nil_append], fun y => by simp only [Elaw24_Act, Enc.ofA, law24_Act.cells, List.append_assoc, List.nil_append]⟩⟩
instance : Fl Elaw24_Act 5 EB law24_Act.Right (fun x y => { x with Right := y }) := ⟨fun x => ⟨EI.f x.Kind ++ EI.f x.Who ++ EY.f x.Pack ++ EW.f x.Lot ++ EW.f x.Nonce, EW.f x.Wait ++ (EY.f x.Skip ++ (ESV.f x.Bytes ++ ([]))), by simp only [List.length_append, Enc.len]; rfl, by simp only [Elaw24_Act, Enc.ofA, law24_Act.cells, List.append_assoc, List.nil_append], fun y => by simp only [Elaw24_Act, Enc.ofA, law24_Act.cells, List.append_assoc, List.nil_append]⟩⟩
instance : Fl Elaw24_Act 6 EW law24_Act.Wait (fun x y => { x with Wait := y }) := ⟨fun x => ⟨EI.f x.Kind ++ EI.f x.Who ++ EY.f x.Pack ++ EW.f x.Lot ++ EW.f x.Nonce ++ EB.f x.Right, EY.f x.Skip ++ (ESV.f x.Bytes ++ ([])), by simp only [List.length_append, Enc.len]; rfl, by simp only [Elaw24_Act, Enc.ofA, law24_Act.cells, List.append_assoc, List.nil_append], fun y => by simp only [Elaw24_Act, Enc.ofA, law24_Act.cells, List.append_assoc, List.nil_append]⟩⟩
instance : Fl Elaw24_Act 7 EY law24_Act.Skip (fun x y => { x with Skip := y }) := ⟨fun x => ⟨EI.f x.Kind ++ EI.f x.Who ++ EY.f x.Pack ++ EW.f x.Lot ++ EW.f x.Nonce ++ EB.f x.Right ++ EW.f x.Wait, ESV.f x.Bytes ++ ([]), by simp only [List.length_append, Enc.len]; rfl, by simp only [Elaw24_Act, Enc.ofA, law24_Act.cells, List.append_assoc, List.nil_append], fun y => by simp only [Elaw24_Act, Enc.ofA, law24_Act.cells, List.append_assoc, List.nil_append]⟩⟩
instance : Fl Elaw24_Act 8 ESV law24_Act.Bytes (fun x y => { x with Bytes := y }) := ⟨fun x => ⟨EI.f x.Kind ++ EI.f x.Who ++ EY.f x.Pack ++ EW.f x.Lot ++ EW.f x.Nonce ++ EB.f x.Right ++ EW.f x.Wait ++ EY.f x.Skip, [], by simp only [List.length_append, Enc.len]; rfl, by simp only [Elaw24_Act, Enc.ofA, law24_Act.cells, List.append_assoc, List.nil_append], fun y => by simp only [Elaw24_Act, Enc.ofA, law24_Act.cells, List.append_assoc, List.nil_append]⟩⟩
def zlaw24_Act : law24_Act := ⟨0, 0, 0, 0, 0, false, 0, 0, sv0⟩
instance : StT Tryd.prog 54 Elaw24_Act zlaw24_Act := ⟨by kernel_rfl, by kernel_rfl, rfl⟩
instance : Fp Tryd.prog 54 0 0 EI := ⟨by kernel_rfl⟩
instance : Fp Tryd.prog 54 1 1 EI := ⟨by kernel_rfl⟩
instance : Fp Tryd.prog 54 2 2 EY := ⟨by kernel_rfl⟩
instance : Fp Tryd.prog 54 3 3 EW := ⟨by kernel_rfl⟩
instance : Fp Tryd.prog 54 4 4 EW := ⟨by kernel_rfl⟩
instance : Fp Tryd.prog 54 5 5 EB := ⟨by kernel_rfl⟩
instance : Fp Tryd.prog 54 6 6 EW := ⟨by kernel_rfl⟩
instance : Fp Tryd.prog 54 7 7 EY := ⟨by kernel_rfl⟩
instance : Fp Tryd.prog 54 8 8 ESV := ⟨by kernel_rfl⟩
structure ref20_N where
  Kind : Int
  Pack : Id
  N : Nat
  Nonce : Nat
  Bytes : ByteArray
  Way : SV
def ref20_N.cells (x : ref20_N) : List Value := EI.f x.Kind ++ (EId.f x.Pack ++ (EW.f x.N ++ (EW.f x.Nonce ++ (ES.f x.Bytes ++ (ESV.f x.Way ++ [])))))
def Eref20_N : Enc ref20_N := .ofA 37 ref20_N.cells (by decide) (fun x => by simp only [ref20_N.cells, List.length_append, Enc.len]; rfl) (fun x => by simp only [ref20_N.cells, List.all_append, Enc.one]; rfl)
instance : Ty Tryd.prog 60 Eref20_N := ⟨by kernel_rfl⟩
instance : Fl Eref20_N 0 EI ref20_N.Kind (fun x y => { x with Kind := y }) := ⟨fun x => ⟨[], EId.f x.Pack ++ (EW.f x.N ++ (EW.f x.Nonce ++ (ES.f x.Bytes ++ (ESV.f x.Way ++ ([]))))), rfl, by simp only [Eref20_N, Enc.ofA, ref20_N.cells, List.append_assoc, List.nil_append], fun y => by simp only [Eref20_N, Enc.ofA, ref20_N.cells, List.append_assoc, List.nil_append]⟩⟩
instance : Fl Eref20_N 1 EId ref20_N.Pack (fun x y => { x with Pack := y }) := ⟨fun x => ⟨EI.f x.Kind, EW.f x.N ++ (EW.f x.Nonce ++ (ES.f x.Bytes ++ (ESV.f x.Way ++ ([])))), by simp only [List.length_append, Enc.len]; rfl, by simp only [Eref20_N, Enc.ofA, ref20_N.cells, List.append_assoc, List.nil_append], fun y => by simp only [Eref20_N, Enc.ofA, ref20_N.cells, List.append_assoc, List.nil_append]⟩⟩
instance : Fl Eref20_N 33 EW ref20_N.N (fun x y => { x with N := y }) := ⟨fun x => ⟨EI.f x.Kind ++ EId.f x.Pack, EW.f x.Nonce ++ (ES.f x.Bytes ++ (ESV.f x.Way ++ ([]))), by simp only [List.length_append, Enc.len]; rfl, by simp only [Eref20_N, Enc.ofA, ref20_N.cells, List.append_assoc, List.nil_append], fun y => by simp only [Eref20_N, Enc.ofA, ref20_N.cells, List.append_assoc, List.nil_append]⟩⟩
instance : Fl Eref20_N 34 EW ref20_N.Nonce (fun x y => { x with Nonce := y }) := ⟨fun x => ⟨EI.f x.Kind ++ EId.f x.Pack ++ EW.f x.N, ES.f x.Bytes ++ (ESV.f x.Way ++ ([])), by simp only [List.length_append, Enc.len]; rfl, by simp only [Eref20_N, Enc.ofA, ref20_N.cells, List.append_assoc, List.nil_append], fun y => by simp only [Eref20_N, Enc.ofA, ref20_N.cells, List.append_assoc, List.nil_append]⟩⟩
instance : Fl Eref20_N 35 ES ref20_N.Bytes (fun x y => { x with Bytes := y }) := ⟨fun x => ⟨EI.f x.Kind ++ EId.f x.Pack ++ EW.f x.N ++ EW.f x.Nonce, ESV.f x.Way ++ ([]), by simp only [List.length_append, Enc.len]; rfl, by simp only [Eref20_N, Enc.ofA, ref20_N.cells, List.append_assoc, List.nil_append], fun y => by simp only [Eref20_N, Enc.ofA, ref20_N.cells, List.append_assoc, List.nil_append]⟩⟩
instance : Fl Eref20_N 36 ESV ref20_N.Way (fun x y => { x with Way := y }) := ⟨fun x => ⟨EI.f x.Kind ++ EId.f x.Pack ++ EW.f x.N ++ EW.f x.Nonce ++ ES.f x.Bytes, [], by simp only [List.length_append, Enc.len]; rfl, by simp only [Eref20_N, Enc.ofA, ref20_N.cells, List.append_assoc, List.nil_append], fun y => by simp only [Eref20_N, Enc.ofA, ref20_N.cells, List.append_assoc, List.nil_append]⟩⟩
def zref20_N : ref20_N := ⟨0, id0, 0, 0, ⟨#[]⟩, sv0⟩
instance : StT Tryd.prog 60 Eref20_N zref20_N := ⟨by kernel_rfl, by kernel_rfl, rfl⟩
instance : Fp Tryd.prog 60 0 0 EI := ⟨by kernel_rfl⟩
instance : Fp Tryd.prog 60 1 1 EId := ⟨by kernel_rfl⟩
instance : Fp Tryd.prog 60 2 33 EW := ⟨by kernel_rfl⟩
instance : Fp Tryd.prog 60 3 34 EW := ⟨by kernel_rfl⟩
instance : Fp Tryd.prog 60 4 35 ES := ⟨by kernel_rfl⟩
instance : Fp Tryd.prog 60 5 36 ESV := ⟨by kernel_rfl⟩
structure ref24_T where
  Who : Int
  Pack : Id
  Leaves : Int
def ref24_T.cells (x : ref24_T) : List Value := EI.f x.Who ++ (EId.f x.Pack ++ (EI.f x.Leaves ++ []))
def Eref24_T : Enc ref24_T := .ofA 34 ref24_T.cells (by decide) (fun x => by simp only [ref24_T.cells, List.length_append, Enc.len]; rfl) (fun x => by simp only [ref24_T.cells, List.all_append, Enc.one]; rfl)
instance : Ty Tryd.prog 69 Eref24_T := ⟨by kernel_rfl⟩
instance : Fl Eref24_T 0 EI ref24_T.Who (fun x y => { x with Who := y }) := ⟨fun x => ⟨[], EId.f x.Pack ++ (EI.f x.Leaves ++ ([])), rfl, by simp only [Eref24_T, Enc.ofA, ref24_T.cells, List.append_assoc, List.nil_append], fun y => by simp only [Eref24_T, Enc.ofA, ref24_T.cells, List.append_assoc, List.nil_append]⟩⟩
instance : Fl Eref24_T 1 EId ref24_T.Pack (fun x y => { x with Pack := y }) := ⟨fun x => ⟨EI.f x.Who, EI.f x.Leaves ++ ([]), by simp only [List.length_append, Enc.len]; rfl, by simp only [Eref24_T, Enc.ofA, ref24_T.cells, List.append_assoc, List.nil_append], fun y => by simp only [Eref24_T, Enc.ofA, ref24_T.cells, List.append_assoc, List.nil_append]⟩⟩
instance : Fl Eref24_T 33 EI ref24_T.Leaves (fun x y => { x with Leaves := y }) := ⟨fun x => ⟨EI.f x.Who ++ EId.f x.Pack, [], by simp only [List.length_append, Enc.len]; rfl, by simp only [Eref24_T, Enc.ofA, ref24_T.cells, List.append_assoc, List.nil_append], fun y => by simp only [Eref24_T, Enc.ofA, ref24_T.cells, List.append_assoc, List.nil_append]⟩⟩
def zref24_T : ref24_T := ⟨0, id0, 0⟩
instance : StT Tryd.prog 69 Eref24_T zref24_T := ⟨by kernel_rfl, by kernel_rfl, rfl⟩
instance : Fp Tryd.prog 69 0 0 EI := ⟨by kernel_rfl⟩
instance : Fp Tryd.prog 69 1 1 EId := ⟨by kernel_rfl⟩
instance : Fp Tryd.prog 69 2 33 EI := ⟨by kernel_rfl⟩
theorem eqD_ref24_T : EqD Tryd.prog 69 Eref24_T 3 := eqD_struct [⟨ "Who", 3, 0, false, "", "", 0⟩, ⟨ "Pack", 28, 1, false, "", "", 8⟩, ⟨ "Leaves", 3, 33, false, "", "", 40⟩] (by kernel_rfl) (by kernel_rfl) rfl (fun d => .cons (by decide) (inferInstance : Fl Eref24_T 0 EI ref24_T.Who _) (by kernel_rfl) ((eqD_I (by kernel_rfl)).up (by decide)) (.cons (by decide) (inferInstance : Fl Eref24_T 1 EId ref24_T.Pack _) (by kernel_rfl) ((eqD_id (by kernel_rfl)).up (by decide)) (.cons (by decide) (inferInstance : Fl Eref24_T 33 EI ref24_T.Leaves _) (by kernel_rfl) ((eqD_I (by kernel_rfl)).up (by decide)) (.nil)))) (fun x y => by cases x; cases y; simp)
instance : EqT Tryd.prog 69 Eref24_T := eqD_ref24_T.t (by decide)
instance (x y : ref24_T) : Decidable (x = y) := decidable_of_iff (x.Who = y.Who ∧ x.Pack = y.Pack ∧ x.Leaves = y.Leaves) (by cases x; cases y; simp)
structure ref24_Q where
  T : ref24_T
  Leaf : Int
  Nonce : Nat
  Since : Nat
def ref24_Q.cells (x : ref24_Q) : List Value := Eref24_T.f x.T ++ (EI.f x.Leaf ++ (EW.f x.Nonce ++ (EW.f x.Since ++ [])))
def Eref24_Q : Enc ref24_Q := .ofA 37 ref24_Q.cells (by decide) (fun x => by simp only [ref24_Q.cells, List.length_append, Enc.len]; rfl) (fun x => by simp only [ref24_Q.cells, List.all_append, Enc.one]; rfl)
instance : Ty Tryd.prog 71 Eref24_Q := ⟨by kernel_rfl⟩
instance : Fl Eref24_Q 0 Eref24_T ref24_Q.T (fun x y => { x with T := y }) := ⟨fun x => ⟨[], EI.f x.Leaf ++ (EW.f x.Nonce ++ (EW.f x.Since ++ ([]))), rfl, by simp only [Eref24_Q, Enc.ofA, ref24_Q.cells, List.append_assoc, List.nil_append], fun y => by simp only [Eref24_Q, Enc.ofA, ref24_Q.cells, List.append_assoc, List.nil_append]⟩⟩
instance : Fl Eref24_Q 34 EI ref24_Q.Leaf (fun x y => { x with Leaf := y }) := ⟨fun x => ⟨Eref24_T.f x.T, EW.f x.Nonce ++ (EW.f x.Since ++ ([])), by simp only [List.length_append, Enc.len]; rfl, by simp only [Eref24_Q, Enc.ofA, ref24_Q.cells, List.append_assoc, List.nil_append], fun y => by simp only [Eref24_Q, Enc.ofA, ref24_Q.cells, List.append_assoc, List.nil_append]⟩⟩
instance : Fl Eref24_Q 35 EW ref24_Q.Nonce (fun x y => { x with Nonce := y }) := ⟨fun x => ⟨Eref24_T.f x.T ++ EI.f x.Leaf, EW.f x.Since ++ ([]), by simp only [List.length_append, Enc.len]; rfl, by simp only [Eref24_Q, Enc.ofA, ref24_Q.cells, List.append_assoc, List.nil_append], fun y => by simp only [Eref24_Q, Enc.ofA, ref24_Q.cells, List.append_assoc, List.nil_append]⟩⟩
instance : Fl Eref24_Q 36 EW ref24_Q.Since (fun x y => { x with Since := y }) := ⟨fun x => ⟨Eref24_T.f x.T ++ EI.f x.Leaf ++ EW.f x.Nonce, [], by simp only [List.length_append, Enc.len]; rfl, by simp only [Eref24_Q, Enc.ofA, ref24_Q.cells, List.append_assoc, List.nil_append], fun y => by simp only [Eref24_Q, Enc.ofA, ref24_Q.cells, List.append_assoc, List.nil_append]⟩⟩
def zref24_Q : ref24_Q := ⟨zref24_T, 0, 0, 0⟩
instance : StT Tryd.prog 71 Eref24_Q zref24_Q := ⟨by kernel_rfl, by kernel_rfl, rfl⟩
instance : Fp Tryd.prog 71 0 0 Eref24_T := ⟨by kernel_rfl⟩
instance : Fp Tryd.prog 71 1 34 EI := ⟨by kernel_rfl⟩
instance : Fp Tryd.prog 71 2 35 EW := ⟨by kernel_rfl⟩
instance : Fp Tryd.prog 71 3 36 EW := ⟨by kernel_rfl⟩
theorem eqD_ref24_Q : EqD Tryd.prog 71 Eref24_Q 4 := eqD_struct [⟨ "T", 69, 0, false, "", "", 0⟩, ⟨ "Leaf", 3, 34, false, "", "", 48⟩, ⟨ "Nonce", 23, 35, false, "", "", 56⟩, ⟨ "Since", 23, 36, false, "", "", 64⟩] (by kernel_rfl) (by kernel_rfl) rfl (fun d => .cons (by decide) (inferInstance : Fl Eref24_Q 0 Eref24_T ref24_Q.T _) (by kernel_rfl) ((eqD_ref24_T).up (by decide)) (.cons (by decide) (inferInstance : Fl Eref24_Q 34 EI ref24_Q.Leaf _) (by kernel_rfl) ((eqD_I (by kernel_rfl)).up (by decide)) (.cons (by decide) (inferInstance : Fl Eref24_Q 35 EW ref24_Q.Nonce _) (by kernel_rfl) ((eqD_W (by kernel_rfl)).up (by decide)) (.cons (by decide) (inferInstance : Fl Eref24_Q 36 EW ref24_Q.Since _) (by kernel_rfl) ((eqD_W (by kernel_rfl)).up (by decide)) (.nil))))) (fun x y => by cases x; cases y; simp)
instance : EqT Tryd.prog 71 Eref24_Q := eqD_ref24_Q.t (by decide)
instance (x y : ref24_Q) : Decidable (x = y) := decidable_of_iff (x.T = y.T ∧ x.Leaf = y.Leaf ∧ x.Nonce = y.Nonce ∧ x.Since = y.Since) (by cases x; cases y; simp)
structure audit_Auditor where
  drawn : Nat
  l : SV
def audit_Auditor.cells (x : audit_Auditor) : List Value := EW.f x.drawn ++ (ESV.f x.l ++ [])
def Eaudit_Auditor : Enc audit_Auditor := .ofA 2 audit_Auditor.cells (by decide) (fun x => by simp only [audit_Auditor.cells, List.length_append, Enc.len]; rfl) (fun x => by simp only [audit_Auditor.cells, List.all_append, Enc.one]; rfl)
instance : Ty Tryd.prog 85 Eaudit_Auditor := ⟨by kernel_rfl⟩
instance : Fl Eaudit_Auditor 0 EW audit_Auditor.drawn (fun x y => { x with drawn := y }) := ⟨fun x => ⟨[], ESV.f x.l ++ ([]), rfl, by simp only [Eaudit_Auditor, Enc.ofA, audit_Auditor.cells, List.append_assoc, List.nil_append], fun y => by simp only [Eaudit_Auditor, Enc.ofA, audit_Auditor.cells, List.append_assoc, List.nil_append]⟩⟩
instance : Fl Eaudit_Auditor 1 ESV audit_Auditor.l (fun x y => { x with l := y }) := ⟨fun x => ⟨EW.f x.drawn, [], by simp only [List.length_append, Enc.len]; rfl, by simp only [Eaudit_Auditor, Enc.ofA, audit_Auditor.cells, List.append_assoc, List.nil_append], fun y => by simp only [Eaudit_Auditor, Enc.ofA, audit_Auditor.cells, List.append_assoc, List.nil_append]⟩⟩
def zaudit_Auditor : audit_Auditor := ⟨0, sv0⟩
instance : StT Tryd.prog 85 Eaudit_Auditor zaudit_Auditor := ⟨by kernel_rfl, by kernel_rfl, rfl⟩
instance : Fp Tryd.prog 85 0 0 EW := ⟨by kernel_rfl⟩
instance : Fp Tryd.prog 85 1 1 ESV := ⟨by kernel_rfl⟩
structure audit_about where
  who : Int
  pack : Id
  nonce : Nat
def audit_about.cells (x : audit_about) : List Value := EI.f x.who ++ (EId.f x.pack ++ (EW.f x.nonce ++ []))
def Eaudit_about : Enc audit_about := .ofA 34 audit_about.cells (by decide) (fun x => by simp only [audit_about.cells, List.length_append, Enc.len]; rfl) (fun x => by simp only [audit_about.cells, List.all_append, Enc.one]; rfl)
instance : Ty Tryd.prog 94 Eaudit_about := ⟨by kernel_rfl⟩
instance : Fl Eaudit_about 0 EI audit_about.who (fun x y => { x with who := y }) := ⟨fun x => ⟨[], EId.f x.pack ++ (EW.f x.nonce ++ ([])), rfl, by simp only [Eaudit_about, Enc.ofA, audit_about.cells, List.append_assoc, List.nil_append], fun y => by simp only [Eaudit_about, Enc.ofA, audit_about.cells, List.append_assoc, List.nil_append]⟩⟩
instance : Fl Eaudit_about 1 EId audit_about.pack (fun x y => { x with pack := y }) := ⟨fun x => ⟨EI.f x.who, EW.f x.nonce ++ ([]), by simp only [List.length_append, Enc.len]; rfl, by simp only [Eaudit_about, Enc.ofA, audit_about.cells, List.append_assoc, List.nil_append], fun y => by simp only [Eaudit_about, Enc.ofA, audit_about.cells, List.append_assoc, List.nil_append]⟩⟩
instance : Fl Eaudit_about 33 EW audit_about.nonce (fun x y => { x with nonce := y }) := ⟨fun x => ⟨EI.f x.who ++ EId.f x.pack, [], by simp only [List.length_append, Enc.len]; rfl, by simp only [Eaudit_about, Enc.ofA, audit_about.cells, List.append_assoc, List.nil_append], fun y => by simp only [Eaudit_about, Enc.ofA, audit_about.cells, List.append_assoc, List.nil_append]⟩⟩
def zaudit_about : audit_about := ⟨0, id0, 0⟩
instance : StT Tryd.prog 94 Eaudit_about zaudit_about := ⟨by kernel_rfl, by kernel_rfl, rfl⟩
instance : Fp Tryd.prog 94 0 0 EI := ⟨by kernel_rfl⟩
instance : Fp Tryd.prog 94 1 1 EId := ⟨by kernel_rfl⟩
instance : Fp Tryd.prog 94 2 33 EW := ⟨by kernel_rfl⟩
theorem eqD_audit_about : EqD Tryd.prog 94 Eaudit_about 3 := eqD_struct [⟨ "who", 3, 0, false, "", "bailee/audit", 0⟩, ⟨ "pack", 28, 1, false, "", "bailee/audit", 8⟩, ⟨ "nonce", 23, 33, false, "", "bailee/audit", 40⟩] (by kernel_rfl) (by kernel_rfl) rfl (fun d => .cons (by decide) (inferInstance : Fl Eaudit_about 0 EI audit_about.who _) (by kernel_rfl) ((eqD_I (by kernel_rfl)).up (by decide)) (.cons (by decide) (inferInstance : Fl Eaudit_about 1 EId audit_about.pack _) (by kernel_rfl) ((eqD_id (by kernel_rfl)).up (by decide)) (.cons (by decide) (inferInstance : Fl Eaudit_about 33 EW audit_about.nonce _) (by kernel_rfl) ((eqD_W (by kernel_rfl)).up (by decide)) (.nil)))) (fun x y => by cases x; cases y; simp)
instance : EqT Tryd.prog 94 Eaudit_about := eqD_audit_about.t (by decide)
instance (x y : audit_about) : Decidable (x = y) := decidable_of_iff (x.who = y.who ∧ x.pack = y.pack ∧ x.nonce = y.nonce) (by cases x; cases y; simp)
structure audit_question where
  about : audit_about
  leaf : Int
  leaves : Int
  since : Nat
def audit_question.cells (x : audit_question) : List Value := Eaudit_about.f x.about ++ (EI.f x.leaf ++ (EI.f x.leaves ++ (EW.f x.since ++ [])))
def Eaudit_question : Enc audit_question := .ofA 37 audit_question.cells (by decide) (fun x => by simp only [audit_question.cells, List.length_append, Enc.len]; rfl) (fun x => by simp only [audit_question.cells, List.all_append, Enc.one]; rfl)
instance : Ty Tryd.prog 96 Eaudit_question := ⟨by kernel_rfl⟩
instance : Fl Eaudit_question 0 Eaudit_about audit_question.about (fun x y => { x with about := y }) := ⟨fun x => ⟨[], EI.f x.leaf ++ (EI.f x.leaves ++ (EW.f x.since ++ ([]))), rfl, by simp only [Eaudit_question, Enc.ofA, audit_question.cells, List.append_assoc, List.nil_append], fun y => by simp only [Eaudit_question, Enc.ofA, audit_question.cells, List.append_assoc, List.nil_append]⟩⟩
instance : Fl Eaudit_question 34 EI audit_question.leaf (fun x y => { x with leaf := y }) := ⟨fun x => ⟨Eaudit_about.f x.about, EI.f x.leaves ++ (EW.f x.since ++ ([])), by simp only [List.length_append, Enc.len]; rfl, by simp only [Eaudit_question, Enc.ofA, audit_question.cells, List.append_assoc, List.nil_append], fun y => by simp only [Eaudit_question, Enc.ofA, audit_question.cells, List.append_assoc, List.nil_append]⟩⟩
instance : Fl Eaudit_question 35 EI audit_question.leaves (fun x y => { x with leaves := y }) := ⟨fun x => ⟨Eaudit_about.f x.about ++ EI.f x.leaf, EW.f x.since ++ ([]), by simp only [List.length_append, Enc.len]; rfl, by simp only [Eaudit_question, Enc.ofA, audit_question.cells, List.append_assoc, List.nil_append], fun y => by simp only [Eaudit_question, Enc.ofA, audit_question.cells, List.append_assoc, List.nil_append]⟩⟩
instance : Fl Eaudit_question 36 EW audit_question.since (fun x y => { x with since := y }) := ⟨fun x => ⟨Eaudit_about.f x.about ++ EI.f x.leaf ++ EI.f x.leaves, [], by simp only [List.length_append, Enc.len]; rfl, by simp only [Eaudit_question, Enc.ofA, audit_question.cells, List.append_assoc, List.nil_append], fun y => by simp only [Eaudit_question, Enc.ofA, audit_question.cells, List.append_assoc, List.nil_append]⟩⟩
def zaudit_question : audit_question := ⟨zaudit_about, 0, 0, 0⟩
instance : StT Tryd.prog 96 Eaudit_question zaudit_question := ⟨by kernel_rfl, by kernel_rfl, rfl⟩
instance : Fp Tryd.prog 96 0 0 Eaudit_about := ⟨by kernel_rfl⟩
instance : Fp Tryd.prog 96 1 34 EI := ⟨by kernel_rfl⟩
instance : Fp Tryd.prog 96 2 35 EI := ⟨by kernel_rfl⟩
instance : Fp Tryd.prog 96 3 36 EW := ⟨by kernel_rfl⟩
theorem eqD_audit_question : EqD Tryd.prog 96 Eaudit_question 4 := eqD_struct [⟨ "about", 94, 0, true, "", "bailee/audit", 0⟩, ⟨ "leaf", 3, 34, false, "", "bailee/audit", 48⟩, ⟨ "leaves", 3, 35, false, "", "bailee/audit", 56⟩, ⟨ "since", 23, 36, false, "", "bailee/audit", 64⟩] (by kernel_rfl) (by kernel_rfl) rfl (fun d => .cons (by decide) (inferInstance : Fl Eaudit_question 0 Eaudit_about audit_question.about _) (by kernel_rfl) ((eqD_audit_about).up (by decide)) (.cons (by decide) (inferInstance : Fl Eaudit_question 34 EI audit_question.leaf _) (by kernel_rfl) ((eqD_I (by kernel_rfl)).up (by decide)) (.cons (by decide) (inferInstance : Fl Eaudit_question 35 EI audit_question.leaves _) (by kernel_rfl) ((eqD_I (by kernel_rfl)).up (by decide)) (.cons (by decide) (inferInstance : Fl Eaudit_question 36 EW audit_question.since _) (by kernel_rfl) ((eqD_W (by kernel_rfl)).up (by decide)) (.nil))))) (fun x y => by cases x; cases y; simp)
instance : EqT Tryd.prog 96 Eaudit_question := eqD_audit_question.t (by decide)
instance (x y : audit_question) : Decidable (x = y) := decidable_of_iff (x.about = y.about ∧ x.leaf = y.leaf ∧ x.leaves = y.leaves ∧ x.since = y.since) (by cases x; cases y; simp)
instance : Fld Tryd.prog 33 0 0 1 := ⟨by kernel_rfl, by decide⟩
instance : Fld Tryd.prog 33 1 1 32 := ⟨by kernel_rfl, by decide⟩
instance : Fld Tryd.prog 33 2 33 1 := ⟨by kernel_rfl, by decide⟩
instance : Fld Tryd.prog 33 3 34 1 := ⟨by kernel_rfl, by decide⟩
instance : Fld Tryd.prog 33 4 35 1 := ⟨by kernel_rfl, by decide⟩
instance : Fld Tryd.prog 33 5 36 1 := ⟨by kernel_rfl, by decide⟩
instance : Fld Tryd.prog 37 0 0 1 := ⟨by kernel_rfl, by decide⟩
instance : Fld Tryd.prog 37 1 1 32 := ⟨by kernel_rfl, by decide⟩
instance : Fld Tryd.prog 37 2 33 1 := ⟨by kernel_rfl, by decide⟩
instance : Fld Tryd.prog 52 0 0 1 := ⟨by kernel_rfl, by decide⟩
instance : Fld Tryd.prog 52 1 1 1 := ⟨by kernel_rfl, by decide⟩
instance : Fld Tryd.prog 54 0 0 1 := ⟨by kernel_rfl, by decide⟩
instance : Fld Tryd.prog 54 1 1 1 := ⟨by kernel_rfl, by decide⟩
instance : Fld Tryd.prog 54 2 2 1 := ⟨by kernel_rfl, by decide⟩
instance : Fld Tryd.prog 54 3 3 1 := ⟨by kernel_rfl, by decide⟩
instance : Fld Tryd.prog 54 4 4 1 := ⟨by kernel_rfl, by decide⟩
instance : Fld Tryd.prog 54 5 5 1 := ⟨by kernel_rfl, by decide⟩
instance : Fld Tryd.prog 54 6 6 1 := ⟨by kernel_rfl, by decide⟩
instance : Fld Tryd.prog 54 7 7 1 := ⟨by kernel_rfl, by decide⟩
instance : Fld Tryd.prog 54 8 8 1 := ⟨by kernel_rfl, by decide⟩
instance : Fld Tryd.prog 60 0 0 1 := ⟨by kernel_rfl, by decide⟩
instance : Fld Tryd.prog 60 1 1 32 := ⟨by kernel_rfl, by decide⟩
instance : Fld Tryd.prog 60 2 33 1 := ⟨by kernel_rfl, by decide⟩
instance : Fld Tryd.prog 60 3 34 1 := ⟨by kernel_rfl, by decide⟩
instance : Fld Tryd.prog 60 4 35 1 := ⟨by kernel_rfl, by decide⟩
instance : Fld Tryd.prog 60 5 36 1 := ⟨by kernel_rfl, by decide⟩
instance : Fld Tryd.prog 69 0 0 1 := ⟨by kernel_rfl, by decide⟩
instance : Fld Tryd.prog 69 1 1 32 := ⟨by kernel_rfl, by decide⟩
instance : Fld Tryd.prog 69 2 33 1 := ⟨by kernel_rfl, by decide⟩
instance : Fld Tryd.prog 71 0 0 34 := ⟨by kernel_rfl, by decide⟩
instance : Fld Tryd.prog 71 1 34 1 := ⟨by kernel_rfl, by decide⟩
instance : Fld Tryd.prog 71 2 35 1 := ⟨by kernel_rfl, by decide⟩
instance : Fld Tryd.prog 71 3 36 1 := ⟨by kernel_rfl, by decide⟩
instance : Fld Tryd.prog 85 0 0 1 := ⟨by kernel_rfl, by decide⟩
instance : Fld Tryd.prog 85 1 1 1 := ⟨by kernel_rfl, by decide⟩
instance : Fld Tryd.prog 94 0 0 1 := ⟨by kernel_rfl, by decide⟩
instance : Fld Tryd.prog 94 1 1 32 := ⟨by kernel_rfl, by decide⟩
instance : Fld Tryd.prog 96 0 0 34 := ⟨by kernel_rfl, by decide⟩
instance : Fld Tryd.prog 96 1 34 1 := ⟨by kernel_rfl, by decide⟩
instance : Fld Tryd.prog 96 2 35 1 := ⟨by kernel_rfl, by decide⟩
instance : Fld Tryd.prog 96 3 36 1 := ⟨by kernel_rfl, by decide⟩
end Go.Px
end
section
set_option linter.unusedVariables false
set_option linter.unusedSimpArgs false
set_option linter.unusedVariables false
set_option maxRecDepth 20000
namespace Go.Px
open Go Go.Proofs
def F3_p1 (P : Program) (K : Value → World → Prop) (e6 : Env) (w : World) : Prop :=
  Do P (Instr.loadAt 28 (e6 9)) (fun v122 w => Do P (Instr.build 37 #[(0, (e6 2)), (1, v122), (2, (e6 10))]) (fun v124 w => Do P (Instr.buildSlice 38 1 #[(0, v124)]) (fun v125 w => CallN P (callS (fnv 12) #[(e6 8), v125, (e6 1), (Value.int .u64 0)]) (fun v127 w => Do P (Instr.extract v127 0) (fun v128 w => Do P (Instr.extract v127 1) (fun v129 w => Do P (Instr.extract v127 2) (fun v130 w => Do P (Instr.alloc 33 true (Value.tuple #[])) (fun v19 w => Do P (Instr.storeAt 33 v19 v129) (fun _ w => Do P (Instr.fieldAt 33 v19 3) (fun v131 w => Do P (Instr.loadAt 23 v131) (fun v132 w => Do P (Instr.fieldAt 33 (e6 17) 3) (fun v133 w => Do P (Instr.storeAt 23 v133 v132) (fun _ w => Do P (Instr.fieldAt 33 v19 2) (fun v134 w => Do P (Instr.loadAt 23 v134) (fun v135 w => Do P (binOp .add 23 v135 (Value.int .u64 1)) (fun v136 w => Do P (Instr.fieldAt 33 (e6 17) 2) (fun v137 w => Do P (Instr.storeAt 23 v137 v136) (fun _ w => Do P (Instr.loadAt 33 (e6 17)) (fun v140 w => CallN P (callS (fnv 15) #[(e6 8), (e6 2), v140]) (fun v141 w => Do P (eqS .eql 3 false true v141 (Value.int .i64 2)) (fun v142 w => Join (fun e7 w => CallN P (pickS (e7 143) (e7 146) (Value.bool false)) (fun v147 w => K v147 w) w) (fun k1 => Guard v142 true (CallN P (callS (fnv 13) #[(e6 8)]) (fun v145 w => Do P (eqS .eql 3 false true v145 (Value.int .i64 0)) (fun v146 w => k1 (upd (upd (upd (upd (upd (upd (upd (upd (upd (upd (upd (upd (upd (upd (upd (upd (upd (upd (upd (upd (upd (upd (upd (upd (upd (upd (upd (upd (upd (upd (upd e6 120 (e6 8)) 121 (e6 2)) 122 v122) 123 (e6 10)) 124 v124) 125 v125) 126 (e6 1)) 127 v127) 119 v127) 128 v128) 129 v129) 130 v130) 19 v19) 18 v128) 20 v130) 131 v131) 132 v132) 133 v133) 134 v134) 135 v135) 136 v136) 137 v137) 138 (e6 8)) 139 (e6 2)) 140 v140) 141 v141) 142 v142) 143 v142) 144 (e6 8)) 145 v145) 146 v146) w) w) w) (k1 (upd (upd (upd (upd (upd (upd (upd (upd (upd (upd (upd (upd (upd (upd (upd (upd (upd (upd (upd (upd (upd (upd (upd (upd (upd (upd (upd (upd (upd (upd (upd e6 120 (e6 8)) 121 (e6 2)) 122 v122) 123 (e6 10)) 124 v124) 125 v125) 126 (e6 1)) 127 v127) 119 v127) 128 v128) 129 v129) 130 v130) 19 v19) 18 v128) 20 v130) 131 v131) 132 v132) 133 v133) 134 v134) 135 v135) 136 v136) 137 v137) 138 (e6 8)) 139 (e6 2)) 140 v140) 141 v141) 142 v142) 143 v142) 144 undef) 145 undef) 146 undef) w))) w) w) w) w) w) w) w) w) w) w) w) w) w) w) w) w) w) w) w) w) w

def F3_p2 (P : Program) (K : Value → World → Prop) (j6 : Env → World → Prop) (e8 : Env) (w : World) : Prop :=
  CallN P (pickS (e8 107) (Value.bool true) (e8 110)) (fun v111 w => Join (fun e9 w => CallN P (pickS (e9 112) (Value.bool true) (e9 117)) (fun v118 w => Cond v118 (K (Value.bool false) w) (@Eq (List Nat) [] [] ∧ j6 (upd e9 118 v118) w)) w) (fun k3 => Guard v111 false (Do P (Instr.loadAt 33 (e8 17)) (fun v115 w => CallN P (callS (fnv 15) #[(e8 8), (e8 2), v115]) (fun v116 w => Do P (eqS .neq 3 false true v116 (Value.int .i64 0)) (fun v117 w => k3 (upd (upd (upd (upd (upd (upd (upd e8 111 v111) 112 v111) 113 (e8 8)) 114 (e8 2)) 115 v115) 116 v116) 117 v117) w) w) w) w) (k3 (upd (upd (upd (upd (upd (upd (upd e8 111 v111) 112 v111) 113 undef) 114 undef) 115 undef) 116 undef) 117 undef) w))) w

def F3_p3 (P : Program) (K : Value → World → Prop) (e5 : Env) (w : World) : Prop :=
  Do P (Instr.fieldAt 33 (e5 12) 3) (fun v99 w => Do P (Instr.loadAt 23 v99) (fun v100 w => Do P (Instr.fieldAt 33 (e5 17) 3) (fun v101 w => Do P (Instr.storeAt 23 v101 v100) (fun _ w => JoinC P (F3_p1 P K) (fun j6 => Do P (Instr.loadAt 33 (e5 17)) (fun v104 w => CallN P (callS (fnv 15) #[(e5 8), (e5 2), v104]) (fun v105 w => Do P (eqS .neq 3 false true v105 (Value.int .i64 1)) (fun v106 w => Join (F3_p2 P K j6) (fun k2 => Guard v106 false (CallN P (callS (fnv 13) #[(e5 8)]) (fun v109 w => Do P (eqS .neq 3 false true v109 (Value.int .i64 0)) (fun v110 w => k2 (upd (upd (upd (upd (upd (upd (upd (upd (upd (upd (upd (upd e5 99 v99) 100 v100) 101 v101) 102 (e5 8)) 103 (e5 2)) 104 v104) 105 v105) 106 v106) 107 v106) 108 (e5 8)) 109 v109) 110 v110) w) w) w) (k2 (upd (upd (upd (upd (upd (upd (upd (upd (upd (upd (upd (upd e5 99 v99) 100 v100) 101 v101) 102 (e5 8)) 103 (e5 2)) 104 v104) 105 v105) 106 v106) 107 v106) 108 undef) 109 undef) 110 undef) w))) w) w) w)) w) w) w) w

def F3_p4 (P : Program) (K : Value → World → Prop) (e4 : Env) (w : World) : Prop :=
  Do P (Instr.loadAt 28 (e4 9)) (fun v85 w => Do P (Instr.fieldAt 33 (e4 12) 2) (fun v86 w => Do P (Instr.loadAt 23 v86) (fun v87 w => Do P (Instr.fieldAt 33 (e4 12) 3) (fun v88 w => Do P (Instr.loadAt 23 v88) (fun v89 w => Do P (binOp .add 23 v89 (Value.int .u64 1)) (fun v90 w => Do P (Instr.build 33 #[(0, (Value.int .i64 7)), (1, v85), (2, v87), (3, v90), (4, (e4 14)), (5, (e4 15))]) (fun v93 w => Do P (Instr.alloc 33 true (Value.tuple #[])) (fun v17 w => Do P (Instr.storeAt 33 v17 v93) (fun _ w => JoinC P (F3_p3 P K) (fun j5 => Do P (Instr.loadAt 33 v17) (fun v96 w => CallN P (callS (fnv 15) #[(e4 8), (e4 2), v96]) (fun v97 w => Do P (eqS .neq 3 false true v97 (Value.int .i64 0)) (fun v98 w => Cond v98 (K (Value.bool false) w) (@Eq (List Nat) [] [] ∧ j5 (upd (upd (upd (upd (upd (upd (upd (upd (upd (upd (upd (upd (upd (upd (upd e4 85 v85) 86 v86) 87 v87) 88 v88) 89 v89) 90 v90) 91 (e4 14)) 92 (e4 15)) 93 v93) 17 v17) 94 (e4 8)) 95 (e4 2)) 96 v96) 97 v97) 98 v98) w)) w) w) w)) w) w) w) w) w) w) w) w) w

def F3_p5 (P : Program) (K : Value → World → Prop) (e3 : Env) (w : World) : Prop :=
  Do P (Instr.fieldAt 33 (e3 12) 2) (fun v76 w => Do P (Instr.loadAt 23 v76) (fun v77 w => Do P (convert 23 3 v77) (fun v78 w => CallN P (callS (fnv 14) #[(e3 0), v78]) (fun v79 w => Do P (Instr.extract v79 0) (fun v80 w => Do P (Instr.extract v79 1) (fun v81 w => Do P (Instr.extract v79 2) (fun v82 w => JoinC P (F3_p4 P K) (fun j4 => Do P (eqS .neq 40 false true v82 (Value.int .i64 0)) (fun v84 w => Cond v84 (K (Value.bool false) w) (@Eq (List Nat) [] [] ∧ j4 (upd (upd (upd (upd (upd (upd (upd (upd (upd (upd (upd (upd (upd (upd e3 75 (e3 0)) 76 v76) 77 v77) 78 v78) 79 v79) 74 v79) 80 v80) 81 v81) 82 v82) 14 v80) 15 v81) 16 v82) 83 v82) 84 v84) w)) w)) w) w) w) w) w) w) w

def F3_p6 (P : Program) (K : Value → World → Prop) (j3 : Env → World → Prop) (e12 : Env) (w : World) : Prop :=
  CallN P (pickS (e12 62) (Value.bool true) (e12 67)) (fun v68 w => Join (fun e13 w => CallN P (pickS (e13 69) (Value.bool true) (e13 72)) (fun v73 w => Cond v73 (K (Value.bool false) w) (@Eq (List Nat) [] [] ∧ j3 (upd e13 73 v73) w)) w) (fun k7 => Guard v68 false (CallN P (callS (fnv 13) #[(e12 8)]) (fun v71 w => Do P (eqS .neq 3 false true v71 (Value.int .i64 1)) (fun v72 w => k7 (upd (upd (upd (upd (upd e12 68 v68) 69 v68) 70 (e12 8)) 71 v71) 72 v72) w) w) w) (k7 (upd (upd (upd (upd (upd e12 68 v68) 69 v68) 70 undef) 71 undef) 72 undef) w))) w

def F3_p7 (P : Program) (K : Value → World → Prop) (j3 : Env → World → Prop) (e11 : Env) (w : World) : Prop :=
  CallN P (pickS (e11 56) (Value.bool true) (e11 60)) (fun v61 w => Join (F3_p6 P K j3) (fun k6 => Guard v61 false (Do P (Instr.fieldAt 33 (e11 12) 2) (fun v63 w => Do P (Instr.loadAt 23 v63) (fun v64 w => Do P (convert 3 23 (e11 10)) (fun v66 w => Do P (binOp .geq 23 v64 v66) (fun v67 w => k6 (upd (upd (upd (upd (upd (upd (upd e11 61 v61) 62 v61) 63 v63) 64 v64) 65 (e11 10)) 66 v66) 67 v67) w) w) w) w) w) (k6 (upd (upd (upd (upd (upd (upd (upd e11 61 v61) 62 v61) 63 undef) 64 undef) 65 undef) 66 undef) 67 undef) w))) w

def F3_p8 (P : Program) (K : Value → World → Prop) (j3 : Env → World → Prop) (e10 : Env) (w : World) : Prop :=
  CallN P (pickS (e10 51) (Value.bool true) (e10 54)) (fun v55 w => Join (F3_p7 P K j3) (fun k5 => Guard v55 false (Do P (Instr.fieldAt 33 (e10 12) 1) (fun v57 w => Do P (Instr.loadAt 28 v57) (fun v58 w => Do P (Instr.loadAt 28 (e10 9)) (fun v59 w => Do P (eqS .neq 28 false false v58 v59) (fun v60 w => k5 (upd (upd (upd (upd (upd (upd e10 55 v55) 56 v55) 57 v57) 58 v58) 59 v59) 60 v60) w) w) w) w) w) (k5 (upd (upd (upd (upd (upd (upd e10 55 v55) 56 v55) 57 undef) 58 undef) 59 undef) 60 undef) w))) w

def F3_p9 (P : Program) (K : Value → World → Prop) (e2 : Env) (w : World) : Prop :=
  CallN P (callS (fnv 9) #[]) (fun v32 w => CallN P (callS (fnv 10) #[(e2 0)]) (fun v34 w => Do P (Instr.alloc 28 true (Value.tuple #[])) (fun v9 w => Do P (Instr.storeAt 28 v9 v34) (fun _ w => CallN P (callS (fnv 11) #[(e2 0)]) (fun v36 w => Do P (Instr.loadAt 28 v9) (fun v40 w => Do P (Instr.build 37 #[(0, (e2 2)), (1, v40), (2, v36)]) (fun v42 w => Do P (Instr.buildSlice 38 1 #[(0, v42)]) (fun v43 w => CallN P (callS (fnv 12) #[v32, v43, (e2 1), (Value.int .u64 0)]) (fun v45 w => Do P (Instr.extract v45 0) (fun v46 w => Do P (Instr.extract v45 1) (fun v47 w => Do P (Instr.extract v45 2) (fun v48 w => Do P (Instr.alloc 33 true (Value.tuple #[])) (fun v12 w => Do P (Instr.storeAt 33 v12 v47) (fun _ w => JoinC P (F3_p5 P K) (fun j3 => Do P (Op.unary .not v48) (fun v50 w => Join (F3_p8 P K j3) (fun k4 => Guard v50 false (Do P (eqS .neq 3 false false v46 (e2 2)) (fun v54 w => k4 (upd (upd (upd (upd (upd (upd (upd (upd (upd (upd (upd (upd (upd (upd (upd (upd (upd (upd (upd (upd (upd (upd (upd (upd (upd (upd (upd (upd (upd e2 32 v32) 8 v32) 33 (e2 0)) 34 v34) 9 v9) 35 (e2 0)) 36 v36) 10 v36) 38 v32) 39 (e2 2)) 40 v40) 41 v36) 42 v42) 43 v43) 44 (e2 1)) 45 v45) 37 v45) 46 v46) 47 v47) 48 v48) 12 v12) 11 v46) 13 v48) 49 v48) 50 v50) 51 v50) 52 v46) 53 (e2 2)) 54 v54) w) w) (k4 (upd (upd (upd (upd (upd (upd (upd (upd (upd (upd (upd (upd (upd (upd (upd (upd (upd (upd (upd (upd (upd (upd (upd (upd (upd (upd (upd (upd (upd e2 32 v32) 8 v32) 33 (e2 0)) 34 v34) 9 v9) 35 (e2 0)) 36 v36) 10 v36) 38 v32) 39 (e2 2)) 40 v40) 41 v36) 42 v42) 43 v43) 44 (e2 1)) 45 v45) 37 v45) 46 v46) 47 v47) 48 v48) 12 v12) 11 v46) 13 v48) 49 v48) 50 v50) 51 v50) 52 undef) 53 undef) 54 undef) w))) w)) w) w) w) w) w) w) w) w) w) w) w) w) w) w

def F3_p10 (P : Program) (K : Value → World → Prop) (e1 : Env) (w : World) : Prop :=
  JoinC P (F3_p9 P K) (fun j2 => CallN P (builtin .len #[22] 3 #[false] #[(e1 0)]) (fun v25 w => Do P (eqS .eql 3 false true v25 (Value.int .i64 0)) (fun v26 w => Join (fun e14 w => CallN P (pickS (e14 27) (Value.bool true) (e14 30)) (fun v31 w => Cond v31 (K (Value.bool true) w) (@Eq (List Nat) [] [] ∧ j2 (upd e14 31 v31) w)) w) (fun k8 => Guard v26 false (CallN P (builtin .len #[22] 3 #[false] #[(e1 0)]) (fun v29 w => Do P (binOp .gtr 3 v29 (Value.int .i64 600)) (fun v30 w => k8 (upd (upd (upd (upd (upd (upd (upd e1 24 (e1 0)) 25 v25) 26 v26) 27 v26) 28 (e1 0)) 29 v29) 30 v30) w) w) w) (k8 (upd (upd (upd (upd (upd (upd (upd e1 24 (e1 0)) 25 v25) 26 v26) 27 v26) 28 undef) 29 undef) 30 undef) w))) w) w)

/-- bailee/baileelaw24.AuditHonest -/
def F3 (P : Program) (K : Value → World → Prop) (v0 v1 v2 : Value) (w : World) : Prop :=
  CallN P (callS (fnv 8) #[]) (fun v21 w => JoinC P (F3_p10 P K) (fun j1 => Do P (Op.unary .not v21) (fun v23 w => Cond v23 (K (Value.bool false) w) (@Eq (List Nat) [] [] ∧ j1 (upd (upd (upd (upd (upd (env0 [v0, v1, v2]) 6 (Value.bool false)) 21 v21) 7 v21) 22 v21) 23 v23) w)) w)) w

def H3 : Hints := [(4, false, false, [], .ch 0 [] (.ch 1 [] (.ch 2 [] (.ch 3 [] (.grp 3 false [(4, none), (5, none), (6, none)] (.ch 7 [] (.done))))))), (10, false, false, [], .ch 0 [] (.ch 1 [] (.ch 2 [] (.grp 2 false [(3, none), (4, none), (5, none)] (.ch 6 [] (.ch 7 [] (.grp 7 false [(8, none), (9, none), (10, none), (11, none)] (.ch 12 [] (.ch 13 [] (.grp 13 false [(14, none), (15, none), (16, none), (17, none), (18, none)] (.ch 19 [] (.ch 20 [] (.grp 20 false [(21, none), (22, none), (23, none)] (.ch 24 [] (.done))))))))))))))), (19, false, false, [], .ch 0 [] (.ch 1 [] (.ch 2 [] (.ch 3 [] (.ch 4 [] (.ch 5 [] (.grp 5 false [(6, none), (7, none), (8, none)] (.ch 9 [] (.ch 10 [] (.grp 10 false [(11, none), (12, none), (13, none), (14, none), (15, none)] (.ch 16 [] (.done)))))))))))), (24, false, false, [], .ch 0 [] (.ch 1 [] (.ch 2 [] (.ch 3 [] (.ch 4 [] (.ch 5 [] (.grp 5 true [(6, none), (7, none), (8, none)] (.ch 9 [] (.ch 10 [] (.done))))))))))]

theorem F3_eq (K : Value → World → Prop) (v0 v1 v2 : Value) (w : World) : F3 Tryd.prog K v0 v1 v2 w = pt Tryd.prog H3 none Tryd.f3.ntmps (bodyOf Tryd.f3) (RetQ Tryd.prog Tryd.f3.results K) (env0 [v0, v1, v2]) [] w := by kernel_rfl

theorem F3_ok : codeOk cvTryd H3 (bodyOf Tryd.f3) = true := by kernel_rfl

theorem F3_has : Tryd.f3.body.isSome = true ∧ Nat.ble 3 Tryd.f3.ntmps = true := ⟨by kernel_rfl, by kernel_rfl⟩

theorem F3_calls {K : Value → World → Prop} {v0 v1 v2 : Value} {w : World} (h : F3 Tryd.prog K v0 v1 v2 w) : Calls Tryd.prog 3 #[v0, v1, v2] w (Returns K) :=
  calls_of_eq (cv := cvTryd) (H := H3) (fn := Tryd.f3) (args := [v0, v1, v2]) mixedTryd Tryd.func3 F3_has F3_ok (F3_eq K v0 v1 v2 w) h

def F4_p1 (P : Program) (S1 : Nat → World → Prop) (K : Value → World → Prop) (e7 : Env) (w : World) : Prop :=
  RdSN P (S1 0) (pickS (e7 109) (e7 114) (Value.bool false)) (fun v115 => Join (fun e8 w => RdNowN P (pickS (e8 116) (e8 123) (Value.bool false)) w (fun v124 => K v124 w)) (fun k2 => Guard v115 true (RdS P (S1 0) (convert 22 9 (e7 21)) (fun v118 => RdS P (S1 0) (convert 22 9 (e7 22)) (fun v121 => CallN P (callS (fnv 17) #[v118]) (fun v119 w => (S1 0) w ∧ (CallN P (callS (fnv 17) #[v121]) (fun v122 w => (S1 0) w ∧ (RdNow P (eqS .eql 28 false false v119 v122) w (fun v123 => k2 (upd (upd (upd (upd (upd (upd (upd (upd (upd e7 115 v115) 116 v115) 117 (e7 21)) 118 v118) 120 (e7 22)) 121 v121) 119 v119) 122 v122) 123 v123) w))) w)) w))) (k2 (upd (upd (upd (upd (upd (upd (upd (upd (upd e7 115 v115) 116 v115) 117 undef) 118 undef) 120 undef) 121 undef) 119 undef) 122 undef) 123 undef) w)))

def F4_p2 (P : Program) (K : Value → World → Prop) (e6 : Env) (w : World) : Prop :=
  Do P (Instr.loadAt 28 (e6 13)) (fun v95 w => Do P (Instr.fieldAt 33 (e6 16) 2) (fun v97 w => Do P (Instr.loadAt 23 v97) (fun v98 w => Do P (convert 23 3 v98) (fun v99 w => CallN P (callS (fnv 16) #[v95, (e6 14), v99, (e6 18), (e6 19), (e6 2), (e6 3)]) (fun v104 w => Do P (Instr.extract v104 0) (fun v105 w => Do P (Instr.extract v104 1) (fun v106 w => Do P (Instr.extract v104 2) (fun v107 w => Drew (fun w => Draw (fun S1 w => Join (F4_p1 P S1 K) (fun k1 => Guard v107 true (RdS P (S1 0) (convert 22 9 v105) (fun v111 => RdS P (S1 0) (convert 22 9 v106) (fun v113 => RdS P (S1 0) (eqS .neq 9 false false v111 v113) (fun v114 => k1 (upd (upd (upd (upd (upd (upd (upd (upd (upd (upd (upd (upd (upd (upd (upd (upd (upd (upd (upd (upd (upd (upd (upd (upd e6 95 v95) 96 (e6 14)) 97 v97) 98 v98) 99 v99) 100 (e6 18)) 101 (e6 19)) 102 (e6 2)) 103 (e6 3)) 104 v104) 94 v104) 105 v105) 106 v106) 107 v107) 21 v105) 22 v106) 23 v107) 108 v107) 109 v107) 110 v105) 111 v111) 112 v106) 113 v113) 114 v114) w)))) (k1 (upd (upd (upd (upd (upd (upd (upd (upd (upd (upd (upd (upd (upd (upd (upd (upd (upd (upd (upd (upd (upd (upd (upd (upd e6 95 v95) 96 (e6 14)) 97 v97) 98 v98) 99 v99) 100 (e6 18)) 101 (e6 19)) 102 (e6 2)) 103 (e6 3)) 104 v104) 94 v104) 105 v105) 106 v106) 107 v107) 21 v105) 22 v106) 23 v107) 108 v107) 109 v107) 110 undef) 111 undef) 112 undef) 113 undef) 114 undef) w))) w) w) w) w) w) w) w) w) w) w

def F4_p3 (P : Program) (K : Value → World → Prop) (e4 : Env) (w : World) : Prop :=
  JoinC P (fun e5 w => JoinC P (F4_p2 P K) (fun j6 => Do P (convert 22 9 (e5 2)) (fun v90 w => Do P (convert 22 9 (e5 18)) (fun v92 w => Do P (eqS .eql 9 false false v90 v92) (fun v93 w => Cond v93 (K (Value.bool true) w) (@Eq (List Nat) [] [] ∧ j6 (upd (upd (upd (upd (upd e5 89 (e5 2)) 90 v90) 91 (e5 18)) 92 v92) 93 v93) w)) w) w) w)) (fun j5 => Do P (Instr.loadAt 28 (e4 13)) (fun v79 w => Do P (Instr.fieldAt 33 (e4 16) 2) (fun v80 w => Do P (Instr.loadAt 23 v80) (fun v81 w => Do P (Instr.fieldAt 33 (e4 16) 3) (fun v82 w => Do P (Instr.loadAt 23 v82) (fun v83 w => Do P (Instr.build 33 #[(0, (Value.int .i64 7)), (1, v79), (2, v81), (3, v83), (4, (e4 2)), (5, (e4 3))]) (fun v86 w => CallN P (callS (fnv 15) #[(e4 12), (Value.int .i64 1), v86]) (fun v87 w => Do P (eqS .neq 3 false true v87 (Value.int .i64 1)) (fun v88 w => Cond v88 (K (Value.bool true) w) (@Eq (List Nat) [] [] ∧ j5 (upd (upd (upd (upd (upd (upd (upd (upd (upd (upd (upd e4 78 (e4 12)) 79 v79) 80 v80) 81 v81) 82 v82) 83 v83) 84 (e4 2)) 85 (e4 3)) 86 v86) 87 v87) 88 v88) w)) w) w) w) w) w) w) w) w)

def F4_p4 (P : Program) (K : Value → World → Prop) (e2 : Env) (w : World) : Prop :=
  CallN P (callS (fnv 9) #[]) (fun v45 w => CallN P (callS (fnv 10) #[(e2 0)]) (fun v47 w => Do P (Instr.alloc 28 true (Value.tuple #[])) (fun v13 w => Do P (Instr.storeAt 28 v13 v47) (fun _ w => CallN P (callS (fnv 11) #[(e2 0)]) (fun v49 w => Do P (Instr.loadAt 28 v13) (fun v52 w => Do P (Instr.build 37 #[(0, (Value.int .i64 1)), (1, v52), (2, v49)]) (fun v54 w => Do P (Instr.buildSlice 38 1 #[(0, v54)]) (fun v55 w => CallN P (callS (fnv 12) #[v45, v55, (e2 1), (Value.int .u64 0)]) (fun v57 w => Do P (Instr.extract v57 0) (fun v58 w => Do P (Instr.extract v57 1) (fun v59 w => Do P (Instr.extract v57 2) (fun v60 w => Do P (Instr.alloc 33 true (Value.tuple #[])) (fun v16 w => Do P (Instr.storeAt 33 v16 v59) (fun _ w => Do P (Instr.fieldAt 33 v16 2) (fun v63 w => Do P (Instr.loadAt 23 v63) (fun v64 w => Do P (convert 23 3 v64) (fun v65 w => CallN P (callS (fnv 14) #[(e2 0), v65]) (fun v66 w => Do P (Instr.extract v66 0) (fun v67 w => Do P (Instr.extract v66 1) (fun v68 w => Do P (Instr.extract v66 2) (fun v69 w => JoinC P (fun e3 w => JoinC P (F4_p3 P K) (fun j4 => Cond (e3 4) (@Eq (List Nat) [] [] ∧ j4 (upd (upd (upd e3 76 (e3 4)) 77 (e3 19)) 3 (e3 19)) w) (@Eq (List Nat) [] [] ∧ j4 (upd e3 76 (e3 4)) w))) (fun j3 => Do P (Op.unary .not v60) (fun v71 w => Join (fun e9 w => CallN P (pickS (e9 72) (Value.bool true) (e9 74)) (fun v75 w => Cond v75 (K (Value.bool false) w) (@Eq (List Nat) [] [] ∧ j3 (upd e9 75 v75) w)) w) (fun k3 => Guard v71 false (Do P (eqS .neq 40 false true v69 (Value.int .i64 0)) (fun v74 w => k3 (upd (upd (upd (upd (upd (upd (upd (upd (upd (upd (upd (upd (upd (upd (upd (upd (upd (upd (upd (upd (upd (upd (upd (upd (upd (upd (upd (upd (upd (upd (upd (upd (upd (upd (upd (upd (upd (upd (upd e2 45 v45) 12 v45) 46 (e2 0)) 47 v47) 13 v13) 48 (e2 0)) 49 v49) 14 v49) 51 v45) 52 v52) 53 v49) 54 v54) 55 v55) 56 (e2 1)) 57 v57) 50 v57) 58 v58) 59 v59) 60 v60) 16 v16) 15 v58) 17 v60) 62 (e2 0)) 63 v63) 64 v64) 65 v65) 66 v66) 61 v66) 67 v67) 68 v68) 69 v69) 18 v67) 19 v68) 20 v69) 70 v60) 71 v71) 72 v71) 73 v69) 74 v74) w) w) (k3 (upd (upd (upd (upd (upd (upd (upd (upd (upd (upd (upd (upd (upd (upd (upd (upd (upd (upd (upd (upd (upd (upd (upd (upd (upd (upd (upd (upd (upd (upd (upd (upd (upd (upd (upd (upd (upd (upd (upd e2 45 v45) 12 v45) 46 (e2 0)) 47 v47) 13 v13) 48 (e2 0)) 49 v49) 14 v49) 51 v45) 52 v52) 53 v49) 54 v54) 55 v55) 56 (e2 1)) 57 v57) 50 v57) 58 v58) 59 v59) 60 v60) 16 v16) 15 v58) 17 v60) 62 (e2 0)) 63 v63) 64 v64) 65 v65) 66 v66) 61 v66) 67 v67) 68 v68) 69 v69) 18 v67) 19 v68) 20 v69) 70 v60) 71 v71) 72 v71) 73 undef) 74 undef) w))) w)) w) w) w) w) w) w) w) w) w) w) w) w) w) w) w) w) w) w) w) w) w

def F4_p5 (P : Program) (K : Value → World → Prop) (j2 : Env → World → Prop) (e11 : Env) (w : World) : Prop :=
  CallN P (pickS (e11 35) (Value.bool true) (e11 38)) (fun v39 w => Join (fun e12 w => CallN P (pickS (e12 40) (Value.bool true) (e12 43)) (fun v44 w => Cond v44 (K (Value.bool true) w) (@Eq (List Nat) [] [] ∧ j2 (upd e12 44 v44) w)) w) (fun k6 => Guard v39 false (CallN P (builtin .len #[31] 3 #[false] #[(e11 3)]) (fun v42 w => Do P (binOp .gtr 3 v42 (Value.int .i64 64)) (fun v43 w => k6 (upd (upd (upd (upd (upd e11 39 v39) 40 v39) 41 (e11 3)) 42 v42) 43 v43) w) w) w) (k6 (upd (upd (upd (upd (upd e11 39 v39) 40 v39) 41 undef) 42 undef) 43 undef) w))) w

def F4_p6 (P : Program) (K : Value → World → Prop) (e1 : Env) (w : World) : Prop :=
  JoinC P (F4_p4 P K) (fun j2 => CallN P (builtin .len #[22] 3 #[false] #[(e1 0)]) (fun v28 w => Do P (eqS .eql 3 false true v28 (Value.int .i64 0)) (fun v29 w => Join (fun e10 w => CallN P (pickS (e10 30) (Value.bool true) (e10 33)) (fun v34 w => Join (F4_p5 P K j2) (fun k5 => Guard v34 false (CallN P (builtin .len #[22] 3 #[false] #[(e10 2)]) (fun v37 w => Do P (binOp .gtr 3 v37 (Value.int .i64 64)) (fun v38 w => k5 (upd (upd (upd (upd (upd e10 34 v34) 35 v34) 36 (e10 2)) 37 v37) 38 v38) w) w) w) (k5 (upd (upd (upd (upd (upd e10 34 v34) 35 v34) 36 undef) 37 undef) 38 undef) w))) w) (fun k4 => Guard v29 false (CallN P (builtin .len #[22] 3 #[false] #[(e1 0)]) (fun v32 w => Do P (binOp .gtr 3 v32 (Value.int .i64 600)) (fun v33 w => k4 (upd (upd (upd (upd (upd (upd (upd e1 27 (e1 0)) 28 v28) 29 v29) 30 v29) 31 (e1 0)) 32 v32) 33 v33) w) w) w) (k4 (upd (upd (upd (upd (upd (upd (upd e1 27 (e1 0)) 28 v28) 29 v29) 30 v29) 31 undef) 32 undef) 33 undef) w))) w) w)

/-- bailee/baileelaw24.AuditTells -/
def F4 (P : Program) (K : Value → World → Prop) (v0 v1 v2 v3 v4 : Value) (w : World) : Prop :=
  CallN P (callS (fnv 8) #[]) (fun v24 w => JoinC P (F4_p6 P K) (fun j1 => Do P (Op.unary .not v24) (fun v26 w => Cond v26 (K (Value.bool false) w) (@Eq (List Nat) [] [] ∧ j1 (upd (upd (upd (upd (upd (env0 [v0, v1, v2, v3, v4]) 10 (Value.bool false)) 24 v24) 11 v24) 25 v24) 26 v26) w)) w)) w

def H4 : Hints := [(4, false, false, [], .ch 0 [] (.ch 1 [] (.ch 2 [] (.ch 3 [] (.grp 3 false [(4, none), (5, none), (6, none)] (.ch 7 [] (.ch 8 [] (.grp 8 false [(9, none), (10, none), (11, none)] (.ch 12 [] (.ch 13 [] (.grp 13 false [(14, none), (15, none), (16, none)] (.ch 17 [] (.done))))))))))))), (11, false, false, [], .ch 0 [] (.ch 1 [] (.ch 2 [] (.grp 2 false [(3, none), (4, none)] (.ch 5 [] (.done)))))), (20, true, false, [0, 0, 0, 0, 0, 0, 0, 0, 0, 0, 0, 0, 0, 0, 0, 0, 0, 0], .rd 0 true 0 (.rd 1 true 0 (.grp 1 true [(2, some true), (3, some false), (4, some true), (5, some false), (6, some false)] (.rd 7 false 0 (.rd 8 true 0 (.grp 8 true [(9, some true), (10, some false), (12, some true), (13, some false), (11, none), (14, none), (15, some true)] (.rd 16 true 0 (.rd 17 true 0 (.done)))))))))]

theorem F4_eq (K : Value → World → Prop) (v0 v1 v2 v3 v4 : Value) (w : World) : F4 Tryd.prog K v0 v1 v2 v3 v4 w = pt Tryd.prog H4 none Tryd.f4.ntmps (bodyOf Tryd.f4) (RetQ Tryd.prog Tryd.f4.results K) (env0 [v0, v1, v2, v3, v4]) [] w := by kernel_rfl

theorem F4_ok : codeOk cvTryd H4 (bodyOf Tryd.f4) = true := by kernel_rfl

theorem F4_has : Tryd.f4.body.isSome = true ∧ Nat.ble 5 Tryd.f4.ntmps = true := ⟨by kernel_rfl, by kernel_rfl⟩

theorem F4_calls {K : Value → World → Prop} {v0 v1 v2 v3 v4 : Value} {w : World} (h : F4 Tryd.prog K v0 v1 v2 v3 v4 w) : Calls Tryd.prog 4 #[v0, v1, v2, v3, v4] w (Returns K) :=
  calls_of_eq (cv := cvTryd) (H := H4) (fn := Tryd.f4) (args := [v0, v1, v2, v3, v4]) mixedTryd Tryd.func4 F4_has F4_ok (F4_eq K v0 v1 v2 v3 v4 w) h

def F5_p1 (P : Program) (K : Value → World → Prop) (j4 : Env → World → Prop) (e10 : Env) (w : World) : Prop :=
  Do P (Instr.loadAt 52 (e10 31)) (fun v268 w => Do P (Instr.storeAt 52 (e10 5) v268) (fun _ w => Drew (fun w => Draw (fun S1 w => RdS P (S1 0) (eqS .neq 3 false false (e10 30) (e10 32)) (fun v271 => Join (fun e11 w => RdNowN P (pickS (e11 272) (Value.bool true) (e11 278)) w (fun v279 => Cond v279 (K (Value.bool false) w) (@Eq (List Nat) [] [] ∧ j4 (upd e11 279 v279) w))) (fun k3 => Guard v271 false (RdS P (S1 0) (Instr.fieldAt 52 (e10 5) 1) (fun v275 => RdS P (S1 0) (Instr.loadAt 50 v275) (fun v276 => RdSN P (S1 0) (builtin .len #[50] 3 #[false] #[v276]) (fun v277 => CallN P (callS (fnv 13) #[(e10 4)]) (fun v274 w => (S1 0) w ∧ (RdNow P (eqS .neq 3 false false v274 v277) w (fun v278 => k3 (upd (upd (upd (upd (upd (upd (upd (upd (upd (upd (upd e10 268 v268) 269 (e10 30)) 270 (e10 32)) 271 v271) 272 v271) 273 (e10 4)) 275 v275) 276 v276) 277 v277) 274 v274) 278 v278) w))) w)))) (k3 (upd (upd (upd (upd (upd (upd (upd (upd (upd (upd (upd e10 268 v268) 269 (e10 30)) 270 (e10 32)) 271 v271) 272 v271) 273 undef) 275 undef) 276 undef) 277 undef) 274 undef) 278 undef) w)))) w) w) w) w

def F5_p2 (P : Program) (K : Value → World → Prop) (j4 : Env → World → Prop) (e9 : Env) (w : World) : Prop :=
  Do P (Instr.fieldAt 54 (e9 8) 1) (fun v255 w => Do P (Instr.loadAt 3 v255) (fun v256 w => Do P (Instr.loadAt 33 (e9 10)) (fun v257 w => CallN P (callS (fnv 15) #[(e9 4), v256, v257]) (fun v258 w => Join (F5_p1 P K j4) (fun k2 => Drew (fun w => Draw (fun S2 w => RdS P (S2 0) (Instr.loadAt 52 (e9 5)) (fun v260 => RdS P (S2 0) (Instr.fieldAt 54 (e9 8) 1) (fun v261 => RdS P (S2 0) (Instr.loadAt 3 v261) (fun v262 => RdS P (S2 0) (Instr.loadAt 33 (e9 10)) (fun v263 => (CallN P (callS (fnv 23) #[v263]) (fun v264 w => S2 0 w ∧ ((CallN P (callS (fnv 27) #[v260, v262, v264]) (fun v265 w => S2 0 w ∧ (S2 1 w ∧ (RdS P (S2 0) (Instr.extract v265 0) (fun v266 => RdS P (S2 1) (Instr.extract v265 1) (fun v267 => Do P (Instr.alloc 52 true (Value.tuple #[])) (fun v31 w => S2 0 w ∧ (S2 1 w ∧ (Do P (Instr.storeAt 52 v31 v266) (fun _ w => S2 1 w ∧ (k2 (upd (upd (upd (upd (upd (upd (upd (upd (upd (upd (upd (upd (upd (upd (upd (upd (upd e9 254 (e9 4)) 255 v255) 256 v256) 257 v257) 258 v258) 30 v258) 260 v260) 261 v261) 262 v262) 263 v263) 264 v264) 265 v265) 259 v265) 266 v266) 267 v267) 31 v31) 32 v267) w)) w))) w))))) w) ∧ (Do P (Instr.alloc 52 true (Value.tuple #[])) (fun v31_1 w => S2 0 w ∧ (S2 1 w ∧ (CallN P (callS (fnv 27) #[v260, v262, v264]) (fun v265_1 w => S2 1 w ∧ (RdNow P (Instr.extract v265_1 0) w (fun v266_1 => RdS P (S2 1) (Instr.extract v265_1 1) (fun v267_1 => Do P (Instr.storeAt 52 v31_1 v266_1) (fun _ w => S2 1 w ∧ (k2 (upd (upd (upd (upd (upd (upd (upd (upd (upd (upd (upd (upd (upd (upd (upd (upd (upd e9 254 (e9 4)) 255 v255) 256 v256) 257 v257) 258 v258) 30 v258) 260 v260) 261 v261) 262 v262) 263 v263) 264 v264) 31 v31_1) 265 v265_1) 259 v265_1) 266 v266_1) 267 v267_1) 32 v267_1) w)) w)))) w))) w))) w) ∧ (Do P (Instr.alloc 52 true (Value.tuple #[])) (fun v31_2 w => S2 0 w ∧ (S2 1 w ∧ (CallN P (callS (fnv 23) #[v263]) (fun v264_1 w => S2 0 w ∧ (CallN P (callS (fnv 27) #[v260, v262, v264_1]) (fun v265_2 w => S2 1 w ∧ (RdNow P (Instr.extract v265_2 0) w (fun v266_2 => RdS P (S2 1) (Instr.extract v265_2 1) (fun v267_2 => Do P (Instr.storeAt 52 v31_2 v266_2) (fun _ w => S2 1 w ∧ (k2 (upd (upd (upd (upd (upd (upd (upd (upd (upd (upd (upd (upd (upd (upd (upd (upd (upd e9 254 (e9 4)) 255 v255) 256 v256) 257 v257) 258 v258) 30 v258) 260 v260) 261 v261) 262 v262) 263 v263) 31 v31_2) 264 v264_1) 265 v265_2) 259 v265_2) 266 v266_2) 267 v267_2) 32 v267_2) w)) w)))) w)) w))) w)))))) w) w)) w) w) w) w

def F5_p3 (P : Program) (j9 : Env → World → Prop) (e16 : Env) (w : World) : Prop :=
  RdNowN P (pickS (e16 245) (e16 247) (Value.bool false)) w (fun v248 => Cond v248 (Do P (convert 9 22 (e16 27)) (fun v250 w => Do P (Instr.fieldAt 33 (e16 10) 4) (fun v251 w => Do P (Instr.storeAt 22 v251 v250) (fun _ w => Do P (Instr.fieldAt 33 (e16 10) 5) (fun v253 w => Do P (Instr.storeAt 31 v253 (e16 28)) (fun _ w => @Eq (List Nat) [] [] ∧ j9 (upd (upd (upd (upd (upd (upd e16 248 v248) 249 (e16 27)) 250 v250) 251 v251) 252 (e16 28)) 253 v253) w) w) w) w) w) w) (@Eq (List Nat) [] [] ∧ j9 (upd e16 248 v248) w))

def F5_p4 (P : Program) (next2 : Env → World → Prop) (e14 : Env) (w : World) : Prop :=
  JoinC P (fun e15 w => Do P (binOp .add 3 (e15 25) (Value.int .i64 1)) (fun v223 w => @Eq (List Nat) [] [] ∧ next2 (upd (upd (upd e15 222 (e15 25)) 223 v223) 25 v223) w) w) (fun j9 => Do P (Instr.fieldAt 54 (e14 8) 2) (fun v224 w => Do P (Instr.loadAt 5 v224) (fun v225 w => Do P (convert 3 5 (e14 25)) (fun v227 w => Do P (binOp .add 5 v225 v227) (fun v228 w => CallN P (callS (fnv 18) #[v228]) (fun v229 w => Do P (convert 22 9 v229) (fun v230 w => Do P (Instr.fieldAt 71 (e14 24) 1) (fun v233 w => Do P (Instr.loadAt 3 v233) (fun v234 w => CallN P (callS (fnv 26) #[v230, v234]) (fun v235 w => Do P (Instr.extract v235 0) (fun v236 w => Do P (Instr.extract v235 1) (fun v237 w => Do P (Instr.extract v235 2) (fun v238 w => Drew (fun w => Draw (fun S4 w => RdS P (S4 0) (Instr.fieldAt 71 (e14 24) 0) (fun v241 => RdS P (S4 0) (Instr.fieldAt 69 v241 1) (fun v242 => RdS P (S4 0) (Instr.loadAt 28 v242) (fun v243 => CallN P (callS (fnv 19) #[v230]) (fun v240 w => S4 0 w ∧ (RdNow P (eqS .eql 28 false false v240 v243) w (fun v244 => Join (F5_p3 P j9) (fun k5 => Guard v244 true (RdNow P (eqS .eql 40 false true v238 (Value.int .i64 0)) w (fun v247 => k5 (upd (upd (upd (upd (upd (upd (upd (upd (upd (upd (upd (upd (upd (upd (upd (upd (upd (upd (upd (upd (upd (upd (upd (upd (upd (upd (upd (upd e14 224 v224) 225 v225) 226 (e14 25)) 227 v227) 228 v228) 229 v229) 230 v230) 26 v230) 232 v230) 233 v233) 234 v234) 235 v235) 231 v235) 236 v236) 237 v237) 238 v238) 27 v236) 28 v237) 29 v238) 239 v230) 241 v241) 242 v242) 243 v243) 240 v240) 244 v244) 245 v244) 246 v238) 247 v247) w)) (k5 (upd (upd (upd (upd (upd (upd (upd (upd (upd (upd (upd (upd (upd (upd (upd (upd (upd (upd (upd (upd (upd (upd (upd (upd (upd (upd (upd (upd e14 224 v224) 225 v225) 226 (e14 25)) 227 v227) 228 v228) 229 v229) 230 v230) 26 v230) 232 v230) 233 v233) 234 v234) 235 v235) 231 v235) 236 v236) 237 v237) 238 v238) 27 v236) 28 v237) 29 v238) 239 v230) 241 v241) 242 v242) 243 v243) 240 v240) 244 v244) 245 v244) 246 undef) 247 undef) w))))) w)))) w) w) w) w) w) w) w) w) w) w) w) w) w) w)

def F5_p5 (P : Program) (j7 : Env → World → Prop) (e12 : Env) (w : World) : Prop :=
  CallN P (pickS (e12 187) (e12 191) (Value.bool false)) (fun v192 w => Cond v192 (Drew (fun w => Draw (fun S3 w => RdS P (S3 0) (Instr.fieldAt 52 (e12 5) 1) (fun v193 => RdS P (S3 0) (Instr.loadAt 50 v193) (fun v194 => RdS P (S3 0) (Instr.fieldAt 54 (e12 8) 3) (fun v195 => RdS P (S3 0) (Instr.loadAt 23 v195) (fun v196 => RdS P (S3 0) (Instr.fieldAt 52 (e12 5) 1) (fun v197 => RdS P (S3 0) (Instr.loadAt 50 v197) (fun v198 => RdSN P (S3 0) (builtin .len #[50] 3 #[false] #[v198]) (fun v199 => RdS P (S3 0) (convert 3 23 v199) (fun v200 => RdS P (S3 0) (binOp .rem 23 v196 v200) (fun v201 => RdS P (S3 0) (convert 23 3 v201) (fun v202 => RdS P (S3 0) (Instr.indexAt 50 v194 v202) (fun v203 => RdS P (S3 0) (Instr.loadAt 71 v203) (fun v204 => Do P (Instr.alloc 71 true (Value.tuple #[])) (fun v24 w => S3 0 w ∧ (Do P (Instr.storeAt 71 v24 v204) (fun _ w => Do P (Instr.fieldAt 71 v24 0) (fun v205 w => Do P (Instr.fieldAt 69 v205 0) (fun v206 w => Do P (Instr.loadAt 3 v206) (fun v207 w => Do P (Instr.fieldAt 54 (e12 8) 1) (fun v208 w => Do P (Instr.storeAt 3 v208 v207) (fun _ w => Do P (Instr.fieldAt 71 v24 0) (fun v209 w => Do P (Instr.fieldAt 69 v209 1) (fun v210 w => Do P (Instr.loadAt 28 v210) (fun v211 w => Do P (Instr.fieldAt 33 (e12 10) 1) (fun v212 w => Do P (Instr.storeAt 28 v212 v211) (fun _ w => Do P (Instr.fieldAt 71 v24 1) (fun v213 w => Do P (Instr.loadAt 3 v213) (fun v214 w => Do P (convert 3 23 v214) (fun v215 w => Do P (Instr.fieldAt 33 (e12 10) 2) (fun v216 w => Do P (Instr.storeAt 23 v216 v215) (fun _ w => Do P (Instr.fieldAt 71 v24 2) (fun v217 w => Do P (Instr.loadAt 23 v217) (fun v218 w => Do P (Instr.fieldAt 33 (e12 10) 3) (fun v219 w => Do P (Instr.storeAt 23 v219 v218) (fun _ w => Loop [220, 221, 224, 225, 226, 227, 228, 229, 230, 26, 232, 233, 234, 235, 231, 236, 237, 238, 27, 28, 29, 239, 240, 241, 242, 243, 244, 245, 246, 247, 248, 249, 250, 251, 252, 253, 222, 223, 25] (upd (upd (upd (upd (upd (upd (upd (upd (upd (upd (upd (upd (upd (upd (upd (upd (upd (upd (upd (upd (upd (upd (upd (upd (upd (upd (upd (upd (upd (upd e12 192 v192) 193 v193) 194 v194) 195 v195) 196 v196) 197 v197) 198 v198) 199 v199) 200 v200) 201 v201) 202 v202) 203 v203) 204 v204) 24 v24) 205 v205) 206 v206) 207 v207) 208 v208) 209 v209) 210 v210) 211 v211) 212 v212) 213 v213) 214 v214) 215 v215) 216 v216) 217 v217) 218 v218) 219 v219) 25 (Value.int .i64 0)) w (fun e13 next2 w => JoinC P (F5_p4 P next2) (fun j8 => Do P (binOp .lss 3 (e13 25) (Value.int .i64 4)) (fun v221 w => Cond v221 (@Eq (List Nat) [] [] ∧ j8 (upd (upd e13 220 (e13 25)) 221 v221) w) (@Eq (List Nat) [] [] ∧ j7 (upd (upd e13 220 (e13 25)) 221 v221) w)) w))) w) w) w) w) w) w) w) w) w) w) w) w) w) w) w) w) w) w) w) w)) w))))))))))))) w) w) (@Eq (List Nat) [] [] ∧ j7 (upd e12 192 v192) w)) w

def F5_p6 (P : Program) (K : Value → World → Prop) (j4 : Env → World → Prop) (e8 : Env) (w : World) : Prop :=
  JoinC P (F5_p2 P K j4) (fun j7 => Do P (Instr.fieldAt 54 (e8 8) 5) (fun v185 w => Do P (Instr.loadAt 4 v185) (fun v186 w => Join (F5_p5 P j7) (fun k4 => Guard v186 true (Do P (Instr.fieldAt 52 (e8 5) 1) (fun v188 w => Do P (Instr.loadAt 50 v188) (fun v189 w => CallN P (builtin .len #[50] 3 #[false] #[v189]) (fun v190 w => Do P (binOp .gtr 3 v190 (Value.int .i64 0)) (fun v191 w => k4 (upd (upd (upd (upd (upd (upd (upd e8 185 v185) 186 v186) 187 v186) 188 v188) 189 v189) 190 v190) 191 v191) w) w) w) w) w) (k4 (upd (upd (upd (upd (upd (upd (upd e8 185 v185) 186 v186) 187 v186) 188 undef) 189 undef) 190 undef) 191 undef) w))) w) w)

def F5_p7 (P : Program) (S5 : Nat → World → Prop) (K : Value → World → Prop) (j11 : Env → World → Prop) (e19 : Env) (w : World) : Prop :=
  RdSN P (S5 0) (pickS (e19 122) (Value.bool true) (e19 125)) (fun v126 => Join (fun e20 w => RdNowN P (pickS (e20 127) (Value.bool true) (e20 132)) w (fun v133 => Cond v133 (K (Value.bool false) w) (@Eq (List Nat) [] [] ∧ j11 (upd e20 133 v133) w))) (fun k7 => Guard v126 false (RdS P (S5 0) (Instr.loadAt 33 (e19 14)) (fun v128 => RdS P (S5 0) (Instr.loadAt 60 (e19 18)) (fun v130 => CallN P (callS (fnv 23) #[v128]) (fun v129 w => (S5 0) w ∧ (CallN P (callS (fnv 22) #[v129, v130]) (fun v131 w => (S5 0) w ∧ (RdNow P (Op.unary .not v131) w (fun v132 => k7 (upd (upd (upd (upd (upd (upd (upd e19 126 v126) 127 v126) 128 v128) 130 v130) 129 v129) 131 v131) 132 v132) w))) w)) w))) (k7 (upd (upd (upd (upd (upd (upd (upd e19 126 v126) 127 v126) 128 undef) 130 undef) 129 undef) 131 undef) 132 undef) w)))

def F5_p8 (P : Program) (next3 : Env → World → Prop) (K : Value → World → Prop) (e24 : Env) (w : World) : Prop :=
  JoinC P (fun e25 w => Do P (binOp .add 3 (e25 23) (Value.int .i64 1)) (fun v168 w => @Eq (List Nat) [] [] ∧ next3 (upd (upd (upd e25 167 (e25 23)) 168 v168) 23 v168) w) w) (fun j15 => Drew (fun w => RdNow P (Instr.indexAt 65 (e24 20) (e24 23)) w (fun v171 => RdNow P (Instr.loadAt 3 v171) w (fun v172 => RdNow P (Instr.indexAt 65 (e24 22) (e24 23)) w (fun v175 => RdNow P (Instr.loadAt 3 v175) w (fun v176 => RdNow P (eqS .neq 3 false false v172 v176) w (fun v177 => Cond v177 (K (Value.bool false) w) (@Eq (List Nat) [] [] ∧ j15 (upd (upd (upd (upd (upd (upd (upd (upd (upd e24 169 (e24 20)) 170 (e24 23)) 171 v171) 172 v172) 173 (e24 22)) 174 (e24 23)) 175 v175) 176 v176) 177 v177) w))))))) w)

def F5_p9 (P : Program) (j4 : Env → World → Prop) (K : Value → World → Prop) (e21 : Env) (w : World) : Prop :=
  JoinC P (fun e22 w => @Eq (List Nat) [] [] ∧ j4 e22 w) (fun j13 => Loop [163, 164, 165, 166, 169, 170, 171, 172, 173, 174, 175, 176, 177, 2, 167, 168, 23] (upd e21 23 (Value.int .i64 0)) w (fun e23 next3 w => JoinC P (F5_p8 P next3 K) (fun j14 => CallN P (builtin .len #[65] 3 #[false] #[(e23 20)]) (fun v165 w => Do P (binOp .lss 3 (e23 23) v165) (fun v166 w => Cond v166 (@Eq (List Nat) [] [] ∧ j14 (upd (upd (upd (upd e23 163 (e23 23)) 164 (e23 20)) 165 v165) 166 v166) w) (@Eq (List Nat) [] [] ∧ j13 (upd (upd (upd (upd e23 163 (e23 23)) 164 (e23 20)) 165 v165) 166 v166) w)) w) w)))

def F5_p10 (P : Program) (j4 : Env → World → Prop) (K : Value → World → Prop) (j6 : Env → World → Prop) (e17 : Env) (w : World) : Prop :=
  Cond (e17 88) (Do P (Instr.loadAt 54 (e17 8)) (fun v93 w => CallN P (callS (fnv 20) #[v93]) (fun v94 w => Do P (Instr.extract v94 0) (fun v95 w => Do P (Instr.extract v94 1) (fun v96 w => Do P (Instr.fieldAt 54 (e17 8) 3) (fun v100 w => Do P (Instr.loadAt 23 v100) (fun v101 w => CallN P (callS (fnv 12) #[(e17 4), v95, v101, (e17 6)]) (fun v103 w => Do P (Instr.extract v103 0) (fun v104 w => Do P (Instr.extract v103 1) (fun v105 w => Do P (Instr.extract v103 2) (fun v106 w => Do P (Instr.alloc 33 true (Value.tuple #[])) (fun v14 w => Do P (Instr.storeAt 33 v14 v105) (fun _ w => Do P (Instr.loadAt 52 (e17 5)) (fun v108 w => Do P (Instr.fieldAt 54 (e17 8) 3) (fun v110 w => Do P (Instr.loadAt 23 v110) (fun v111 w => CallN P (callS (fnv 21) #[v108, v96, v111, (e17 6)]) (fun v113 w => Do P (Instr.extract v113 0) (fun v114 w => Do P (Instr.extract v113 1) (fun v115 w => Do P (Instr.extract v113 2) (fun v116 w => Do P (Instr.extract v113 3) (fun v117 w => Do P (Instr.alloc 52 true (Value.tuple #[])) (fun v16 w => Do P (Instr.alloc 60 true (Value.tuple #[])) (fun v18 w => Do P (Instr.storeAt 52 v16 v114) (fun _ w => Do P (Instr.storeAt 60 v18 v116) (fun _ w => Do P (Instr.loadAt 52 v16) (fun v118 w => Do P (Instr.storeAt 52 (e17 5) v118) (fun _ w => JoinC P (fun e18 w => @Eq (List Nat) [] [] ∧ j4 e18 w) (fun j11 => Drew (fun w => Draw (fun S5 w => RdS P (S5 0) (eqS .neq 3 false false v104 v115) (fun v121 => Join (F5_p7 P S5 K j11) (fun k6 => Guard v121 false (RdS P (S5 0) (eqS .neq 4 false false v106 v117) (fun v125 => k6 (upd (upd (upd (upd (upd (upd (upd (upd (upd (upd (upd (upd (upd (upd (upd (upd (upd (upd (upd (upd (upd (upd (upd (upd (upd (upd (upd (upd (upd (upd (upd (upd (upd (upd (upd (upd (upd (upd (upd (upd (upd (upd (upd e17 93 v93) 94 v94) 92 v94) 95 v95) 96 v96) 11 v95) 12 v96) 98 (e17 4)) 99 v95) 100 v100) 101 v101) 102 (e17 6)) 103 v103) 97 v103) 104 v104) 105 v105) 106 v106) 14 v14) 13 v104) 15 v106) 108 v108) 109 v96) 110 v110) 111 v111) 112 (e17 6)) 113 v113) 107 v113) 114 v114) 115 v115) 116 v116) 117 v117) 16 v16) 18 v18) 17 v115) 19 v117) 118 v118) 119 v104) 120 v115) 121 v121) 122 v121) 123 v106) 124 v117) 125 v125) w)) (k6 (upd (upd (upd (upd (upd (upd (upd (upd (upd (upd (upd (upd (upd (upd (upd (upd (upd (upd (upd (upd (upd (upd (upd (upd (upd (upd (upd (upd (upd (upd (upd (upd (upd (upd (upd (upd (upd (upd (upd (upd (upd (upd (upd e17 93 v93) 94 v94) 92 v94) 95 v95) 96 v96) 11 v95) 12 v96) 98 (e17 4)) 99 v95) 100 v100) 101 v101) 102 (e17 6)) 103 v103) 97 v103) 104 v104) 105 v105) 106 v106) 14 v14) 13 v104) 15 v106) 108 v108) 109 v96) 110 v110) 111 v111) 112 (e17 6)) 113 v113) 107 v113) 114 v114) 115 v115) 116 v116) 117 v117) 16 v16) 18 v18) 17 v115) 19 v117) 118 v118) 119 v104) 120 v115) 121 v121) 122 v121) 123 undef) 124 undef) 125 undef) w)))) w) w)) w) w) w) w) w) w) w) w) w) w) w) w) w) w) w) w) w) w) w) w) w) w) w) w) w) w) (Do P (eqS .eql 3 false true (e17 87) (Value.int .i64 3)) (fun v135 w => Cond v135 (Do P (Instr.fieldAt 54 (e17 8) 6) (fun v138 w => Do P (Instr.loadAt 23 v138) (fun v139 w => CallN P (callS (fnv 24) #[(e17 4), (e17 6), v139]) (fun v140 w => Do P (Instr.loadAt 52 (e17 5)) (fun v142 w => Do P (Instr.fieldAt 54 (e17 8) 6) (fun v144 w => Do P (Instr.loadAt 23 v144) (fun v145 w => CallN P (callS (fnv 25) #[v142, (e17 6), v145]) (fun v146 w => Do P (Instr.extract v146 0) (fun v147 w => Do P (Instr.extract v146 1) (fun v148 w => Do P (Instr.alloc 52 true (Value.tuple #[])) (fun v21 w => Do P (Instr.storeAt 52 v21 v147) (fun _ w => Do P (Instr.loadAt 52 v21) (fun v149 w => Do P (Instr.storeAt 52 (e17 5) v149) (fun _ w => JoinC P (F5_p9 P j4 K) (fun j12 => Drew (fun w => Draw (fun S6 w => RdSN P (S6 0) (builtin .len #[65] 3 #[false] #[v140]) (fun v151 => RdSN P (S6 0) (builtin .len #[65] 3 #[false] #[v148]) (fun v153 => RdS P (S6 0) (eqS .neq 3 false false v151 v153) (fun v154 => Join (fun e26 w => RdNowN P (pickS (e26 155) (Value.bool true) (e26 161)) w (fun v162 => Cond v162 (K (Value.bool false) w) (@Eq (List Nat) [] [] ∧ j12 (upd e26 162 v162) w))) (fun k8 => Guard v154 false (RdS P (S6 0) (Instr.fieldAt 52 (e17 5) 1) (fun v158 => RdS P (S6 0) (Instr.loadAt 50 v158) (fun v159 => RdSN P (S6 0) (builtin .len #[50] 3 #[false] #[v159]) (fun v160 => CallN P (callS (fnv 13) #[(e17 4)]) (fun v157 w => (S6 0) w ∧ (RdNow P (eqS .neq 3 false false v157 v160) w (fun v161 => k8 (upd (upd (upd (upd (upd (upd (upd (upd (upd (upd (upd (upd (upd (upd (upd (upd (upd (upd (upd (upd (upd (upd (upd (upd (upd (upd (upd (upd (upd (upd (upd e17 135 v135) 134 v135) 136 (e17 4)) 137 (e17 6)) 138 v138) 139 v139) 140 v140) 20 v140) 142 v142) 143 (e17 6)) 144 v144) 145 v145) 146 v146) 141 v146) 147 v147) 148 v148) 21 v21) 22 v148) 149 v149) 150 v140) 151 v151) 152 v148) 153 v153) 154 v154) 155 v154) 156 (e17 4)) 158 v158) 159 v159) 160 v160) 157 v157) 161 v161) w))) w)))) (k8 (upd (upd (upd (upd (upd (upd (upd (upd (upd (upd (upd (upd (upd (upd (upd (upd (upd (upd (upd (upd (upd (upd (upd (upd (upd (upd (upd (upd (upd (upd (upd e17 135 v135) 134 v135) 136 (e17 4)) 137 (e17 6)) 138 v138) 139 v139) 140 v140) 20 v140) 142 v142) 143 (e17 6)) 144 v144) 145 v145) 146 v146) 141 v146) 147 v147) 148 v148) 21 v21) 22 v148) 149 v149) 150 v140) 151 v151) 152 v148) 153 v153) 154 v154) 155 v154) 156 undef) 158 undef) 159 undef) 160 undef) 157 undef) 161 undef) w)))))) w) w)) w) w) w) w) w) w) w) w) w) w) w) w) w) (Do P (eqS .eql 3 false true (e17 87) (Value.int .i64 4)) (fun v179 w => Cond v179 (Do P (Instr.fieldAt 54 (e17 8) 3) (fun v180 w => Do P (Instr.loadAt 23 v180) (fun v181 w => Do P (binOp .rem 23 v181 (Value.int .u64 16)) (fun v182 w => Do P (convert 23 3 v182) (fun v183 w => Do P (Instr.fieldAt 33 (e17 10) 0) (fun v184 w => Do P (Instr.storeAt 3 v184 v183) (fun _ w => @Eq (List Nat) [] [] ∧ j6 (upd (upd (upd (upd (upd (upd (upd (upd (upd e17 135 v135) 134 v135) 179 v179) 178 v179) 180 v180) 181 v181) 182 v182) 183 v183) 184 v184) w) w) w) w) w) w) w) (@Eq (List Nat) [] [] ∧ j6 (upd (upd (upd (upd e17 135 v135) 134 v135) 179 v179) 178 v179) w)) w)) w)

def F5_p11 (P : Program) (K : Value → World → Prop) (j4 : Env → World → Prop) (e7 : Env) (w : World) : Prop :=
  JoinC P (F5_p6 P K j4) (fun j6 => Do P (Instr.fieldAt 54 (e7 8) 0) (fun v85 w => Do P (Instr.loadAt 3 v85) (fun v86 w => Do P (binOp .and 3 v86 (Value.int .i64 7)) (fun v87 w => JoinC P (F5_p10 P j4 K j6) (fun j10 => Do P (eqS .eql 3 false true v87 (Value.int .i64 0)) (fun v89 w => Cond v89 (@Eq (List Nat) [] [] ∧ j10 (upd (upd (upd (upd (upd e7 85 v85) 86 v86) 87 v87) 89 v89) 88 v89) w) (Do P (eqS .eql 3 false true v87 (Value.int .i64 1)) (fun v90 w => Cond v90 (@Eq (List Nat) [] [] ∧ j10 (upd (upd (upd (upd (upd (upd (upd e7 85 v85) 86 v86) 87 v87) 89 v89) 88 v89) 90 v90) 88 v90) w) (Do P (eqS .eql 3 false true v87 (Value.int .i64 2)) (fun v91 w => @Eq (List Nat) [] [] ∧ j10 (upd (upd (upd (upd (upd (upd (upd (upd (upd e7 85 v85) 86 v86) 87 v87) 89 v89) 88 v89) 90 v90) 88 v90) 91 v91) 88 v91) w) w)) w)) w)) w) w) w)

def F5_p12 (P : Program) (K : Value → World → Prop) (j4 : Env → World → Prop) (e6 : Env) (w : World) : Prop :=
  Do P (Instr.fieldAt 54 (e6 8) 7) (fun v66 w => Do P (Instr.loadAt 5 v66) (fun v67 w => Do P (binOp .and 5 v67 (Value.int .u8 7)) (fun v68 w => Do P (convert 5 23 v68) (fun v69 w => Do P (binOp .add 23 (e6 6) v69) (fun v70 w => Do P (Instr.fieldAt 54 (e6 8) 2) (fun v71 w => Do P (Instr.loadAt 5 v71) (fun v72 w => CallN P (callS (fnv 18) #[v72]) (fun v73 w => Join (F5_p11 P K j4) (fun k1 => Drew (fun w => Draw (fun S7 w => RdS P (S7 0) (convert 22 9 v73) (fun v75 => RdS P (S7 0) (Instr.fieldAt 54 (e6 8) 3) (fun v77 => RdS P (S7 0) (Instr.loadAt 23 v77) (fun v78 => RdS P (S7 0) (binOp .rem 23 v78 (Value.int .u64 4)) (fun v79 => RdS P (S7 0) (Instr.fieldAt 54 (e6 8) 4) (fun v80 => RdS P (S7 0) (Instr.loadAt 23 v80) (fun v81 => RdS P (S7 0) (Instr.fieldAt 54 (e6 8) 8) (fun v82 => RdS P (S7 0) (Instr.loadAt 22 v82) (fun v83 => (CallN P (callS (fnv 19) #[v75]) (fun v76 w => S7 0 w ∧ (RdS P (S7 0) (Instr.build 33 #[(0, (Value.int .i64 7)), (1, v76), (2, v79), (3, v81), (4, v83)]) (fun v84 => Do P (Instr.alloc 33 true (Value.tuple #[])) (fun v10 w => S7 0 w ∧ (Do P (Instr.storeAt 33 v10 v84) (fun _ w => k1 (upd (upd (upd (upd (upd (upd (upd (upd (upd (upd (upd (upd (upd (upd (upd (upd (upd (upd (upd (upd (upd (upd (upd e6 65 (e6 6)) 66 v66) 67 v67) 68 v68) 69 v69) 70 v70) 6 v70) 71 v71) 72 v72) 73 v73) 9 v73) 74 v73) 75 v75) 77 v77) 78 v78) 79 v79) 80 v80) 81 v81) 82 v82) 83 v83) 76 v76) 84 v84) 10 v10) w) w)) w))) w) ∧ (Do P (Instr.alloc 33 true (Value.tuple #[])) (fun v10_1 w => S7 0 w ∧ (CallN P (callS (fnv 19) #[v75]) (fun v76_1 w => S7 0 w ∧ (RdNow P (Instr.build 33 #[(0, (Value.int .i64 7)), (1, v76_1), (2, v79), (3, v81), (4, v83)]) w (fun v84_1 => Do P (Instr.storeAt 33 v10_1 v84_1) (fun _ w => k1 (upd (upd (upd (upd (upd (upd (upd (upd (upd (upd (upd (upd (upd (upd (upd (upd (upd (upd (upd (upd (upd (upd (upd e6 65 (e6 6)) 66 v66) 67 v67) 68 v68) 69 v69) 70 v70) 6 v70) 71 v71) 72 v72) 73 v73) 9 v73) 74 v73) 75 v75) 77 v77) 78 v78) 79 v79) 80 v80) 81 v81) 82 v82) 83 v83) 10 v10_1) 76 v76_1) 84 v84_1) w) w))) w)) w)))))))))) w) w)) w) w) w) w) w) w) w) w

def F5_p13 (P : Program) (K : Value → World → Prop) (j5 : Env → World → Prop) (e27 : Env) (w : World) : Prop :=
  CallN P (pickS (e27 55) (Value.bool true) (e27 58)) (fun v59 w => Join (fun e28 w => CallN P (pickS (e28 60) (Value.bool true) (e28 63)) (fun v64 w => Cond v64 (K (Value.bool true) w) (@Eq (List Nat) [] [] ∧ j5 (upd e28 64 v64) w)) w) (fun k10 => Guard v59 false (Do P (Instr.fieldAt 54 (e27 8) 1) (fun v61 w => Do P (Instr.loadAt 3 v61) (fun v62 w => Do P (binOp .lss 3 v62 (Value.int .i64 (-1099511627776))) (fun v63 w => k10 (upd (upd (upd (upd (upd e27 59 v59) 60 v59) 61 v61) 62 v62) 63 v63) w) w) w) w) (k10 (upd (upd (upd (upd (upd e27 59 v59) 60 v59) 61 undef) 62 undef) 63 undef) w))) w

def F5_p14 (P : Program) (next1 : Env → World → Prop) (K : Value → World → Prop) (e4 : Env) (w : World) : Prop :=
  JoinC P (fun e5 w => Do P (binOp .add 3 (e5 7) (Value.int .i64 1)) (fun v46 w => @Eq (List Nat) [] [] ∧ next1 (upd (upd (upd e5 45 (e5 7)) 46 v46) 7 v46) w) w) (fun j4 => Do P (Instr.indexAt 49 (e4 0) (e4 7)) (fun v49 w => Do P (Instr.loadAt 54 v49) (fun v50 w => Do P (Instr.alloc 54 true (Value.tuple #[])) (fun v8 w => Do P (Instr.storeAt 54 v8 v50) (fun _ w => JoinC P (F5_p12 P K j4) (fun j5 => Do P (Instr.fieldAt 54 v8 8) (fun v51 w => Do P (Instr.loadAt 22 v51) (fun v52 w => CallN P (builtin .len #[22] 3 #[false] #[v52]) (fun v53 w => Do P (binOp .gtr 3 v53 (Value.int .i64 100)) (fun v54 w => Join (F5_p13 P K j5) (fun k9 => Guard v54 false (Do P (Instr.fieldAt 54 v8 1) (fun v56 w => Do P (Instr.loadAt 3 v56) (fun v57 w => Do P (binOp .gtr 3 v57 (Value.int .i64 1099511627776)) (fun v58 w => k9 (upd (upd (upd (upd (upd (upd (upd (upd (upd (upd (upd (upd (upd e4 47 (e4 0)) 48 (e4 7)) 49 v49) 50 v50) 8 v8) 51 v51) 52 v52) 53 v53) 54 v54) 55 v54) 56 v56) 57 v57) 58 v58) w) w) w) w) (k9 (upd (upd (upd (upd (upd (upd (upd (upd (upd (upd (upd (upd (upd e4 47 (e4 0)) 48 (e4 7)) 49 v49) 50 v50) 8 v8) 51 v51) 52 v52) 53 v53) 54 v54) 55 v54) 56 undef) 57 undef) 58 undef) w))) w) w) w) w)) w) w) w) w)

def F5_p15 (P : Program) (K : Value → World → Prop) (j2 : Env → World → Prop) (e3 : Env) (next1 : Env → World → Prop) (w : World) : Prop :=
  JoinC P (F5_p14 P next1 K) (fun j3 => CallN P (builtin .len #[49] 3 #[false] #[(e3 0)]) (fun v39 w => Do P (binOp .lss 3 (e3 7) v39) (fun v40 w => Join (fun e29 w => CallN P (pickS (e29 41) (e29 43) (Value.bool false)) (fun v44 w => Cond v44 (@Eq (List Nat) [] [] ∧ j3 (upd e29 44 v44) w) (@Eq (List Nat) [] [] ∧ j2 (upd e29 44 v44) w)) w) (fun k11 => Guard v40 true (Do P (binOp .lss 3 (e3 7) (Value.int .i64 40)) (fun v43 w => k11 (upd (upd (upd (upd (upd (upd (upd e3 37 (e3 7)) 38 (e3 0)) 39 v39) 40 v40) 41 v40) 42 (e3 7)) 43 v43) w) w) (k11 (upd (upd (upd (upd (upd (upd (upd e3 37 (e3 7)) 38 (e3 0)) 39 v39) 40 v40) 41 v40) 42 undef) 43 undef) w))) w) w)

def F5_p16 (P : Program) (K : Value → World → Prop) (e1 : Env) (w : World) : Prop :=
  CallN P (callS (fnv 9) #[]) (fun v36 w => Do P (Instr.alloc 52 true (Value.tuple #[])) (fun v5 w => JoinC P (fun e2 w => K (Value.bool true) w) (fun j2 => Loop [37, 38, 39, 40, 41, 42, 43, 44, 47, 48, 49, 50, 8, 51, 52, 53, 54, 55, 56, 57, 58, 59, 60, 61, 62, 63, 64, 2, 65, 66, 67, 68, 69, 70, 6, 71, 72, 73, 9, 74, 75, 76, 77, 78, 79, 80, 81, 82, 83, 84, 10, 85, 86, 87, 89, 88, 90, 91, 93, 94, 92, 95, 96, 11, 12, 98, 99, 100, 101, 102, 103, 97, 104, 105, 106, 14, 13, 15, 108, 109, 110, 111, 112, 113, 107, 114, 115, 116, 117, 16, 18, 17, 19, 118, 119, 120, 121, 122, 123, 124, 125, 126, 127, 128, 129, 130, 131, 132, 133, 135, 134, 136, 137, 138, 139, 140, 20, 142, 143, 144, 145, 146, 141, 147, 148, 21, 22, 149, 150, 151, 152, 153, 154, 155, 156, 157, 158, 159, 160, 161, 162, 23, 163, 164, 165, 166, 169, 170, 171, 172, 173, 174, 175, 176, 177, 167, 168, 179, 178, 180, 181, 182, 183, 184, 185, 186, 187, 188, 189, 190, 191, 192, 193, 194, 195, 196, 197, 198, 199, 200, 201, 202, 203, 204, 24, 205, 206, 207, 208, 209, 210, 211, 212, 213, 214, 215, 216, 217, 218, 219, 25, 220, 221, 224, 225, 226, 227, 228, 229, 230, 26, 232, 233, 234, 235, 231, 236, 237, 238, 27, 28, 29, 239, 240, 241, 242, 243, 244, 245, 246, 247, 248, 249, 250, 251, 252, 253, 222, 223, 254, 255, 256, 257, 258, 30, 260, 261, 262, 263, 264, 265, 259, 266, 267, 31, 32, 268, 269, 270, 271, 272, 273, 274, 275, 276, 277, 278, 279, 45, 46, 7] (upd (upd (upd (upd (upd e1 36 v36) 4 v36) 5 v5) 6 (Value.int .u64 0)) 7 (Value.int .i64 0)) w (F5_p15 P K j2))) w) w

/-- bailee/baileelaw24.AuditPlays -/
def F5 (P : Program) (K : Value → World → Prop) (v0 : Value) (w : World) : Prop :=
  CallN P (callS (fnv 8) #[]) (fun v33 w => JoinC P (F5_p16 P K) (fun j1 => Do P (Op.unary .not v33) (fun v35 w => Cond v35 (K (Value.bool false) w) (@Eq (List Nat) [] [] ∧ j1 (upd (upd (upd (upd (upd (env0 [v0]) 2 (Value.bool false)) 33 v33) 3 v33) 34 v33) 35 v35) w)) w)) w

def H5 : Hints := [(8, false, false, [], .ch 0 [] (.ch 1 [] (.ch 2 [] (.ch 3 [] (.ch 4 [] (.grp 4 true [(5, none), (6, none)] (.ch 7 [] (.done)))))))), (11, false, false, [], .ch 0 [] (.ch 1 [] (.ch 2 [] (.ch 3 [] (.ch 4 [] (.grp 4 false [(5, none), (6, none), (7, none)] (.ch 8 [] (.ch 9 [] (.grp 9 false [(10, none), (11, none), (12, none)] (.ch 13 [] (.done))))))))))), (15, true, true, [0, 0, 0, 0, 0, 0, 0, 0, 0, 0, 0, 0, 0], .rd 0 true 0 (.rd 1 false 0 (.rd 3 false 0 (.rd 4 false 0 (.rd 5 false 0 (.rd 6 false 0 (.rd 7 false 0 (.rd 8 false 0 (.rd 9 false 0 (.alt 2 [0] (.rd 10 false 0 (.ch 11 [0] (.ch 12 [] (.done)))) (.ch 11 [0] (.ch 2 [0] (.rd 10 true 0 (.ch 12 [] (.done))))))))))))))), (24, true, false, [0, 0, 0, 0, 0, 0, 0, 0, 0, 0, 0, 0, 0, 0, 0], .rd 0 true 0 (.rd 1 true 0 (.rd 2 false 0 (.rd 3 true 0 (.grp 3 false [(4, some true), (5, some true), (6, some false)] (.rd 7 false 0 (.rd 8 true 0 (.grp 8 false [(9, some false), (11, some false), (10, none), (12, none), (13, some true)] (.rd 14 true 0 (.done)))))))))), (30, true, false, [0, 0, 0, 0, 0, 0, 0, 0, 0, 0, 0, 0, 0], .rd 0 true 0 (.rd 1 false 0 (.rd 2 true 0 (.rd 3 false 0 (.rd 4 false 0 (.rd 5 true 0 (.grp 5 false [(6, some true), (8, some false), (9, some false), (10, some false), (7, none), (11, some true)] (.rd 12 true 0 (.done))))))))), (35, false, false, [], .rd 0 true 0 (.rd 1 true 0 (.rd 2 true 0 (.rd 3 true 0 (.rd 4 true 0 (.rd 5 true 0 (.rd 6 true 0 (.rd 7 true 0 (.rd 8 true 0 (.done)))))))))), (39, false, false, [], .ch 0 [] (.ch 1 [] (.ch 2 [] (.grp 2 true [(3, none), (4, none), (5, none), (6, none)] (.ch 7 [] (.done)))))), (40, true, false, [0, 0, 0, 0, 0, 0, 0, 0, 0, 0, 0, 0, 0, 0], .rd 0 false 0 (.rd 1 false 0 (.rd 2 false 0 (.rd 3 false 0 (.rd 4 false 0 (.rd 5 false 0 (.rd 6 false 0 (.rd 7 false 0 (.rd 8 false 0 (.rd 9 false 0 (.rd 10 false 0 (.rd 11 false 0 (.ch 12 [0] (.ch 13 [] (.done))))))))))))))), (50, true, false, [0, 0, 0, 0, 0, 0, 0, 0, 0, 0], .rd 0 true 0 (.rd 2 false 0 (.rd 3 false 0 (.rd 4 false 0 (.ch 1 [0] (.rd 5 true 0 (.rd 6 true 0 (.grp 6 true [(7, some true), (8, some true)] (.rd 9 true 0 (.done)))))))))), (54, true, true, [0, 0, 0, 0, 0, 0, 0, 0, 1, 0, 0, 0], .rd 0 false 0 (.rd 1 false 0 (.rd 2 false 0 (.rd 3 false 0 (.alt 4 [0] (.alt 5 [0, 1] (.rd 6 true 0 (.rd 7 false 0 (.rd 8 false 1 (.ch 9 [0, 1] (.ch 10 [1] (.rd 11 true 0 (.done))))))) (.ch 9 [0, 1] (.ch 5 [1] (.rd 6 true 0 (.rd 7 true 0 (.rd 8 false 1 (.ch 10 [1] (.rd 11 true 0 (.done))))))))) (.ch 9 [0, 1] (.ch 4 [0] (.ch 5 [1] (.rd 6 true 0 (.rd 7 true 0 (.rd 8 false 1 (.ch 10 [1] (.rd 11 true 0 (.done)))))))))))))), (56, true, false, [0, 0, 0, 0, 0, 0, 0, 0, 0, 0, 0], .rd 0 true 0 (.rd 1 true 0 (.rd 2 false 0 (.rd 3 true 0 (.grp 3 false [(4, some true), (6, some false), (7, some false), (8, some false), (5, none), (9, some true)] (.rd 10 true 0 (.done)))))))]

theorem F5_eq (K : Value → World → Prop) (v0 : Value) (w : World) : F5 Tryd.prog K v0 w = pt Tryd.prog H5 none Tryd.f5.ntmps (bodyOf Tryd.f5) (RetQ Tryd.prog Tryd.f5.results K) (env0 [v0]) [] w := by kernel_rfl

theorem F5_ok : codeOk cvTryd H5 (bodyOf Tryd.f5) = true := by kernel_rfl

theorem F5_has : Tryd.f5.body.isSome = true ∧ Nat.ble 1 Tryd.f5.ntmps = true := ⟨by kernel_rfl, by kernel_rfl⟩

theorem F5_calls {K : Value → World → Prop} {v0 : Value} {w : World} (h : F5 Tryd.prog K v0 w) : Calls Tryd.prog 5 #[v0] w (Returns K) :=
  calls_of_eq (cv := cvTryd) (H := H5) (fn := Tryd.f5) (args := [v0]) mixedTryd Tryd.func5 F5_has F5_ok (F5_eq K v0 w) h

end Go.Px
end
section
set_option linter.unusedVariables false
set_option linter.unusedSimpArgs false
set_option linter.unusedVariables false
set_option maxRecDepth 20000
namespace Go.Px
open Go Go.Proofs
def F6_p1 (P : Program) (K : Value → World → Prop) (j6 : Env → World → Prop) (e9 : Env) (w : World) : Prop :=
  Do P (Instr.indexAt 77 (e9 12) (e9 17)) (fun v110 w => Do P (Instr.fieldAt 33 v110 2) (fun v111 w => Do P (Instr.loadAt 23 v111) (fun v112 w => Do P (convert 23 3 v112) (fun v113 w => CallN P (callS (fnv 14) #[(e9 0), v113]) (fun v114 w => Do P (Instr.extract v114 0) (fun v115 w => Do P (Instr.extract v114 1) (fun v116 w => Do P (Instr.extract v114 2) (fun v117 w => Drew (fun w => Draw (fun S1 w => RdS P (S1 0) (Instr.loadAt 28 (e9 9)) (fun v120 => RdS P (S1 0) (Instr.indexAt 77 (e9 12) (e9 17)) (fun v123 => RdS P (S1 0) (Instr.fieldAt 33 v123 2) (fun v124 => RdS P (S1 0) (Instr.loadAt 23 v124) (fun v125 => RdS P (S1 0) (Instr.indexAt 77 (e9 12) (e9 17)) (fun v128 => RdS P (S1 0) (Instr.fieldAt 33 v128 3) (fun v129 => RdS P (S1 0) (Instr.loadAt 23 v129) (fun v130 => RdNow P (Instr.build 33 #[(0, (Value.int .i64 7)), (1, v120), (2, v125), (3, v130), (4, v115), (5, v116)]) w (fun v133 => CallN P (callS (fnv 15) #[(e9 8), (e9 17), v133]) (fun v134 w => RdNow P (eqS .neq 3 false true v134 (Value.int .i64 0)) w (fun v135 => Cond v135 (K (Value.bool false) w) (@Eq (List Nat) [] [] ∧ j6 (upd (upd (upd (upd (upd (upd (upd (upd (upd (upd (upd (upd (upd (upd (upd (upd (upd (upd (upd (upd (upd (upd (upd (upd (upd (upd (upd (upd (upd (upd (upd (upd (upd e9 107 (e9 0)) 108 (e9 12)) 109 (e9 17)) 110 v110) 111 v111) 112 v112) 113 v113) 114 v114) 106 v114) 115 v115) 116 v116) 117 v117) 20 v115) 21 v116) 22 v117) 118 (e9 8)) 119 (e9 17)) 120 v120) 121 (e9 12)) 122 (e9 17)) 123 v123) 124 v124) 125 v125) 126 (e9 12)) 127 (e9 17)) 128 v128) 129 v129) 130 v130) 131 v115) 132 v116) 133 v133) 134 v134) 135 v135) w))) w))))))))) w) w) w) w) w) w) w) w) w) w

def F6_p2 (P : Program) (K : Value → World → Prop) (j6 : Env → World → Prop) (e8 : Env) (w : World) : Prop :=
  CallN P (callS (fnv 24) #[(e8 8), (e8 18), (e8 11)]) (fun v95 w => JoinC P (F6_p1 P K j6) (fun j8 => CallN P (builtin .len #[65] 3 #[false] #[v95]) (fun v97 w => Do P (eqS .neq 3 false true v97 (Value.int .i64 1)) (fun v98 w => Join (fun e10 w => CallN P (pickS (e10 99) (Value.bool true) (e10 104)) (fun v105 w => Cond v105 (K (Value.bool false) w) (@Eq (List Nat) [] [] ∧ j8 (upd e10 105 v105) w)) w) (fun k1 => Guard v98 false (Do P (Instr.indexAt 65 v95 (Value.int .i64 0)) (fun v101 w => Do P (Instr.loadAt 3 v101) (fun v102 w => Do P (eqS .neq 3 false false v102 (e8 17)) (fun v104 w => k1 (upd (upd (upd (upd (upd (upd (upd (upd (upd (upd (upd (upd (upd (upd e8 92 (e8 8)) 93 (e8 18)) 94 (e8 11)) 95 v95) 19 v95) 96 v95) 97 v97) 98 v98) 99 v98) 100 v95) 101 v101) 102 v102) 103 (e8 17)) 104 v104) w) w) w) w) (k1 (upd (upd (upd (upd (upd (upd (upd (upd (upd (upd (upd (upd (upd (upd e8 92 (e8 8)) 93 (e8 18)) 94 (e8 11)) 95 v95) 19 v95) 96 v95) 97 v97) 98 v98) 99 v98) 100 undef) 101 undef) 102 undef) 103 undef) 104 undef) w))) w) w)) w

def F6_p3 (P : Program) (next1 : Env → World → Prop) (K : Value → World → Prop) (e6 : Env) (w : World) : Prop :=
  JoinC P (fun e7 w => Do P (binOp .add 3 (e7 17) (Value.int .i64 1)) (fun v76 w => @Eq (List Nat) [] [] ∧ next1 (upd (upd (upd e7 75 (e7 17)) 76 v76) 17 v76) w) w) (fun j6 => Do P (convert 3 23 (e6 17)) (fun v78 w => Do P (binOp .add 23 v78 (e6 11)) (fun v80 w => JoinC P (F6_p2 P K j6) (fun j7 => Do P (eqS .eql 3 false true (e6 17) (Value.int .i64 0)) (fun v82 w => Join (fun e11 w => CallN P (pickS (e11 83) (e11 90) (Value.bool false)) (fun v91 w => Cond v91 (K (Value.bool false) w) (@Eq (List Nat) [] [] ∧ j7 (upd e11 91 v91) w)) w) (fun k2 => Guard v82 true (Do P (binOp .sub 23 v80 (Value.int .u64 1)) (fun v86 w => CallN P (callS (fnv 24) #[(e6 8), v86, (e6 11)]) (fun v88 w => CallN P (builtin .len #[65] 3 #[false] #[v88]) (fun v89 w => Do P (binOp .gtr 3 v89 (Value.int .i64 0)) (fun v90 w => k2 (upd (upd (upd (upd (upd (upd (upd (upd (upd (upd (upd (upd (upd (upd (upd e6 77 (e6 17)) 78 v78) 79 (e6 11)) 80 v80) 18 v80) 81 (e6 17)) 82 v82) 83 v82) 84 (e6 8)) 85 v80) 86 v86) 87 (e6 11)) 88 v88) 89 v89) 90 v90) w) w) w) w) w) (k2 (upd (upd (upd (upd (upd (upd (upd (upd (upd (upd (upd (upd (upd (upd (upd e6 77 (e6 17)) 78 v78) 79 (e6 11)) 80 v80) 18 v80) 81 (e6 17)) 82 v82) 83 v82) 84 undef) 85 undef) 86 undef) 87 undef) 88 undef) 89 undef) 90 undef) w))) w)) w) w)

def F6_p4 (P : Program) (K : Value → World → Prop) (e3 : Env) (w : World) : Prop :=
  JoinC P (fun e4 w => CallN P (callS (fnv 13) #[(e4 8)]) (fun v137 w => Do P (eqS .eql 3 false true v137 (Value.int .i64 0)) (fun v138 w => K v138 w) w) w) (fun j4 => Loop [72, 73, 74, 77, 78, 79, 80, 18, 81, 82, 83, 84, 85, 86, 87, 88, 89, 90, 91, 6, 92, 93, 94, 95, 19, 96, 97, 98, 99, 100, 101, 102, 103, 104, 105, 107, 108, 109, 110, 111, 112, 113, 114, 106, 115, 116, 117, 20, 21, 22, 118, 119, 120, 121, 122, 123, 124, 125, 126, 127, 128, 129, 130, 131, 132, 133, 134, 135, 75, 76, 17] (upd e3 17 (Value.int .i64 0)) w (fun e5 next1 w => JoinC P (F6_p3 P next1 K) (fun j5 => Do P (binOp .lss 3 (e5 17) (e5 10)) (fun v74 w => Cond v74 (@Eq (List Nat) [] [] ∧ j5 (upd (upd (upd e5 72 (e5 17)) 73 (e5 10)) 74 v74) w) (@Eq (List Nat) [] [] ∧ j4 (upd (upd (upd e5 72 (e5 17)) 73 (e5 10)) 74 v74) w)) w)))

def F6_p5 (P : Program) (next2 : Env → World → Prop) (K : Value → World → Prop) (e13 : Env) (w : World) : Prop :=
  JoinC P (fun e14 w => Do P (binOp .add 3 (e14 13) (Value.int .i64 1)) (fun v49 w => @Eq (List Nat) [] [] ∧ next2 (upd (upd (upd e14 48 (e14 13)) 49 v49) 13 v49) w) w) (fun j10 => Join (fun e15 w => JoinC P (fun e16 w => Do P (Instr.loadAt 33 (e16 15)) (fun v69 w => Do P (Instr.buildSlice 77 1 #[(0, v69)]) (fun v70 w => CallN P (builtin .append #[77, 77] 77 #[false, false] #[(e16 12), v70]) (fun v71 w => @Eq (List Nat) [] [] ∧ j10 (upd (upd (upd (upd (upd e16 68 (e16 12)) 69 v69) 70 v70) 71 v71) 12 v71) w) w) w) w) (fun j11 => Do P (Op.unary .not (e15 16)) (fun v67 w => Cond v67 (K (Value.bool false) w) (@Eq (List Nat) [] [] ∧ j11 (upd (upd e15 66 (e15 16)) 67 v67) w)) w)) (fun k3 => Drew (fun w => Draw (fun S2 w => RdS P (S2 0) (Instr.loadAt 28 (e13 9)) (fun v53 => RdS P (S2 0) (convert 3 23 (e13 13)) (fun v59 => RdS P (S2 0) (convert 3 23 (e13 13)) (fun v61 => (CallN P (callS (fnv 11) #[(e13 0)]) (fun v55 w => S2 0 w ∧ (RdS P (S2 0) (Instr.build 37 #[(0, (e13 13)), (1, v53), (2, v55)]) (fun v56 => (Do P (Instr.buildSlice 38 1 #[(0, v56)]) (fun v57 w => S2 0 w ∧ ((CallN P (callS (fnv 12) #[(e13 8), v57, v59, v61]) (fun v62 w => S2 0 w ∧ (S2 1 w ∧ (RdS P (S2 0) (Instr.extract v62 0) (fun v63 => RdS P (S2 0) (Instr.extract v62 1) (fun v64 => RdS P (S2 1) (Instr.extract v62 2) (fun v65 => Do P (Instr.alloc 33 true (Value.tuple #[])) (fun v15 w => S2 0 w ∧ (S2 1 w ∧ (Do P (Instr.storeAt 33 v15 v64) (fun _ w => S2 1 w ∧ (k3 (upd (upd (upd (upd (upd (upd (upd (upd (upd (upd (upd (upd (upd (upd (upd (upd (upd (upd (upd e13 51 (e13 8)) 52 (e13 13)) 53 v53) 54 (e13 0)) 58 (e13 13)) 59 v59) 60 (e13 13)) 61 v61) 55 v55) 56 v56) 57 v57) 62 v62) 50 v62) 63 v63) 64 v64) 65 v65) 15 v15) 14 v63) 16 v65) w)) w))) w)))))) w) ∧ (Do P (Instr.alloc 33 true (Value.tuple #[])) (fun v15_1 w => S2 0 w ∧ (S2 1 w ∧ (CallN P (callS (fnv 12) #[(e13 8), v57, v59, v61]) (fun v62_1 w => S2 1 w ∧ (RdNow P (Instr.extract v62_1 0) w (fun v63_1 => RdNow P (Instr.extract v62_1 1) w (fun v64_1 => RdS P (S2 1) (Instr.extract v62_1 2) (fun v65_1 => Do P (Instr.storeAt 33 v15_1 v64_1) (fun _ w => S2 1 w ∧ (k3 (upd (upd (upd (upd (upd (upd (upd (upd (upd (upd (upd (upd (upd (upd (upd (upd (upd (upd (upd e13 51 (e13 8)) 52 (e13 13)) 53 v53) 54 (e13 0)) 58 (e13 13)) 59 v59) 60 (e13 13)) 61 v61) 55 v55) 56 v56) 57 v57) 15 v15_1) 62 v62_1) 50 v62_1) 63 v63_1) 64 v64_1) 65 v65_1) 14 v63_1) 16 v65_1) w)) w))))) w))) w))) w) ∧ (Do P (Instr.alloc 33 true (Value.tuple #[])) (fun v15_2 w => S2 0 w ∧ (S2 1 w ∧ (Do P (Instr.buildSlice 38 1 #[(0, v56)]) (fun v57_1 w => S2 0 w ∧ (CallN P (callS (fnv 12) #[(e13 8), v57_1, v59, v61]) (fun v62_2 w => S2 1 w ∧ (RdNow P (Instr.extract v62_2 0) w (fun v63_2 => RdNow P (Instr.extract v62_2 1) w (fun v64_2 => RdS P (S2 1) (Instr.extract v62_2 2) (fun v65_2 => Do P (Instr.storeAt 33 v15_2 v64_2) (fun _ w => S2 1 w ∧ (k3 (upd (upd (upd (upd (upd (upd (upd (upd (upd (upd (upd (upd (upd (upd (upd (upd (upd (upd (upd e13 51 (e13 8)) 52 (e13 13)) 53 v53) 54 (e13 0)) 58 (e13 13)) 59 v59) 60 (e13 13)) 61 v61) 55 v55) 56 v56) 15 v15_2) 57 v57_1) 62 v62_2) 50 v62_2) 63 v63_2) 64 v64_2) 65 v65_2) 14 v63_2) 16 v65_2) w)) w))))) w)) w))) w)))) w) ∧ (Do P (Instr.alloc 33 true (Value.tuple #[])) (fun v15_3 w => S2 0 w ∧ (S2 1 w ∧ (CallN P (callS (fnv 11) #[(e13 0)]) (fun v55_1 w => S2 0 w ∧ (RdS P (S2 0) (Instr.build 37 #[(0, (e13 13)), (1, v53), (2, v55_1)]) (fun v56_1 => Do P (Instr.buildSlice 38 1 #[(0, v56_1)]) (fun v57_2 w => S2 0 w ∧ (CallN P (callS (fnv 12) #[(e13 8), v57_2, v59, v61]) (fun v62_3 w => S2 1 w ∧ (RdNow P (Instr.extract v62_3 0) w (fun v63_3 => RdNow P (Instr.extract v62_3 1) w (fun v64_3 => RdS P (S2 1) (Instr.extract v62_3 2) (fun v65_3 => Do P (Instr.storeAt 33 v15_3 v64_3) (fun _ w => S2 1 w ∧ (k3 (upd (upd (upd (upd (upd (upd (upd (upd (upd (upd (upd (upd (upd (upd (upd (upd (upd (upd (upd e13 51 (e13 8)) 52 (e13 13)) 53 v53) 54 (e13 0)) 58 (e13 13)) 59 v59) 60 (e13 13)) 61 v61) 15 v15_3) 55 v55_1) 56 v56_1) 57 v57_2) 62 v62_3) 50 v62_3) 63 v63_3) 64 v64_3) 65 v65_3) 14 v63_3) 16 v65_3) w)) w))))) w)) w))) w))) w))))) w) w))

def F6_p6 (P : Program) (K : Value → World → Prop) (e2 : Env) (w : World) : Prop :=
  CallN P (callS (fnv 9) #[]) (fun v34 w => CallN P (callS (fnv 10) #[(e2 0)]) (fun v36 w => Do P (Instr.alloc 28 true (Value.tuple #[])) (fun v9 w => Do P (Instr.storeAt 28 v9 v36) (fun _ w => Do P (binOp .rem 5 (e2 1) (Value.int .u8 8)) (fun v38 w => Do P (convert 5 3 v38) (fun v39 w => Do P (binOp .add 3 v39 (Value.int .i64 1)) (fun v40 w => Do P (binOp .rem 5 (e2 2) (Value.int .u8 20)) (fun v42 w => Do P (convert 5 23 v42) (fun v43 w => Do P (binOp .add 23 v43 (Value.int .u64 1)) (fun v44 w => JoinC P (F6_p4 P K) (fun j3 => Loop [45, 46, 47, 51, 52, 53, 54, 55, 56, 57, 58, 59, 60, 61, 62, 50, 63, 64, 65, 15, 14, 16, 66, 67, 6, 68, 69, 70, 71, 12, 48, 49, 13] (upd (upd (upd (upd (upd (upd (upd (upd (upd (upd (upd (upd (upd (upd (upd (upd (upd e2 34 v34) 8 v34) 35 (e2 0)) 36 v36) 9 v9) 37 (e2 1)) 38 v38) 39 v39) 40 v40) 10 v40) 41 (e2 2)) 42 v42) 43 v43) 44 v44) 11 v44) 12 (Value.slice none 0 0)) 13 (Value.int .i64 0)) w (fun e12 next2 w => JoinC P (F6_p5 P next2 K) (fun j9 => Do P (binOp .lss 3 (e12 13) (e12 10)) (fun v47 w => Cond v47 (@Eq (List Nat) [] [] ∧ j9 (upd (upd (upd e12 45 (e12 13)) 46 (e12 10)) 47 v47) w) (@Eq (List Nat) [] [] ∧ j3 (upd (upd (upd e12 45 (e12 13)) 46 (e12 10)) 47 v47) w)) w)))) w) w) w) w) w) w) w) w) w) w

def F6_p7 (P : Program) (K : Value → World → Prop) (e1 : Env) (w : World) : Prop :=
  JoinC P (F6_p6 P K) (fun j2 => CallN P (builtin .len #[22] 3 #[false] #[(e1 0)]) (fun v27 w => Do P (eqS .eql 3 false true v27 (Value.int .i64 0)) (fun v28 w => Join (fun e17 w => CallN P (pickS (e17 29) (Value.bool true) (e17 32)) (fun v33 w => Cond v33 (K (Value.bool true) w) (@Eq (List Nat) [] [] ∧ j2 (upd e17 33 v33) w)) w) (fun k4 => Guard v28 false (CallN P (builtin .len #[22] 3 #[false] #[(e1 0)]) (fun v31 w => Do P (binOp .gtr 3 v31 (Value.int .i64 300)) (fun v32 w => k4 (upd (upd (upd (upd (upd (upd (upd e1 26 (e1 0)) 27 v27) 28 v28) 29 v28) 30 (e1 0)) 31 v31) 32 v32) w) w) w) (k4 (upd (upd (upd (upd (upd (upd (upd e1 26 (e1 0)) 27 v27) 28 v28) 29 v28) 30 undef) 31 undef) 32 undef) w))) w) w)

/-- bailee/baileelaw24.AuditLate -/
def F6 (P : Program) (K : Value → World → Prop) (v0 v1 v2 : Value) (w : World) : Prop :=
  CallN P (callS (fnv 8) #[]) (fun v23 w => JoinC P (F6_p7 P K) (fun j1 => Do P (Op.unary .not v23) (fun v25 w => Cond v25 (K (Value.bool false) w) (@Eq (List Nat) [] [] ∧ j1 (upd (upd (upd (upd (upd (env0 [v0, v1, v2]) 6 (Value.bool false)) 23 v23) 7 v23) 24 v23) 25 v25) w)) w)) w

def H6 : Hints := [(4, false, false, [], .ch 0 [] (.ch 1 [] (.ch 2 [] (.ch 3 [] (.grp 3 false [(4, none), (5, none), (6, none)] (.ch 7 [] (.done))))))), (14, true, true, [0, 0, 0, 0, 0, 0, 0, 0, 0, 0, 0, 0, 0, 0, 0, 1, 0, 0, 0, 0], .rd 0 true 0 (.rd 1 true 0 (.rd 2 false 0 (.rd 3 true 0 (.rd 7 true 0 (.rd 8 false 0 (.rd 9 true 0 (.rd 10 false 0 (.alt 4 [0] (.rd 5 false 0 (.alt 6 [0] (.alt 11 [0, 1] (.rd 12 true 0 (.rd 13 false 0 (.rd 14 false 0 (.rd 15 false 1 (.ch 16 [0, 1] (.rd 17 true 0 (.ch 18 [1] (.rd 19 true 0 (.done))))))))) (.ch 16 [0, 1] (.ch 11 [1] (.rd 12 true 0 (.rd 13 true 0 (.rd 14 true 0 (.rd 15 false 1 (.rd 17 true 0 (.ch 18 [1] (.rd 19 true 0 (.done))))))))))) (.ch 16 [0, 1] (.ch 6 [0] (.ch 11 [1] (.rd 12 true 0 (.rd 13 true 0 (.rd 14 true 0 (.rd 15 false 1 (.rd 17 true 0 (.ch 18 [1] (.rd 19 true 0 (.done))))))))))))) (.ch 16 [0, 1] (.ch 4 [0] (.rd 5 false 0 (.ch 6 [0] (.ch 11 [1] (.rd 12 true 0 (.rd 13 true 0 (.rd 14 true 0 (.rd 15 false 1 (.rd 17 true 0 (.ch 18 [1] (.rd 19 true 0 (.done)))))))))))))))))))))), (22, false, false, [], .ch 0 [] (.ch 1 [] (.ch 2 [] (.grp 2 true [(3, none), (4, none), (5, none), (6, none), (7, none), (8, none), (9, none)] (.ch 10 [] (.done)))))), (25, false, false, [], .ch 0 [] (.ch 1 [] (.ch 2 [] (.ch 3 [] (.grp 3 false [(4, none), (5, none), (6, none), (7, none), (8, none)] (.ch 9 [] (.done))))))), (28, true, false, [0, 0, 0, 0, 0, 0, 0, 0, 0, 0, 0, 0, 0, 0, 0, 0, 0, 0], .rd 0 true 0 (.rd 1 true 0 (.rd 2 false 0 (.rd 3 true 0 (.rd 4 true 0 (.rd 5 false 0 (.rd 6 false 0 (.rd 7 false 0 (.rd 8 true 0 (.rd 9 true 0 (.rd 10 false 0 (.rd 11 false 0 (.rd 12 false 0 (.rd 13 true 0 (.rd 14 true 0 (.rd 15 true 0 (.ch 16 [] (.rd 17 true 0 (.done)))))))))))))))))))]

theorem F6_eq (K : Value → World → Prop) (v0 v1 v2 : Value) (w : World) : F6 Tryd.prog K v0 v1 v2 w = pt Tryd.prog H6 none Tryd.f6.ntmps (bodyOf Tryd.f6) (RetQ Tryd.prog Tryd.f6.results K) (env0 [v0, v1, v2]) [] w := by kernel_rfl

theorem F6_ok : codeOk cvTryd H6 (bodyOf Tryd.f6) = true := by kernel_rfl

theorem F6_has : Tryd.f6.body.isSome = true ∧ Nat.ble 3 Tryd.f6.ntmps = true := ⟨by kernel_rfl, by kernel_rfl⟩

theorem F6_calls {K : Value → World → Prop} {v0 v1 v2 : Value} {w : World} (h : F6 Tryd.prog K v0 v1 v2 w) : Calls Tryd.prog 6 #[v0, v1, v2] w (Returns K) :=
  calls_of_eq (cv := cvTryd) (H := H6) (fn := Tryd.f6) (args := [v0, v1, v2]) mixedTryd Tryd.func6 F6_has F6_ok (F6_eq K v0 v1 v2 w) h

def F7_p1 (P : Program) (S3 : Nat → World → Prop) (K : Value → World → Prop) (j6 : Env → World → Prop) (e8 : Env) (w : World) : Prop :=
  RdSN P (S3 0) (pickS (e8 153) (Value.bool true) (e8 161)) (fun v162 => Join (fun e9 w => RdNowN P (pickS (e9 163) (Value.bool true) (e9 171)) w (fun v172 => Cond v172 (K (Value.bool false) w) (@Eq (List Nat) [] [] ∧ j6 (upd e9 172 v172) w))) (fun k2 => Guard v162 false (RdSN P (S3 0) (builtin .len #[77] 3 #[false] #[(e8 12)]) (fun v167 => RdS P (S3 0) (binOp .sub 3 v167 (Value.int .i64 1)) (fun v168 => RdS P (S3 0) (binOp .sub 3 v168 (e8 17)) (fun v170 => CallN P (callS (fnv 13) #[(e8 8)]) (fun v165 w => (S3 0) w ∧ (RdNow P (eqS .neq 3 false false v165 v170) w (fun v171 => k2 (upd (upd (upd (upd (upd (upd (upd (upd (upd (upd e8 162 v162) 163 v162) 164 (e8 8)) 166 (e8 12)) 167 v167) 168 v168) 169 (e8 17)) 170 v170) 165 v165) 171 v171) w))) w)))) (k2 (upd (upd (upd (upd (upd (upd (upd (upd (upd (upd e8 162 v162) 163 v162) 164 undef) 166 undef) 167 undef) 168 undef) 169 undef) 170 undef) 165 undef) 171 undef) w)))

def F7_p2 (P : Program) (next1 : Env → World → Prop) (K : Value → World → Prop) (e6 : Env) (w : World) : Prop :=
  JoinC P (fun e7 w => Do P (binOp .add 3 (e7 17) (Value.int .i64 1)) (fun v110 w => @Eq (List Nat) [] [] ∧ next1 (upd (upd (upd e7 109 (e7 17)) 110 v110) 17 v110) w) w) (fun j6 => Do P (convert 5 3 (e6 2)) (fun v113 w => Do P (binOp .add 3 (e6 17) v113) (fun v114 w => CallN P (builtin .len #[77] 3 #[false] #[(e6 12)]) (fun v116 w => Do P (binOp .rem 3 v114 v116) (fun v117 w => Do P (Instr.indexAt 77 (e6 12) v117) (fun v122 w => Do P (Instr.fieldAt 33 v122 2) (fun v123 w => Do P (Instr.loadAt 23 v123) (fun v124 w => Do P (convert 23 3 v124) (fun v125 w => CallN P (callS (fnv 14) #[(e6 0), v125]) (fun v126 w => Do P (Instr.extract v126 0) (fun v127 w => Do P (Instr.extract v126 1) (fun v128 w => Do P (Instr.extract v126 2) (fun v129 w => Drew (fun w => Draw (fun S2 w => RdS P (S2 0) (Instr.loadAt 28 (e6 9)) (fun v130 => RdS P (S2 0) (Instr.indexAt 77 (e6 12) v117) (fun v133 => RdS P (S2 0) (Instr.fieldAt 33 v133 2) (fun v134 => RdS P (S2 0) (Instr.loadAt 23 v134) (fun v135 => RdS P (S2 0) (Instr.indexAt 77 (e6 12) v117) (fun v138 => RdS P (S2 0) (Instr.fieldAt 33 v138 3) (fun v139 => RdS P (S2 0) (Instr.loadAt 23 v139) (fun v140 => RdS P (S2 0) (Instr.build 33 #[(0, (Value.int .i64 7)), (1, v130), (2, v135), (3, v140), (4, v127), (5, v128)]) (fun v143 => Do P (Instr.alloc 33 true (Value.tuple #[])) (fun v22 w => S2 0 w ∧ (Do P (Instr.storeAt 33 v22 v143) (fun _ w => Drew (fun w => Draw (fun S3 w => RdS P (S3 0) (Instr.indexAt 65 (e6 11) v117) (fun v147 => RdS P (S3 0) (Instr.loadAt 3 v147) (fun v148 => RdS P (S3 0) (binOp .sub 3 (Value.int .i64 10) v148) (fun v149 => RdS P (S3 0) (Instr.loadAt 33 v22) (fun v150 => CallN P (callS (fnv 15) #[(e6 8), v149, v150]) (fun v151 w => S3 0 w ∧ (RdS P (S3 0) (eqS .neq 3 false true v151 (Value.int .i64 0)) (fun v152 => Join (F7_p1 P S3 K j6) (fun k1 => Guard v152 false (RdS P (S3 0) (Instr.indexAt 65 (e6 11) v117) (fun v157 => RdS P (S3 0) (Instr.loadAt 3 v157) (fun v158 => RdS P (S3 0) (Instr.loadAt 33 v22) (fun v159 => CallN P (callS (fnv 15) #[(e6 8), v158, v159]) (fun v160 w => (S3 0) w ∧ (RdS P (S3 0) (eqS .neq 3 false true v160 (Value.int .i64 1)) (fun v161 => k1 (upd (upd (upd (upd (upd (upd (upd (upd (upd (upd (upd (upd (upd (upd (upd (upd (upd (upd (upd (upd (upd (upd (upd (upd (upd (upd (upd (upd (upd (upd (upd (upd (upd (upd (upd (upd (upd (upd (upd (upd (upd (upd (upd (upd (upd (upd (upd (upd (upd (upd (upd (upd (upd (upd (upd (upd e6 111 (e6 17)) 112 (e6 2)) 113 v113) 114 v114) 115 (e6 12)) 116 v116) 117 v117) 18 v117) 119 (e6 0)) 120 (e6 12)) 121 v117) 122 v122) 123 v123) 124 v124) 125 v125) 126 v126) 118 v126) 127 v127) 128 v128) 129 v129) 19 v127) 20 v128) 21 v129) 130 v130) 131 (e6 12)) 132 v117) 133 v133) 134 v134) 135 v135) 136 (e6 12)) 137 v117) 138 v138) 139 v139) 140 v140) 141 v127) 142 v128) 143 v143) 22 v22) 144 (e6 8)) 145 (e6 11)) 146 v117) 147 v147) 148 v148) 149 v149) 150 v150) 151 v151) 152 v152) 153 v152) 154 (e6 8)) 155 (e6 11)) 156 v117) 157 v157) 158 v158) 159 v159) 160 v160) 161 v161) w))) w)))) (k1 (upd (upd (upd (upd (upd (upd (upd (upd (upd (upd (upd (upd (upd (upd (upd (upd (upd (upd (upd (upd (upd (upd (upd (upd (upd (upd (upd (upd (upd (upd (upd (upd (upd (upd (upd (upd (upd (upd (upd (upd (upd (upd (upd (upd (upd (upd (upd (upd (upd (upd (upd (upd (upd (upd (upd (upd e6 111 (e6 17)) 112 (e6 2)) 113 v113) 114 v114) 115 (e6 12)) 116 v116) 117 v117) 18 v117) 119 (e6 0)) 120 (e6 12)) 121 v117) 122 v122) 123 v123) 124 v124) 125 v125) 126 v126) 118 v126) 127 v127) 128 v128) 129 v129) 19 v127) 20 v128) 21 v129) 130 v130) 131 (e6 12)) 132 v117) 133 v133) 134 v134) 135 v135) 136 (e6 12)) 137 v117) 138 v138) 139 v139) 140 v140) 141 v127) 142 v128) 143 v143) 22 v22) 144 (e6 8)) 145 (e6 11)) 146 v117) 147 v147) 148 v148) 149 v149) 150 v150) 151 v151) 152 v152) 153 v152) 154 undef) 155 undef) 156 undef) 157 undef) 158 undef) 159 undef) 160 undef) 161 undef) w))))) w))))) w) w) w)) w))))))))) w) w) w) w) w) w) w) w) w) w) w) w) w) w)

def F7_p3 (P : Program) (K : Value → World → Prop) (e3 : Env) (w : World) : Prop :=
  JoinC P (fun e4 w => CallN P (callS (fnv 24) #[(e4 8), (Value.int .u64 100), (Value.int .u64 0)]) (fun v174 w => CallN P (builtin .len #[65] 3 #[false] #[v174]) (fun v175 w => Do P (eqS .eql 3 false true v175 (Value.int .i64 0)) (fun v176 w => K v176 w) w) w) w) (fun j4 => Loop [105, 106, 107, 108, 111, 112, 113, 114, 115, 116, 117, 18, 119, 120, 121, 122, 123, 124, 125, 126, 118, 127, 128, 129, 19, 20, 21, 130, 131, 132, 133, 134, 135, 136, 137, 138, 139, 140, 141, 142, 143, 22, 144, 145, 146, 147, 148, 149, 150, 151, 152, 153, 154, 155, 156, 157, 158, 159, 160, 161, 162, 163, 164, 165, 166, 167, 168, 169, 170, 171, 172, 6, 109, 110, 17] (upd e3 17 (Value.int .i64 0)) w (fun e5 next1 w => JoinC P (F7_p2 P next1 K) (fun j5 => CallN P (builtin .len #[77] 3 #[false] #[(e5 12)]) (fun v107 w => Do P (binOp .lss 3 (e5 17) v107) (fun v108 w => Cond v108 (@Eq (List Nat) [] [] ∧ j5 (upd (upd (upd (upd e5 105 (e5 17)) 106 (e5 12)) 107 v107) 108 v108) w) (@Eq (List Nat) [] [] ∧ j4 (upd (upd (upd (upd e5 105 (e5 17)) 106 (e5 12)) 107 v107) 108 v108) w)) w) w)))

def F7_p4 (P : Program) (j8 : Env → World → Prop) (e13 : Env) (w : World) : Prop :=
  Do P (Instr.buildSlice 65 1 #[(0, (e13 14))]) (fun v99 w => CallN P (builtin .append #[65, 65] 65 #[false, false] #[(e13 11), v99]) (fun v100 w => Do P (Instr.loadAt 33 (e13 15)) (fun v102 w => Do P (Instr.buildSlice 77 1 #[(0, v102)]) (fun v103 w => CallN P (builtin .append #[77, 77] 77 #[false, false] #[(e13 12), v103]) (fun v104 w => @Eq (List Nat) [] [] ∧ j8 (upd (upd (upd (upd (upd (upd (upd (upd (upd (upd e13 97 (e13 11)) 98 (e13 14)) 99 v99) 100 v100) 11 v100) 101 (e13 12)) 102 v102) 103 v103) 104 v104) 12 v104) w) w) w) w) w) w

def F7_p5 (P : Program) (K : Value → World → Prop) (j9 : Env → World → Prop) (e14 : Env) (w : World) : Prop :=
  CallN P (pickS (e14 75) (Value.bool true) (e14 81)) (fun v82 w => Join (fun e15 w => CallN P (pickS (e15 83) (Value.bool true) (e15 95)) (fun v96 w => Cond v96 (K (Value.bool false) w) (@Eq (List Nat) [] [] ∧ j9 (upd e15 96 v96) w)) w) (fun k4 => Guard v82 false (Do P (Instr.indexAt 79 (e14 1) (e14 13)) (fun v88 w => Do P (Instr.loadAt 23 v88) (fun v89 w => Do P (binOp .and 23 v89 (Value.int .u64 1)) (fun v90 w => Do P (convert 23 3 v90) (fun v91 w => Do P (Instr.indexAt 38 (e14 10) v91) (fun v92 w => Do P (Instr.fieldAt 37 v92 0) (fun v93 w => Do P (Instr.loadAt 3 v93) (fun v94 w => Do P (eqS .neq 3 false false (e14 14) v94) (fun v95 w => k4 (upd (upd (upd (upd (upd (upd (upd (upd (upd (upd (upd (upd (upd (upd e14 82 v82) 83 v82) 84 (e14 14)) 85 (e14 10)) 86 (e14 1)) 87 (e14 13)) 88 v88) 89 v89) 90 v90) 91 v91) 92 v92) 93 v93) 94 v94) 95 v95) w) w) w) w) w) w) w) w) w) (k4 (upd (upd (upd (upd (upd (upd (upd (upd (upd (upd (upd (upd (upd (upd e14 82 v82) 83 v82) 84 undef) 85 undef) 86 undef) 87 undef) 88 undef) 89 undef) 90 undef) 91 undef) 92 undef) 93 undef) 94 undef) 95 undef) w))) w

def F7_p6 (P : Program) (next2 : Env → World → Prop) (K : Value → World → Prop) (e11 : Env) (w : World) : Prop :=
  JoinC P (fun e12 w => Do P (binOp .add 3 (e12 13) (Value.int .i64 1)) (fun v61 w => @Eq (List Nat) [] [] ∧ next2 (upd (upd (upd e12 60 (e12 13)) 61 v61) 13 v61) w) w) (fun j8 => Do P (Instr.indexAt 79 (e11 1) (e11 13)) (fun v67 w => Do P (Instr.loadAt 23 v67) (fun v68 w => CallN P (callS (fnv 12) #[(e11 8), (e11 10), v68, (Value.int .u64 1)]) (fun v69 w => Do P (Instr.extract v69 0) (fun v70 w => Do P (Instr.extract v69 1) (fun v71 w => Do P (Instr.extract v69 2) (fun v72 w => Do P (Instr.alloc 33 true (Value.tuple #[])) (fun v15 w => Do P (Instr.storeAt 33 v15 v71) (fun _ w => JoinC P (F7_p4 P j8) (fun j9 => Do P (Op.unary .not v72) (fun v74 w => Join (F7_p5 P K j9) (fun k3 => Guard v74 false (Do P (Instr.fieldAt 33 v15 3) (fun v76 w => Do P (Instr.loadAt 23 v76) (fun v77 w => Do P (convert 3 23 (e11 13)) (fun v79 w => Do P (binOp .add 23 v79 (Value.int .u64 1)) (fun v80 w => Do P (eqS .neq 23 false false v77 v80) (fun v81 w => k3 (upd (upd (upd (upd (upd (upd (upd (upd (upd (upd (upd (upd (upd (upd (upd (upd (upd (upd (upd (upd (upd (upd (upd e11 63 (e11 8)) 64 (e11 10)) 65 (e11 1)) 66 (e11 13)) 67 v67) 68 v68) 69 v69) 62 v69) 70 v70) 71 v71) 72 v72) 15 v15) 14 v70) 16 v72) 73 v72) 74 v74) 75 v74) 76 v76) 77 v77) 78 (e11 13)) 79 v79) 80 v80) 81 v81) w) w) w) w) w) w) (k3 (upd (upd (upd (upd (upd (upd (upd (upd (upd (upd (upd (upd (upd (upd (upd (upd (upd (upd (upd (upd (upd (upd (upd e11 63 (e11 8)) 64 (e11 10)) 65 (e11 1)) 66 (e11 13)) 67 v67) 68 v68) 69 v69) 62 v69) 70 v70) 71 v71) 72 v72) 15 v15) 14 v70) 16 v72) 73 v72) 74 v74) 75 v74) 76 undef) 77 undef) 78 undef) 79 undef) 80 undef) 81 undef) w))) w)) w) w) w) w) w) w) w) w)

def F7_p7 (P : Program) (K : Value → World → Prop) (e2 : Env) (w : World) : Prop :=
  CallN P (callS (fnv 9) #[]) (fun v44 w => CallN P (callS (fnv 10) #[(e2 0)]) (fun v46 w => Do P (Instr.alloc 28 true (Value.tuple #[])) (fun v9 w => Do P (Instr.storeAt 28 v9 v46) (fun _ w => Drew (fun w => Draw (fun S1 w => RdS P (S1 0) (Instr.loadAt 28 v9) (fun v47 => RdS P (S1 0) (Instr.loadAt 28 v9) (fun v51 => CallN P (callS (fnv 11) #[(e2 0)]) (fun v49 w => S1 0 w ∧ (RdS P (S1 0) (Instr.build 37 #[(0, (Value.int .i64 3)), (1, v47), (2, v49)]) (fun v50 => CallN P (callS (fnv 11) #[(e2 0)]) (fun v53 w => S1 0 w ∧ (RdNow P (Instr.build 37 #[(0, (Value.int .i64 7)), (1, v51), (2, v53)]) w (fun v54 => Do P (Instr.buildSlice 38 2 #[(0, v50), (1, v54)]) (fun v55 w => JoinC P (F7_p3 P K) (fun j3 => Loop [56, 57, 58, 59, 63, 64, 65, 66, 67, 68, 69, 62, 70, 71, 72, 15, 14, 16, 73, 74, 75, 76, 77, 78, 79, 80, 81, 82, 83, 84, 85, 86, 87, 88, 89, 90, 91, 92, 93, 94, 95, 96, 6, 97, 98, 99, 100, 11, 101, 102, 103, 104, 12, 60, 61, 13] (upd (upd (upd (upd (upd (upd (upd (upd (upd (upd (upd (upd (upd (upd (upd (upd (upd (upd e2 44 v44) 8 v44) 45 (e2 0)) 46 v46) 9 v9) 47 v47) 48 (e2 0)) 51 v51) 52 (e2 0)) 49 v49) 50 v50) 53 v53) 54 v54) 55 v55) 10 v55) 11 (Value.slice none 0 0)) 12 (Value.slice none 0 0)) 13 (Value.int .i64 0)) w (fun e10 next2 w => JoinC P (F7_p6 P next2 K) (fun j7 => CallN P (builtin .len #[79] 3 #[false] #[(e10 1)]) (fun v58 w => Do P (binOp .lss 3 (e10 13) v58) (fun v59 w => Cond v59 (@Eq (List Nat) [] [] ∧ j7 (upd (upd (upd (upd e10 56 (e10 13)) 57 (e10 1)) 58 v58) 59 v59) w) (@Eq (List Nat) [] [] ∧ j3 (upd (upd (upd (upd e10 56 (e10 13)) 57 (e10 1)) 58 v58) 59 v59) w)) w) w)))) w))) w))) w))) w) w) w) w) w) w

def F7_p8 (P : Program) (K : Value → World → Prop) (j2 : Env → World → Prop) (e17 : Env) (w : World) : Prop :=
  CallN P (pickS (e17 34) (Value.bool true) (e17 37)) (fun v38 w => Join (fun e18 w => CallN P (pickS (e18 39) (Value.bool true) (e18 42)) (fun v43 w => Cond v43 (K (Value.bool true) w) (@Eq (List Nat) [] [] ∧ j2 (upd e18 43 v43) w)) w) (fun k7 => Guard v38 false (CallN P (builtin .len #[79] 3 #[false] #[(e17 1)]) (fun v41 w => Do P (binOp .gtr 3 v41 (Value.int .i64 20)) (fun v42 w => k7 (upd (upd (upd (upd (upd e17 38 v38) 39 v38) 40 (e17 1)) 41 v41) 42 v42) w) w) w) (k7 (upd (upd (upd (upd (upd e17 38 v38) 39 v38) 40 undef) 41 undef) 42 undef) w))) w

def F7_p9 (P : Program) (K : Value → World → Prop) (e1 : Env) (w : World) : Prop :=
  JoinC P (F7_p7 P K) (fun j2 => CallN P (builtin .len #[22] 3 #[false] #[(e1 0)]) (fun v27 w => Do P (eqS .eql 3 false true v27 (Value.int .i64 0)) (fun v28 w => Join (fun e16 w => CallN P (pickS (e16 29) (Value.bool true) (e16 32)) (fun v33 w => Join (F7_p8 P K j2) (fun k6 => Guard v33 false (CallN P (builtin .len #[79] 3 #[false] #[(e16 1)]) (fun v36 w => Do P (eqS .eql 3 false true v36 (Value.int .i64 0)) (fun v37 w => k6 (upd (upd (upd (upd (upd e16 33 v33) 34 v33) 35 (e16 1)) 36 v36) 37 v37) w) w) w) (k6 (upd (upd (upd (upd (upd e16 33 v33) 34 v33) 35 undef) 36 undef) 37 undef) w))) w) (fun k5 => Guard v28 false (CallN P (builtin .len #[22] 3 #[false] #[(e1 0)]) (fun v31 w => Do P (binOp .gtr 3 v31 (Value.int .i64 300)) (fun v32 w => k5 (upd (upd (upd (upd (upd (upd (upd e1 26 (e1 0)) 27 v27) 28 v28) 29 v28) 30 (e1 0)) 31 v31) 32 v32) w) w) w) (k5 (upd (upd (upd (upd (upd (upd (upd e1 26 (e1 0)) 27 v27) 28 v28) 29 v28) 30 undef) 31 undef) 32 undef) w))) w) w)

/-- bailee/baileelaw24.AuditMany -/
def F7 (P : Program) (K : Value → World → Prop) (v0 v1 v2 : Value) (w : World) : Prop :=
  CallN P (callS (fnv 8) #[]) (fun v23 w => JoinC P (F7_p9 P K) (fun j1 => Do P (Op.unary .not v23) (fun v25 w => Cond v25 (K (Value.bool false) w) (@Eq (List Nat) [] [] ∧ j1 (upd (upd (upd (upd (upd (env0 [v0, v1, v2]) 6 (Value.bool false)) 23 v23) 7 v23) 24 v23) 25 v25) w)) w)) w

def H7 : Hints := [(4, false, false, [], .ch 0 [] (.ch 1 [] (.ch 2 [] (.ch 3 [] (.grp 3 false [(4, none), (5, none), (6, none)] (.ch 7 [] (.ch 8 [] (.grp 8 false [(9, none), (10, none), (11, none)] (.ch 12 [] (.ch 13 [] (.grp 13 false [(14, none), (15, none), (16, none)] (.ch 17 [] (.done))))))))))))), (8, true, false, [0, 0, 0, 0, 0, 0, 0, 0, 0, 0], .rd 0 false 0 (.rd 1 true 0 (.rd 4 false 0 (.rd 5 true 0 (.ch 2 [0] (.rd 3 false 0 (.ch 6 [0] (.rd 7 true 0 (.ch 8 [] (.rd 9 true 0 (.done))))))))))), (15, false, false, [], .ch 0 [] (.ch 1 [] (.ch 2 [] (.grp 2 false [(3, none), (4, none), (5, none), (6, none), (7, none), (8, none)] (.ch 9 [] (.ch 10 [] (.grp 10 false [(11, none), (12, none), (13, none), (14, none), (15, none), (16, none), (17, none), (18, none), (19, none), (20, none), (21, none), (22, none)] (.ch 23 [] (.done))))))))), (24, true, false, [0, 0, 0, 0, 0, 0, 0, 0, 0, 0, 0, 0, 0, 0, 0, 0], .rd 0 false 0 (.rd 1 true 0 (.rd 2 true 0 (.rd 3 false 0 (.rd 4 false 0 (.rd 5 false 0 (.rd 6 true 0 (.rd 7 true 0 (.rd 8 false 0 (.rd 9 false 0 (.rd 10 false 0 (.rd 11 true 0 (.rd 12 true 0 (.rd 13 false 0 (.ch 14 [0] (.ch 15 [] (.done))))))))))))))))), (25, true, false, [0, 0, 0, 0, 0, 0, 0, 0, 0, 0, 0, 0, 0, 0, 0, 0, 0, 0, 0, 0, 0, 0, 0, 0, 0, 0, 0, 0, 0], .rd 0 true 0 (.rd 1 true 0 (.rd 2 true 0 (.rd 3 false 0 (.rd 4 false 0 (.rd 5 false 0 (.rd 6 false 0 (.ch 7 [0] (.rd 8 false 0 (.rd 9 true 0 (.grp 9 false [(10, some true), (11, some true), (12, some true), (13, some false), (14, some false), (15, some false), (16, none), (17, some false)] (.rd 18 false 0 (.rd 19 true 0 (.grp 19 false [(20, some true), (22, some true), (23, some false), (24, some false), (25, some true), (26, some false), (21, none), (27, some true)] (.rd 28 true 0 (.done))))))))))))))))]

theorem F7_eq (K : Value → World → Prop) (v0 v1 v2 : Value) (w : World) : F7 Tryd.prog K v0 v1 v2 w = pt Tryd.prog H7 none Tryd.f7.ntmps (bodyOf Tryd.f7) (RetQ Tryd.prog Tryd.f7.results K) (env0 [v0, v1, v2]) [] w := by kernel_rfl

theorem F7_ok : codeOk cvTryd H7 (bodyOf Tryd.f7) = true := by kernel_rfl

theorem F7_has : Tryd.f7.body.isSome = true ∧ Nat.ble 3 Tryd.f7.ntmps = true := ⟨by kernel_rfl, by kernel_rfl⟩

theorem F7_calls {K : Value → World → Prop} {v0 v1 v2 : Value} {w : World} (h : F7 Tryd.prog K v0 v1 v2 w) : Calls Tryd.prog 7 #[v0, v1, v2] w (Returns K) :=
  calls_of_eq (cv := cvTryd) (H := H7) (fn := Tryd.f7) (args := [v0, v1, v2]) mixedTryd Tryd.func7 F7_has F7_ok (F7_eq K v0 v1 v2 w) h

def F8_p1 (P : Program) (K : Value → World → Prop) (e6 : Env) (w : World) : Prop :=
  CallN P (pickS (e6 50) (e6 53) (Value.bool false)) (fun v54 w => Join (fun e7 w => CallN P (pickS (e7 55) (e7 57) (Value.bool false)) (fun v58 w => Join (fun e8 w => CallN P (pickS (e8 59) (e8 61) (Value.bool false)) (fun v62 w => CallN P (pickS v62 (Value.bool true) (Value.bool false)) (fun v64 w => K v64 w) w) w) (fun k8 => Guard v58 true (Do P (eqS .eql 3 false true (e7 7) (Value.int .i64 4)) (fun v61 w => k8 (upd (upd (upd (upd e7 58 v58) 59 v58) 60 (e7 7)) 61 v61) w) w) (k8 (upd (upd (upd (upd e7 58 v58) 59 v58) 60 undef) 61 undef) w))) w) (fun k7 => Guard v54 true (Do P (eqS .eql 3 false true (e6 6) (Value.int .i64 2)) (fun v57 w => k7 (upd (upd (upd (upd e6 54 v54) 55 v54) 56 (e6 6)) 57 v57) w) w) (k7 (upd (upd (upd (upd e6 54 v54) 55 v54) 56 undef) 57 undef) w))) w

def F8_p2 (P : Program) (K : Value → World → Prop) (e4 : Env) (w : World) : Prop :=
  CallN P (pickS (e4 43) (e4 44) (Value.bool false)) (fun v45 w => Join (fun e5 w => CallN P (pickS (e5 46) (e5 48) (Value.bool false)) (fun v49 w => Join (F8_p1 P K) (fun k6 => Guard v49 true (CallN P (callS (fnv 13) #[(e5 1)]) (fun v52 w => Do P (eqS .eql 3 false true v52 (Value.int .i64 0)) (fun v53 w => k6 (upd (upd (upd (upd (upd e5 49 v49) 50 v49) 51 (e5 1)) 52 v52) 53 v53) w) w) w) (k6 (upd (upd (upd (upd (upd e5 49 v49) 50 v49) 51 undef) 52 undef) 53 undef) w))) w) (fun k5 => Guard v45 true (Do P (eqS .eql 3 false true (e4 5) (Value.int .i64 2)) (fun v48 w => k5 (upd (upd (upd (upd e4 45 v45) 46 v45) 47 (e4 5)) 48 v48) w) w) (k5 (upd (upd (upd (upd e4 45 v45) 46 v45) 47 undef) 48 undef) w))) w

def F8_p3 (P : Program) (K : Value → World → Prop) (e2 : Env) (w : World) : Prop :=
  CallN P (pickS (e2 33) (e2 36) (Value.bool false)) (fun v37 w => Join (fun e3 w => CallN P (pickS (e3 38) (e3 41) (Value.bool false)) (fun v42 w => Join (F8_p2 P K) (fun k4 => Guard v42 true (k4 (upd (upd (upd e3 42 v42) 43 v42) 44 (e3 4)) w) (k4 (upd (upd (upd e3 42 v42) 43 v42) 44 undef) w))) w) (fun k3 => Guard v37 true (Do P (Instr.fieldAt 33 (e2 3) 3) (fun v39 w => Do P (Instr.loadAt 23 v39) (fun v40 w => Do P (eqS .eql 23 false true v40 (Value.int .u64 1)) (fun v41 w => k3 (upd (upd (upd (upd (upd e2 37 v37) 38 v37) 39 v39) 40 v40) 41 v41) w) w) w) w) (k3 (upd (upd (upd (upd (upd e2 37 v37) 38 v37) 39 undef) 40 undef) 41 undef) w))) w

/-- bailee/baileelaw24.awake -/
def F8 (P : Program) (K : Value → World → Prop)  (w : World) : Prop :=
  CallN P (callS (fnv 9) #[]) (fun v8 w => Do P (Instr.build 37 #[(0, (Value.int .i64 1)), (2, (Value.int .i64 3))]) (fun v11 w => Do P (Instr.build 37 #[(0, (Value.int .i64 2)), (2, (Value.int .i64 3))]) (fun v12 w => Do P (Instr.buildSlice 38 2 #[(0, v11), (1, v12)]) (fun v13 w => CallN P (callS (fnv 12) #[v8, v13, (Value.int .u64 5), (Value.int .u64 0)]) (fun v14 w => Do P (Instr.extract v14 0) (fun v15 w => Do P (Instr.extract v14 1) (fun v16 w => Do P (Instr.extract v14 2) (fun v17 w => Do P (Instr.alloc 33 true (Value.tuple #[])) (fun v3 w => Do P (Instr.storeAt 33 v3 v16) (fun _ w => Do P (Instr.build 33 #[(0, (Value.int .i64 3))]) (fun v19 w => CallN P (callS (fnv 15) #[v8, (Value.int .i64 2), v19]) (fun v20 w => Do P (Instr.buildSlice 65 4 #[(0, (Value.int .i64 1)), (1, (Value.int .i64 1)), (2, (Value.int .i64 9)), (3, (Value.int .i64 3))]) (fun v22 w => CallN P (callS (fnv 28) #[(Value.int .i64 4), v22]) (fun v23 w => Do P (Instr.extract v23 0) (fun v24 w => Do P (Instr.extract v23 1) (fun v25 w => Do P (eqS .eql 3 false true v15 (Value.int .i64 2)) (fun v27 w => Join (fun e1 w => CallN P (pickS (e1 28) (e1 31) (Value.bool false)) (fun v32 w => Join (F8_p3 P K) (fun k2 => Guard v32 true (Do P (Instr.fieldAt 33 (e1 3) 2) (fun v34 w => Do P (Instr.loadAt 23 v34) (fun v35 w => Do P (eqS .eql 23 false true v35 (Value.int .u64 2)) (fun v36 w => k2 (upd (upd (upd (upd (upd e1 32 v32) 33 v32) 34 v34) 35 v35) 36 v36) w) w) w) w) (k2 (upd (upd (upd (upd (upd e1 32 v32) 33 v32) 34 undef) 35 undef) 36 undef) w))) w) (fun k1 => Guard v27 true (Do P (Instr.fieldAt 33 v3 0) (fun v29 w => Do P (Instr.loadAt 3 v29) (fun v30 w => Do P (eqS .eql 3 false true v30 (Value.int .i64 6)) (fun v31 w => k1 (upd (upd (upd (upd (upd (upd (upd (upd (upd (upd (upd (upd (upd (upd (upd (upd (upd (upd (upd (upd (upd (upd (upd (upd (upd (upd (upd (upd (upd (upd (upd (upd (env0 []) 0 (Value.bool false)) 8 v8) 1 v8) 10 v8) 11 v11) 12 v12) 13 v13) 14 v14) 9 v14) 15 v15) 16 v16) 17 v17) 3 v3) 2 v15) 4 v17) 18 v8) 19 v19) 20 v20) 5 v20) 22 v22) 23 v23) 21 v23) 24 v24) 25 v25) 6 v24) 7 v25) 26 v15) 27 v27) 28 v27) 29 v29) 30 v30) 31 v31) w) w) w) w) (k1 (upd (upd (upd (upd (upd (upd (upd (upd (upd (upd (upd (upd (upd (upd (upd (upd (upd (upd (upd (upd (upd (upd (upd (upd (upd (upd (upd (upd (upd (upd (upd (upd (env0 []) 0 (Value.bool false)) 8 v8) 1 v8) 10 v8) 11 v11) 12 v12) 13 v13) 14 v14) 9 v14) 15 v15) 16 v16) 17 v17) 3 v3) 2 v15) 4 v17) 18 v8) 19 v19) 20 v20) 5 v20) 22 v22) 23 v23) 21 v23) 24 v24) 25 v25) 6 v24) 7 v25) 26 v15) 27 v27) 28 v27) 29 undef) 30 undef) 31 undef) w))) w) w) w) w) w) w) w) w) w) w) w) w) w) w) w) w) w

def H8 : Hints := [(5, false, false, [], .ch 0 [] (.ch 1 [] (.ch 2 [] (.grp 2 true [(3, none), (4, none), (5, none)] (.ch 6 [] (.ch 7 [] (.grp 7 true [(8, none), (9, none), (10, none)] (.ch 11 [] (.ch 12 [] (.grp 12 true [(13, none), (14, none), (15, none)] (.ch 16 [] (.ch 17 [] (.grp 17 true [(18, none)] (.ch 19 [] (.ch 20 [] (.grp 20 true [(21, none), (22, none)] (.ch 23 [] (.ch 24 [] (.grp 24 true [(25, none), (26, none), (27, none)] (.ch 28 [] (.ch 29 [] (.grp 29 true [(30, none), (31, none)] (.ch 32 [] (.ch 33 [] (.grp 33 true [(34, none), (35, none)] (.ch 36 [] (.ch 37 [] (.ch 38 [] (.ch 39 [] (.done))))))))))))))))))))))))))))))]

theorem F8_eq (K : Value → World → Prop)  (w : World) : F8 Tryd.prog K  w = pt Tryd.prog H8 none Tryd.f8.ntmps (bodyOf Tryd.f8) (RetQ Tryd.prog Tryd.f8.results K) (env0 []) [] w := by kernel_rfl

theorem F8_ok : codeOk cvTryd H8 (bodyOf Tryd.f8) = true := by kernel_rfl

theorem F8_has : Tryd.f8.body.isSome = true ∧ Nat.ble 0 Tryd.f8.ntmps = true := ⟨by kernel_rfl, by kernel_rfl⟩

theorem F8_calls {K : Value → World → Prop}  {w : World} (h : F8 Tryd.prog K  w) : Calls Tryd.prog 8 #[] w (Returns K) :=
  calls_of_eq (cv := cvTryd) (H := H8) (fn := Tryd.f8) (args := []) mixedTryd Tryd.func8 F8_has F8_ok (F8_eq K  w) h

/-- bailee/audit.New -/
def F9 (P : Program) (K : Value → World → Prop)  (w : World) : Prop :=
  Do P (Instr.build 85 #[]) (fun v1 w => Do P (Instr.box 85 v1) (fun v2 w => K v2 w) w) w

def H9 : Hints := []

theorem F9_eq (K : Value → World → Prop)  (w : World) : F9 Tryd.prog K  w = pt Tryd.prog H9 none Tryd.f9.ntmps (bodyOf Tryd.f9) (RetQ Tryd.prog Tryd.f9.results K) (env0 []) [] w := by kernel_rfl

theorem F9_ok : codeOk cvTryd H9 (bodyOf Tryd.f9) = true := by kernel_rfl

theorem F9_has : Tryd.f9.body.isSome = true ∧ Nat.ble 0 Tryd.f9.ntmps = true := ⟨by kernel_rfl, by kernel_rfl⟩

theorem F9_calls {K : Value → World → Prop}  {w : World} (h : F9 Tryd.prog K  w) : Calls Tryd.prog 9 #[] w (Returns K) :=
  calls_of_eq (cv := cvTryd) (H := H9) (fn := Tryd.f9) (args := []) mixedTryd Tryd.func9 F9_has F9_ok (F9_eq K  w) h

/-- bailee/proof.Root -/
def F10 (P : Program) (K : Value → World → Prop) (v0 : Value) (w : World) : Prop :=
  Do P (Instr.alloc 28 true (Value.tuple #[])) (fun v2 w => CallN P (callS (fnv 29) #[v0]) (fun v6 w => CallN P (builtin .len #[31] 3 #[false] #[v6]) (fun v8 w => JoinC P (fun e1 w => Do P (Instr.indexAt 31 (e1 3) (Value.int .i64 0)) (fun v16 w => Do P (Instr.loadAt 28 v16) (fun v17 w => CallN P (callS (fnv 32) #[(e1 4), v17]) (fun v18 w => Do P (Instr.buildSlice 101 1 #[(0, v18)]) (fun v19 w => CallN P (callS (fnv 31) #[v19]) (fun v20 w => Do P (Instr.storeAt 28 (e1 2) v20) (fun _ w => RdNow P (cellS 28 (e1 2)) w (fun vr0 => K vr0 w)) w) w) w) w) w) w) (fun j1 => Loop [9, 10, 11, 12, 13, 3] (upd (upd (upd (upd (upd (upd (upd (env0 [v0]) 2 v2) 5 v0) 6 v6) 3 v6) 7 v6) 8 v8) 4 v8) w (fun e2 next1 w => JoinC P (fun e3 w => CallN P (callS (fnv 30) #[(e3 3)]) (fun v13 w => @Eq (List Nat) [] [] ∧ next1 (upd (upd (upd e3 12 (e3 3)) 13 v13) 3 v13) w) w) (fun j2 => CallN P (builtin .len #[31] 3 #[false] #[(e2 3)]) (fun v10 w => Do P (binOp .gtr 3 v10 (Value.int .i64 1)) (fun v11 w => Cond v11 (@Eq (List Nat) [] [] ∧ j2 (upd (upd (upd e2 9 (e2 3)) 10 v10) 11 v11) w) (@Eq (List Nat) [] [] ∧ j1 (upd (upd (upd e2 9 (e2 3)) 10 v10) 11 v11) w)) w) w)))) w) w) w

def H10 : Hints := []

theorem F10_eq (K : Value → World → Prop) (v0 : Value) (w : World) : F10 Tryd.prog K v0 w = pt Tryd.prog H10 none Tryd.f10.ntmps (bodyOf Tryd.f10) (RetQ Tryd.prog Tryd.f10.results K) (env0 [v0]) [] w := by kernel_rfl

theorem F10_ok : codeOk cvTryd H10 (bodyOf Tryd.f10) = true := by kernel_rfl

theorem F10_has : Tryd.f10.body.isSome = true ∧ Nat.ble 1 Tryd.f10.ntmps = true := ⟨by kernel_rfl, by kernel_rfl⟩

theorem F10_calls {K : Value → World → Prop} {v0 : Value} {w : World} (h : F10 Tryd.prog K v0 w) : Calls Tryd.prog 10 #[v0] w (Returns K) :=
  calls_of_eq (cv := cvTryd) (H := H10) (fn := Tryd.f10) (args := [v0]) mixedTryd Tryd.func10 F10_has F10_ok (F10_eq K v0 w) h

/-- bailee/proof.Leaves -/
def F11 (P : Program) (K : Value → World → Prop) (v0 : Value) (w : World) : Prop :=
  CallN P (builtin .len #[22] 3 #[false] #[v0]) (fun v4 w => Do P (binOp .add 3 v4 (Value.int .i64 64)) (fun v5 w => Do P (binOp .sub 3 v5 (Value.int .i64 1)) (fun v6 w => Do P (binOp .quo 3 v6 (Value.int .i64 64)) (fun v7 w => CallN P (builtin .max #[3, 3] 3 #[false, true] #[v7, (Value.int .i64 1)]) (fun v8 w => K v8 w) w) w) w) w) w

def H11 : Hints := []

theorem F11_eq (K : Value → World → Prop) (v0 : Value) (w : World) : F11 Tryd.prog K v0 w = pt Tryd.prog H11 none Tryd.f11.ntmps (bodyOf Tryd.f11) (RetQ Tryd.prog Tryd.f11.results K) (env0 [v0]) [] w := by kernel_rfl

theorem F11_ok : codeOk cvTryd H11 (bodyOf Tryd.f11) = true := by kernel_rfl

theorem F11_has : Tryd.f11.body.isSome = true ∧ Nat.ble 1 Tryd.f11.ntmps = true := ⟨by kernel_rfl, by kernel_rfl⟩

theorem F11_calls {K : Value → World → Prop} {v0 : Value} {w : World} (h : F11 Tryd.prog K v0 w) : Calls Tryd.prog 11 #[v0] w (Returns K) :=
  calls_of_eq (cv := cvTryd) (H := H11) (fn := Tryd.f11) (args := [v0]) mixedTryd Tryd.func11 F11_has F11_ok (F11_eq K v0 w) h

def F12_p1 (P : Program) (K : Value → World → Prop) (e1 : Env) (w : World) : Prop :=
  CallN P (builtin .len #[38] 3 #[false] #[(e1 1)]) (fun v26 w => Do P (convert 3 23 v26) (fun v27 w => Do P (binOp .rem 23 (e1 2) v27) (fun v31 w => Do P (Instr.indexAt 38 (e1 1) v31) (fun v32 w => Do P (Instr.loadAt 37 v32) (fun v33 w => Do P (Instr.alloc 37 true (Value.tuple #[])) (fun v12 w => Do P (Instr.storeAt 37 v12 v33) (fun _ w => Drew (fun w => RdNow P (binOp .quo 23 (e1 2) v27) w (fun v36 => RdNow P (Instr.fieldAt 37 v12 2) w (fun v37 => RdNow P (Instr.loadAt 3 v37) w (fun v38 => RdNow P (convert 3 23 v38) w (fun v39 => RdNow P (binOp .rem 23 v36 v39) w (fun v40 => CallN P (nilS (e1 0)) (fun v42 w => Do P (Instr.fieldAt 85 v42 0) (fun v43 w => Do P (Instr.loadAt 23 v43) (fun v44 w => Do P (binOp .add 23 v44 (Value.int .u64 1)) (fun v45 w => CallN P (nilS (e1 0)) (fun v46 w => Do P (Instr.fieldAt 85 v46 0) (fun v47 w => Do P (Instr.storeAt 23 v47 v45) (fun _ w => Drew (fun w => Draw (fun S1 w => RdSN P (S1 0) (nilS (e1 0)) (fun v50 => RdS P (S1 0) (Instr.fieldAt 85 v50 1) (fun v51 => RdS P (S1 0) (Instr.loadAt 83 v51) (fun v52 => RdS P (S1 0) (Instr.fieldAt 37 v12 0) (fun v53 => RdS P (S1 0) (Instr.loadAt 3 v53) (fun v54 => RdS P (S1 0) (Instr.fieldAt 37 v12 1) (fun v55 => RdS P (S1 0) (Instr.loadAt 28 v55) (fun v56 => RdSN P (S1 0) (nilS (e1 0)) (fun v58 => RdS P (S1 0) (Instr.fieldAt 85 v58 0) (fun v59 => RdS P (S1 0) (Instr.loadAt 23 v59) (fun v60 => RdS P (S1 0) (Instr.build 94 #[(0, v54), (1, v56), (2, v60)]) (fun v61 => RdS P (S1 0) (convert 23 3 v40) (fun v63 => RdS P (S1 0) (Instr.fieldAt 37 v12 2) (fun v64 => RdS P (S1 0) (Instr.loadAt 3 v64) (fun v65 => RdS P (S1 0) (Instr.build 96 #[(0, v61), (1, v63), (2, v65), (3, (e1 3))]) (fun v67 => Do P (Instr.buildSlice 83 1 #[(0, v67)]) (fun v68 w => S1 0 w ∧ (CallN P (builtin .append #[83, 83] 83 #[false, false] #[v52, v68]) (fun v69 w => S1 0 w ∧ (RdSN P (S1 0) (nilS (e1 0)) (fun v70 => RdNow P (Instr.fieldAt 85 v70 1) w (fun v71 => Do P (Instr.storeAt 83 v71 v69) (fun _ w => Drew (fun w => RdNow P (Instr.fieldAt 37 v12 0) w (fun v72 => RdNow P (Instr.loadAt 3 v72) w (fun v73 => RdNow P (Instr.fieldAt 37 v12 1) w (fun v74 => RdNow P (Instr.loadAt 28 v74) w (fun v75 => RdNowN P (nilS (e1 0)) w (fun v78 => RdNow P (Instr.fieldAt 85 v78 0) w (fun v79 => RdNow P (Instr.loadAt 23 v79) w (fun v80 => RdNow P (Instr.build 33 #[(0, (Value.int .i64 6)), (1, v75), (2, v40), (3, v80)]) w (fun v81 => Do P (Instr.storeAt 33 (e1 9) v81) (fun _ w => RdNow P (cellS 33 (e1 9)) w (fun vr1 => K (Value.tuple #[v73, vr1, (Value.bool true)]) w)) w))))))))) w) w)))) w)) w)))))))))))))))) w) w) w) w) w) w) w) w) w)))))) w) w) w) w) w) w) w) w

/-- (*bailee/audit.Auditor).Draw -/
def F12 (P : Program) (K : Value → World → Prop) (v0 v1 v2 v3 : Value) (w : World) : Prop :=
  Do P (Instr.alloc 33 true (Value.tuple #[])) (fun v9 w => CallN P (callS (fnv 34) #[v1]) (fun v15 w => CallN P (callS (fnv 33) #[v15, (fnv 35)]) (fun v16 w => JoinC P (F12_p1 P K) (fun j1 => Do P (eqS .eql 25 false true v0 (Value.pointer none)) (fun v18 w => Join (fun e2 w => CallN P (pickS (e2 19) (Value.bool true) (e2 22)) (fun v23 w => Cond v23 (Do P (Instr.build 33 #[]) (fun v24 w => Do P (Instr.storeAt 33 (e2 9) v24) (fun _ w => RdNow P (cellS 33 (e2 9)) w (fun vr1_1 => K (Value.tuple #[(Value.int .i64 0), vr1_1, (Value.bool false)]) w)) w) w) (@Eq (List Nat) [] [] ∧ j1 (upd e2 23 v23) w)) w) (fun k1 => Guard v18 false (CallN P (builtin .len #[38] 3 #[false] #[v16]) (fun v21 w => Do P (eqS .eql 3 false true v21 (Value.int .i64 0)) (fun v22 w => k1 (upd (upd (upd (upd (upd (upd (upd (upd (upd (upd (upd (upd (upd (env0 [v0, v1, v2, v3]) 8 (Value.int .i64 0)) 9 v9) 10 (Value.bool false)) 14 v1) 15 v15) 16 v16) 1 v16) 17 v0) 18 v18) 19 v18) 20 v16) 21 v21) 22 v22) w) w) w) (k1 (upd (upd (upd (upd (upd (upd (upd (upd (upd (upd (upd (upd (upd (env0 [v0, v1, v2, v3]) 8 (Value.int .i64 0)) 9 v9) 10 (Value.bool false)) 14 v1) 15 v15) 16 v16) 1 v16) 17 v0) 18 v18) 19 v18) 20 undef) 21 undef) 22 undef) w))) w)) w) w) w

def H12 : Hints := [(2, false, false, [], .ch 0 [] (.ch 1 [] (.ch 2 [] (.grp 2 false [(3, none), (4, none), (5, none)] (.ch 6 [] (.done)))))), (6, false, false, [], .rd 0 true 0 (.rd 1 true 0 (.rd 2 true 0 (.rd 3 true 0 (.rd 4 true 0 (.rd 5 true 0 (.rd 6 true 0 (.rd 7 true 0 (.done))))))))), (8, true, false, [0, 0, 0, 0, 0, 0, 0, 0, 0, 0, 0, 0, 0, 0, 0, 0, 0, 0, 0, 0, 0, 0, 0, 0, 0], .rd 0 true 0 (.rd 1 true 0 (.rd 2 false 0 (.rd 3 false 0 (.rd 4 false 0 (.rd 5 false 0 (.rd 6 false 0 (.rd 7 false 0 (.rd 8 false 0 (.rd 9 true 0 (.rd 10 false 0 (.rd 11 false 0 (.rd 12 false 0 (.rd 13 false 0 (.rd 14 true 0 (.rd 15 false 0 (.rd 16 false 0 (.rd 17 false 0 (.rd 18 true 0 (.rd 19 false 0 (.ch 20 [0] (.ch 21 [0] (.rd 22 false 0 (.rd 23 true 0 (.ch 24 [] (.done)))))))))))))))))))))))))), (9, false, false, [], .rd 0 true 0 (.rd 1 true 0 (.rd 2 true 0 (.rd 3 true 0 (.rd 4 true 0 (.rd 5 true 0 (.rd 6 true 0 (.rd 7 true 0 (.rd 8 true 0 (.rd 9 true 0 (.rd 10 true 0 (.ch 11 [] (.rd 12 true 0 (.done))))))))))))))]

theorem F12_eq (K : Value → World → Prop) (v0 v1 v2 v3 : Value) (w : World) : F12 Tryd.prog K v0 v1 v2 v3 w = pt Tryd.prog H12 none Tryd.f12.ntmps (bodyOf Tryd.f12) (RetQ Tryd.prog Tryd.f12.results K) (env0 [v0, v1, v2, v3]) [] w := by kernel_rfl

theorem F12_ok : codeOk cvTryd H12 (bodyOf Tryd.f12) = true := by kernel_rfl

theorem F12_has : Tryd.f12.body.isSome = true ∧ Nat.ble 4 Tryd.f12.ntmps = true := ⟨by kernel_rfl, by kernel_rfl⟩

theorem F12_calls {K : Value → World → Prop} {v0 v1 v2 v3 : Value} {w : World} (h : F12 Tryd.prog K v0 v1 v2 v3 w) : Calls Tryd.prog 12 #[v0, v1, v2, v3] w (Returns K) :=
  calls_of_eq (cv := cvTryd) (H := H12) (fn := Tryd.f12) (args := [v0, v1, v2, v3]) mixedTryd Tryd.func12 F12_has F12_ok (F12_eq K v0 v1 v2 v3 w) h

/-- (*bailee/audit.Auditor).Open -/
def F13 (P : Program) (K : Value → World → Prop) (v0 : Value) (w : World) : Prop :=
  JoinC P (fun e1 w => CallN P (nilS (e1 0)) (fun v6 w => Do P (Instr.fieldAt 85 v6 1) (fun v7 w => Do P (Instr.loadAt 83 v7) (fun v8 w => CallN P (builtin .len #[83] 3 #[false] #[v8]) (fun v9 w => K v9 w) w) w) w) w) (fun j1 => Do P (eqS .eql 25 false true v0 (Value.pointer none)) (fun v4 w => Cond v4 (K (Value.int .i64 0) w) (@Eq (List Nat) [] [] ∧ j1 (upd (upd (upd (env0 [v0]) 2 (Value.int .i64 0)) 3 v0) 4 v4) w)) w)

def H13 : Hints := []

theorem F13_eq (K : Value → World → Prop) (v0 : Value) (w : World) : F13 Tryd.prog K v0 w = pt Tryd.prog H13 none Tryd.f13.ntmps (bodyOf Tryd.f13) (RetQ Tryd.prog Tryd.f13.results K) (env0 [v0]) [] w := by kernel_rfl

theorem F13_ok : codeOk cvTryd H13 (bodyOf Tryd.f13) = true := by kernel_rfl

theorem F13_has : Tryd.f13.body.isSome = true ∧ Nat.ble 1 Tryd.f13.ntmps = true := ⟨by kernel_rfl, by kernel_rfl⟩

theorem F13_calls {K : Value → World → Prop} {v0 : Value} {w : World} (h : F13 Tryd.prog K v0 w) : Calls Tryd.prog 13 #[v0] w (Returns K) :=
  calls_of_eq (cv := cvTryd) (H := H13) (fn := Tryd.f13) (args := [v0]) mixedTryd Tryd.func13 F13_has F13_ok (F13_eq K v0 w) h

def F14_p1 (P : Program) (K : Value → World → Prop) (e2 : Env) (ds1 : List Nat) (w : World) : Prop :=
  Drew (fun w => Draw (fun S1 w => RdS P (S1 0) (Instr.loadAt 31 (e2 9)) (fun v45 => CallN P (callS (fnv 38) #[(e2 0)]) (fun v40 w => S1 0 w ∧ (RdS P (S1 0) (Instr.indexAt 101 v40 (e2 1)) (fun v42 => RdNow P (Instr.loadAt 22 v42) w (fun v43 => CallN P (callS (fnv 37) #[v43]) (fun v44 w => S1 0 w ∧ (RetM P #[.tmp 4, .tmp 5, .tmp 6] K (upd (upd (upd (upd (upd (upd (upd (upd (upd (upd e2 39 (e2 0)) 41 (e2 1)) 45 v45) 40 v40) 42 v42) 43 v43) 44 v44) 4 v44) 5 v45) 6 (Value.int .i64 0)) ds1 w)) w)))) w)) w) w

def F14_p2 (P : Program) (K : Value → World → Prop) (e1 : Env) (w : World) : Prop :=
  CallN P (callS (fnv 29) #[(e1 0)]) (fun v22 w => Do P (Instr.alloc 31 true (Value.tuple #[])) (fun v8 w => Do P (Instr.storeAt 31 v8 v22) (fun _ w => Do P (Instr.alloc 31 true (Value.tuple #[])) (fun v9 w => JoinD (F14_p1 P K) (fun j2 => CallN P (callS (fnv 36) #[(e1 7), (e1 1)]) (fun v25 w => RangeF P none 46 v25 #[26, 27] (rfA Tryd.f14 0) (rfB Tryd.f14 0) (inBlk 0 (thenQ j2 (RetQ P #[.tmp 4, .tmp 5, .tmp 6] K))) (upd (upd (upd (upd (upd (upd (upd e1 21 (e1 0)) 22 v22) 8 v8) 9 v9) 23 (e1 7)) 24 (e1 1)) 25 v25) [] w) w)) w) w) w) w

/-- bailee/proof.Prove -/
def F14 (P : Program) (K : Value → World → Prop) (v0 v1 : Value) (w : World) : Prop :=
  CallN P (callS (fnv 11) #[v0]) (fun v13 w => JoinC P (F14_p2 P K) (fun j1 => Do P (binOp .lss 3 v1 (Value.int .i64 0)) (fun v15 w => Join (fun e3 w => CallN P (pickS (e3 16) (Value.bool true) (e3 19)) (fun v20 w => Cond v20 (K (Value.tuple #[(Value.slice none 0 0), (Value.slice none 0 0), (Value.int .i64 14)]) w) (@Eq (List Nat) [] [] ∧ j1 (upd e3 20 v20) w)) w) (fun k1 => Guard v15 false (Do P (binOp .geq 3 v1 v13) (fun v19 w => k1 (upd (upd (upd (upd (upd (upd (upd (upd (upd (upd (upd (upd (env0 [v0, v1]) 4 (Value.slice none 0 0)) 5 (Value.slice none 0 0)) 6 (Value.int .i64 0)) 12 v0) 13 v13) 7 v13) 14 v1) 15 v15) 16 v15) 17 v1) 18 v13) 19 v19) w) w) (k1 (upd (upd (upd (upd (upd (upd (upd (upd (upd (upd (upd (upd (env0 [v0, v1]) 4 (Value.slice none 0 0)) 5 (Value.slice none 0 0)) 6 (Value.int .i64 0)) 12 v0) 13 v13) 7 v13) 14 v1) 15 v15) 16 v15) 17 undef) 18 undef) 19 undef) w))) w)) w

def H14 : Hints := [(2, false, false, [], .ch 0 [] (.ch 1 [] (.ch 2 [] (.grp 2 false [(3, none), (4, none), (5, none)] (.ch 6 [] (.done)))))), (10, true, false, [0, 0, 0, 0, 0, 0, 0, 0, 0], .rd 0 false 0 (.rd 1 false 0 (.rd 2 true 0 (.rd 3 false 0 (.rd 4 false 0 (.rd 5 false 0 (.ch 6 [0] (.ch 7 [] (.ch 8 [] (.done)))))))))), (12, true, false, [0, 0, 0, 0, 0, 0, 0, 0, 0, 0], .rd 0 true 0 (.rd 2 true 0 (.rd 6 false 0 (.ch 1 [0] (.rd 3 false 0 (.rd 4 true 0 (.ch 5 [0] (.rd 7 true 0 (.rd 8 true 0 (.rd 9 true 0 (.done)))))))))))]

theorem F14_eq (K : Value → World → Prop) (v0 v1 : Value) (w : World) : F14 Tryd.prog K v0 v1 w = pt Tryd.prog H14 none Tryd.f14.ntmps (bodyOf Tryd.f14) (RetQ Tryd.prog Tryd.f14.results K) (env0 [v0, v1]) [] w := by kernel_rfl

theorem F14_ok : codeOk cvTryd H14 (bodyOf Tryd.f14) = true := by kernel_rfl

theorem F14_has : Tryd.f14.body.isSome = true ∧ Nat.ble 2 Tryd.f14.ntmps = true := ⟨by kernel_rfl, by kernel_rfl⟩

theorem F14_calls {K : Value → World → Prop} {v0 v1 : Value} {w : World} (h : F14 Tryd.prog K v0 v1 w) : Calls Tryd.prog 14 #[v0, v1] w (Returns K) :=
  calls_of_eq (cv := cvTryd) (H := H14) (fn := Tryd.f14) (args := [v0, v1]) mixedTryd Tryd.func14 F14_has F14_ok (F14_eq K v0 v1 w) h

def R14_0A (P : Program) (l : Nat) (Q : QQ) (e : Env) (ds : List Nat) (w : World) : Prop :=
  Q .normal (upd (upd e 10 (e 26)) 11 (e 27)) ds w

theorem R14_0A_eq (l : Nat) (Q : QQ) (e : Env) (ds : List Nat) (w : World) : R14_0A Tryd.prog l Q e ds w = pt Tryd.prog H14 (some l) 46 (rfA Tryd.f14 0) Q e ds w := by kernel_rfl

theorem R14_0A_ok : codeOk cvTryd H14 (rfA Tryd.f14 0) = true := by kernel_rfl

def R14_0B (P : Program) (l : Nat) (Q : QQ) (e : Env) (ds : List Nat) (w : World) : Prop :=
  JoinC P (fun e4 w => Do P (Instr.loadAt 31 (e4 8)) (fun v37 w => CallN P (callS (fnv 30) #[v37]) (fun v38 w => Do P (Instr.storeAt 31 (e4 8) v38) (fun _ w => Q .normal (upd (upd e4 37 v37) 38 v38) ds w) w) w) w) (fun j3 => Cond (e 11) (Drew (fun w => Draw (fun S2 w => RdS P (S2 0) (Instr.loadAt 31 (e 9)) (fun v29 => RdS P (S2 0) (Instr.loadAt 31 (e 8)) (fun v30 => RdS P (S2 0) (binOp .xor 3 (e 10) (Value.int .i64 1)) (fun v32 => RdS P (S2 0) (Instr.indexAt 31 v30 v32) (fun v33 => RdS P (S2 0) (Instr.loadAt 28 v33) (fun v34 => Do P (Instr.buildSlice 31 1 #[(0, v34)]) (fun v35 w => S2 0 w ∧ (CallN P (builtin .append #[31, 31] 31 #[false, false] #[v29, v35]) (fun v36 w => Do P (Instr.storeAt 31 (e 9) v36) (fun _ w => @Eq (List Nat) ds ds ∧ j3 (upd (upd (upd (upd (upd (upd (upd (upd (upd e 28 (e 11)) 29 v29) 30 v30) 31 (e 10)) 32 v32) 33 v33) 34 v34) 35 v35) 36 v36) w) w) w)) w)))))) w) w) (@Eq (List Nat) ds ds ∧ j3 (upd e 28 (e 11)) w))

theorem R14_0B_eq (l : Nat) (Q : QQ) (e : Env) (ds : List Nat) (w : World) : R14_0B Tryd.prog l Q e ds w = pt Tryd.prog H14 (some l) 46 (rfB Tryd.f14 0) Q e ds w := by kernel_rfl

theorem R14_0B_ok : codeOk cvTryd H14 (rfB Tryd.f14 0) = true := by kernel_rfl

/-- (*bailee/audit.Auditor).Handle -/
def F15 (P : Program) (K : Value → World → Prop) (v0 v1 v2 : Value) (w : World) : Prop :=
  Do P (Instr.box 3 v1) (fun v4 w => Do P (Instr.box 33 v2) (fun v5 w => JoinC P (fun e1 w => K (Value.int .i64 0) w) (fun j1 => Do P (Instr.fieldAt 33 v5 0) (fun v11 w => Do P (Instr.loadAt 3 v11) (fun v12 w => Do P (eqS .eql 3 false true v12 (Value.int .i64 7)) (fun v14 w => Cond v14 (Do P (Instr.makeFunc (Fn.func 40) #[] #[v4, v5]) (fun v17 w => CallN P (callS (fnv 39) #[v0, v17]) (fun v18 w => Do P (Instr.extract v18 0) (fun v19 w => Do P (Instr.extract v18 1) (fun v20 w => Do P (Instr.alloc 96 true (Value.tuple #[])) (fun v7 w => Do P (Instr.storeAt 96 v7 v19) (fun _ w => JoinC P (fun e2 w => K (Value.int .i64 2) w) (fun j2 => Do P (Op.unary .not v20) (fun v23 w => Cond v23 (K (Value.int .i64 0) w) (Do P (Instr.fieldAt 33 v5 2) (fun v25 w => Do P (Instr.loadAt 23 v25) (fun v26 w => Do P (Instr.fieldAt 96 v7 1) (fun v27 w => Do P (Instr.loadAt 3 v27) (fun v28 w => Do P (convert 3 23 v28) (fun v29 w => Do P (eqS .eql 23 false false v26 v29) (fun v30 w => Join (fun e3 w => CallN P (pickS (e3 31) (e3 44) (Value.bool false)) (fun v45 w => Cond v45 (K (Value.int .i64 1) w) (@Eq (List Nat) [] [] ∧ j2 (upd (upd e3 45 v45) 24 v45) w)) w) (fun k1 => Guard v30 true (Do P (Instr.fieldAt 96 v7 0) (fun v32 w => Do P (Instr.fieldAt 94 v32 1) (fun v33 w => Do P (Instr.loadAt 28 v33) (fun v34 w => Do P (Instr.fieldAt 96 v7 2) (fun v35 w => Do P (Instr.loadAt 3 v35) (fun v36 w => Do P (Instr.fieldAt 96 v7 1) (fun v37 w => Do P (Instr.loadAt 3 v37) (fun v38 w => Do P (Instr.fieldAt 33 v5 4) (fun v39 w => Do P (Instr.loadAt 22 v39) (fun v40 w => Do P (Instr.fieldAt 33 v5 5) (fun v41 w => Do P (Instr.loadAt 31 v41) (fun v42 w => CallN P (callS (fnv 41) #[v34, v36, v38, v40, v42]) (fun v43 w => Do P (eqS .eql 40 false true v43 (Value.int .i64 0)) (fun v44 w => k1 (upd (upd (upd (upd (upd (upd (upd (upd (upd (upd (upd (upd (upd (upd (upd (upd (upd (upd (upd (upd (upd (upd (upd (upd (upd (upd (upd (upd (upd (upd (upd (upd (upd (upd (upd (upd (upd (upd (env0 [v0, v1, v2]) 4 v4) 5 v5) 6 (Value.int .i64 0)) 11 v11) 12 v12) 14 v14) 13 v14) 16 v0) 17 v17) 18 v18) 15 v18) 19 v19) 20 v20) 7 v7) 8 v20) 22 v20) 23 v23) 21 v23) 25 v25) 26 v26) 27 v27) 28 v28) 29 v29) 30 v30) 31 v30) 32 v32) 33 v33) 34 v34) 35 v35) 36 v36) 37 v37) 38 v38) 39 v39) 40 v40) 41 v41) 42 v42) 43 v43) 44 v44) w) w) w) w) w) w) w) w) w) w) w) w) w) w) (k1 (upd (upd (upd (upd (upd (upd (upd (upd (upd (upd (upd (upd (upd (upd (upd (upd (upd (upd (upd (upd (upd (upd (upd (upd (upd (upd (upd (upd (upd (upd (upd (upd (upd (upd (upd (upd (upd (upd (env0 [v0, v1, v2]) 4 v4) 5 v5) 6 (Value.int .i64 0)) 11 v11) 12 v12) 14 v14) 13 v14) 16 v0) 17 v17) 18 v18) 15 v18) 19 v19) 20 v20) 7 v7) 8 v20) 22 v20) 23 v23) 21 v23) 25 v25) 26 v26) 27 v27) 28 v28) 29 v29) 30 v30) 31 v30) 32 undef) 33 undef) 34 undef) 35 undef) 36 undef) 37 undef) 38 undef) 39 undef) 40 undef) 41 undef) 42 undef) 43 undef) 44 undef) w))) w) w) w) w) w) w)) w)) w) w) w) w) w) w) (Do P (eqS .eql 3 false true v12 (Value.int .i64 3)) (fun v47 w => Cond v47 (Do P (Instr.makeFunc (Fn.func 42) #[] #[v4, v5]) (fun v50 w => CallN P (callS (fnv 39) #[v0, v50]) (fun v51 w => Do P (Instr.extract v51 0) (fun v52 w => Do P (Instr.extract v51 1) (fun v53 w => Do P (Instr.alloc 96 true (Value.tuple #[])) (fun v9 w => Do P (Instr.storeAt 96 v9 v52) (fun _ w => Cond v53 (K (Value.int .i64 2) w) (@Eq (List Nat) [] [] ∧ j1 (upd (upd (upd (upd (upd (upd (upd (upd (upd (upd (upd (upd (upd (upd (upd (upd (upd (upd (env0 [v0, v1, v2]) 4 v4) 5 v5) 6 (Value.int .i64 0)) 11 v11) 12 v12) 14 v14) 13 v14) 47 v47) 46 v47) 49 v0) 50 v50) 51 v51) 48 v51) 52 v52) 53 v53) 9 v9) 10 v53) 54 v53) w)) w) w) w) w) w) w) (@Eq (List Nat) [] [] ∧ j1 (upd (upd (upd (upd (upd (upd (upd (upd (upd (env0 [v0, v1, v2]) 4 v4) 5 v5) 6 (Value.int .i64 0)) 11 v11) 12 v12) 14 v14) 13 v14) 47 v47) 46 v47) w)) w)) w) w) w)) w) w

def H15 : Hints := [(6, false, false, [], .ch 0 [] (.ch 1 [] (.ch 2 [] (.ch 3 [] (.ch 4 [] (.ch 5 [] (.ch 6 [] (.grp 6 true [(7, none), (8, none), (9, none), (10, none), (11, none), (12, none), (13, none), (14, none), (15, none), (16, none), (17, none), (18, none), (19, none)] (.ch 20 [] (.ch 21 [] (.done)))))))))))]

theorem F15_eq (K : Value → World → Prop) (v0 v1 v2 : Value) (w : World) : F15 Tryd.prog K v0 v1 v2 w = pt Tryd.prog H15 none Tryd.f15.ntmps (bodyOf Tryd.f15) (RetQ Tryd.prog Tryd.f15.results K) (env0 [v0, v1, v2]) [] w := by kernel_rfl

theorem F15_ok : codeOk cvTryd H15 (bodyOf Tryd.f15) = true := by kernel_rfl

theorem F15_has : Tryd.f15.body.isSome = true ∧ Nat.ble 3 Tryd.f15.ntmps = true := ⟨by kernel_rfl, by kernel_rfl⟩

theorem F15_calls {K : Value → World → Prop} {v0 v1 v2 : Value} {w : World} (h : F15 Tryd.prog K v0 v1 v2 w) : Calls Tryd.prog 15 #[v0, v1, v2] w (Returns K) :=
  calls_of_eq (cv := cvTryd) (H := H15) (fn := Tryd.f15) (args := [v0, v1, v2]) mixedTryd Tryd.func15 F15_has F15_ok (F15_eq K v0 v1 v2 w) h

end Go.Px
end
