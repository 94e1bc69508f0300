/- Of our own, laid together by program: The row above; the root. The root; the steps of a way. The steps of a way. A way is made. The rows on the way up. Whether a leaf is proved. What comes of a note. Rows that are made. The chance; awake. Awake. DERIVED: THE SHELF's CONTRACTS AT THIS DUMP, IN PLAIN WORDS (tools/lay-plain.mjs out of 'TrydShelf.lean', which tools/lay-shelf.mjs wrote): THE SAME DECLARATIONS UNDER THE SAME NAMES: 'import', 'namespace', 'open', 'def', 'theorem' AND NOTHING ELSE: no command of the shelf's: FOR A HAND-IN. Each laying: the table of numbers ('.._ren') and one theorem, a field a fact of the dump's own or the kernel's comparison; each contract: ONE APPLICATION. Who is late. What is proved is checked. Who is late is told once. What the listed variable holds; how an argument that came in is read. -/
import Derived.Test.YtbndemefjckenaaDoorM4
import Derived.Laws.MakeOwn
import Derived.Shelf.Small.Bits
import Derived.Shelf.Small.Wraps
import Derived.Shelf.Strconv.Itoa0
import Derived.Shelf.Sort.Plain
import Derived.Ground.Names2Prog
import Derived.Shelf.Slices.SearchI
import Derived.Shelf.Slices.In.SortNone
import Derived.Shelf.Bytes.SlSearch0
import Derived.Shelf.Bytes.SlEqualAll
import Derived.Shelf.Bytes.Small
import Derived.Test.YtbndemefjckenaaDoorProg
import Derived.Sort.OwnSortedInts
import Derived.Test.YtbndemefjckenaaDoorRows
import Derived.ProofKit
import Derived.LaidMore
import Derived.OpenShut
import Derived.ShutString
import Derived.ChangeOld
import Derived.Below
import Derived.Stop.Joined
section
set_option linter.unusedVariables false
set_option linter.unusedSimpArgs false
set_option linter.unusedVariables false
set_option maxRecDepth 20000
namespace Go.Px
open Go Go.Proofs
attribute [local irreducible] Do RdNow RdS RdNowN RdSN CallN Drew Draw Loop JoinC obj own rows at' old Item.r many
variable {K : Value → World → Prop} {L : List Item} {w : World}
def aboveL : List Id → List Id
  | a :: b :: l => shaI (pairL a b) :: aboveL l
  | [a] => [a]
  | [] => []
def eltL : List Id → Id
  | a :: b :: _ => shaI (pairL a b)
  | [a] => a
  | [] => id0
theorem aboveL_app : ∀ (xs ys : List Id), xs.length % 2 = 0 → aboveL (xs ++ ys) = aboveL xs ++ aboveL ys
  | [], ys, _ => rfl
  | [a], ys, h => by simp at h
  | a :: b :: l, ys, h => by
    show shaI (pairL a b) :: aboveL (l ++ ys) = _
    rw [aboveL_app l ys (by simp only [List.length_cons] at h; omega)]
    rfl
theorem aboveL_len : ∀ xs : List Id, (aboveL xs).length = (xs.length + 1) / 2
  | [] => rfl
  | [a] => by simp [aboveL]
  | a :: b :: l => by
    show (aboveL l).length + 1 = _
    rw [aboveL_len l]
    simp only [List.length_cons]
    omega
theorem aboveL_take (xs : List Id) (i : Nat) (h : i * 2 < xs.length) : aboveL (xs.take ((i + 1) * 2)) = aboveL (xs.take (i * 2)) ++ [eltL (pieceL xs 2 i)] := by
  have e1 : xs.take ((i + 1) * 2) = xs.take (i * 2) ++ pieceL xs 2 i := by
    unfold pieceL
    rw [show (i + 1) * 2 = i * 2 + 2 by omega, List.take_add]
  rw [e1, aboveL_app _ _ (by rw [List.length_take]; omega)]
  congr 1
  have hl := pieceL_len xs 2 i
  match hp : pieceL xs 2 i, hl with
  | [], hl => simp at hl; omega
  | [a], _ => rfl
  | [a, b], _ => rfl
  | a :: b :: c :: l, hl => simp only [List.length_cons] at hl; omega
abbrev TI : Nat := 28
abbrev TIs : Nat := 31
theorem above_ok {e0 : TypeId} {v : Value} {xs : List Id} (hs : St L w) (hG : G0 e0 ∈ L) (hx : rows EId v xs ∈ L) (hn : xs.length ≤ 100000) (hk : ∀ v' w, St (own EId TI v' (aboveL xs) :: L) w → K v' w) :
    CallN Tryd.prog (callS (fnv 30) #[v]) K w := by
  refine CallN_fn (args := [v]) (by kernel_rfl) (F30_calls ?_)
  unfold F30
  refine st_alloc NoSl hs fun b w hs => ?_
  refine JoinD_in ?_
  refine chunkId_ok (c := 2) hs (by repeat (first | assumption | exact List.Mem.head _ | exact List.mem_append_left _ (by assumption) | apply List.Mem.tail)) (by decide) fun b1 b2 w hs => ?_
  have hs := (hs.dup (E := EId) (v := v) (xs := xs) (by repeat (first | assumption | exact List.Mem.head _ | exact List.mem_append_left _ (by assumption) | apply List.Mem.tail))).nil (E := EId) (e := TI)
  have hs := hs.pull 1 rfl; have hs := hs.pull 3 rfl; have hs := hs.pull 3 rfl; have hs := hs.pull 3 rfl; have hs := hs.pull 4 rfl; try simp only [List.nil_append, List.cons_append, List.eraseIdx_cons_succ, List.eraseIdx_cons_zero] at hs
  have hs := hs.perm (L' := (box b TIs [NoSl] :: own EId TI NoSl [] :: L) ++ [(box b1 TIs [v]).r, (box b2 3 [I (2 : Nat)]).r, rows EId v xs]) ((List.perm_append_comm (l₁ := [_, _, _])).cons _ |>.cons _)
  refine range1 (N := 29) (p := 8) (captured := [A b1 0, A b2 0]) (H := H30) (cv := cvTryd) (σ := Value) (fun i a => box b TIs [a] :: own EId TI a (aboveL (xs.take (i * 2))) :: L) NoSl (fun e => upd e 4 (e 8)) (chunkId_iter b1 b2 v xs 2 (by decide) (by decide) (by omega)) mixedTryd hs (by kernel_rfl) (by decide) R30_0A_ok R30_0B_ok
    (fun l Q' e w h => by rw [← R30_0A_eq]; exact h) ?_ ?_
  · intro l d r0 i a u w hi hs
    rw [← R30_0B_eq]
    unfold R30_0B
    have hi2 := (piecesN_lt (by decide)).1 hi
    have hl := pieceL_len xs 2 i
    have htk := aboveL_take xs i hi2
    have hal := aboveL_len (xs.take (i * 2))
    rw [List.length_take] at hal
    generalize hp : pieceL xs 2 i = p at *
    obtain ⟨x, hx0⟩ : ∃ x, p[0]? = some x := ⟨p[0]'(by omega), List.getElem?_eq_getElem (by omega)⟩
    skip
    refine Do_idx' hs (RowIn.of (by repeat (first | assumption | exact List.Mem.head _ | exact List.mem_append_left _ (by assumption) | apply List.Mem.tail))) 0 x hx0 fun b3 o3 g => ?_
    refine Do_y hs (Yd.ty (by assumption)) ?_
    refine st_alloc (EId.val id0) hs fun b4 w hs => ?_
    refine st_ty (y := x) hs .here (fun w hs => ?_)
    refine JoinC_mid (fun e' w' => e' 3 = A b 0 ∧ e' 5 = A b4 0 ∧ St (box b4 TI (EId.f (eltL p)) :: obj l (.loop (busyR r0)) :: obj d (.deferred (some [])) :: rows EId u p :: box b TIs [a] :: own EId TI a (aboveL (xs.take (i * 2))) :: (L ++ [(box b1 TIs [v]).r, (box b2 3 [I (2 : Nat)]).r, rows EId v xs])) w') ?_ ?_
    · rintro e w ⟨e3, e5, hs⟩
      obtain ⟨e, rfl⟩ := env2 e3 e5
      refine Do_y hs (Yd.bx (by repeat (first | assumption | exact List.Mem.head _ | exact List.mem_append_left _ (by assumption) | apply List.Mem.tail))) ?_
      refine Do_y hs (Yd.ty (Gd.bE (by repeat (first | assumption | exact List.Mem.head _ | exact List.mem_append_left _ (by assumption) | apply List.Mem.tail)))) ?_
      refine st_row1 (E := EId) (e := TI) (bytes := 32) (x := eltL p) hs fun v18 w hs _ => ?_
      have hs := hs.pull 6 rfl; try simp only [List.nil_append, List.cons_append, List.eraseIdx_cons_succ, List.eraseIdx_cons_zero] at hs
      refine st_append (E := EId) (e := TI) (bytes := 32) (ys := [eltL p]) hs (RowIn.own (e := TI) (by repeat (first | assumption | exact List.Mem.head _ | exact List.mem_append_left _ (by assumption) | apply List.Mem.tail))) (fun v7 w hs => ?_) (List.Perm.refl _) (hm := by rw [hal]; simp only [List.length_singleton]; omega) (hm2 := by rw [hal]; simp only [List.length_singleton]; omega)
      have hv7 := own_sv hs (List.Mem.head _)
      refine st_set (v := v7) hs (by repeat (first | exact Upd.here | apply Upd.there)) (fun w hs => ?_) (h1 := hv7.1) (hv := hv7.2)
      rw [← htk] at hs
      have hs := hs.pull 0 rfl; have hs := hs.pull 6 rfl; have hs := hs.pull 5 rfl; have hs := hs.pull 5 rfl; try simp only [List.nil_append, List.cons_append, List.eraseIdx_cons_succ, List.eraseIdx_cons_zero] at hs
      exact ⟨v7, hs.sub (by repeat (first | exact List.nil_sublist _ | exact List.Sublist.refl _ | exact List.sublist_append_left _ _ | apply List.Sublist.cons_cons | apply List.Sublist.cons))⟩
    · intro k' hk'
      refine CallN_y hs (Yd.len (RowIn.of (by repeat (first | assumption | exact List.Mem.head _ | exact List.mem_append_left _ (by assumption) | apply List.Mem.tail)))) ?_
      refine Do_y hs (Yd.eq _ _ _ _ _ _) ?_
      refine Cond_dec (fun h => ?_) (fun h => ?_)
      · have h2 : p.length = 2 := by omega
        obtain ⟨y, rfl⟩ : ∃ y, p = [x, y] := by
          match p, h2, hx0 with
          | [a, b], _, hx0 => simp at hx0; subst hx0; exact ⟨b, rfl⟩
        refine Drew_st hs fun w hs => ?_
        refine Draw_st hs [rows EId u [x, y]] (by repeat (first | exact List.nil_sublist _ | exact List.Sublist.refl _ | exact List.sublist_append_left _ _ | apply List.Sublist.cons_cons | apply List.Sublist.cons)) ?_
        refine RdS_idx' (hs.sub (by repeat (first | exact List.nil_sublist _ | exact List.Sublist.refl _ | exact List.sublist_append_left _ _ | apply List.Sublist.cons_cons | apply List.Sublist.cons))) (RowIn.of (by repeat (first | assumption | exact List.Mem.head _ | exact List.mem_append_left _ (by assumption) | apply List.Mem.tail))) 0 x rfl fun b5 o5 g5 => ?_
        refine RdS_y (Yd.ty (by assumption)) ?_
        refine RdS_idx' (hs.sub (by repeat (first | exact List.nil_sublist _ | exact List.Sublist.refl _ | exact List.sublist_append_left _ _ | apply List.Sublist.cons_cons | apply List.Sublist.cons))) (RowIn.of (by repeat (first | assumption | exact List.Mem.head _ | exact List.mem_append_left _ (by assumption) | apply List.Mem.tail))) 1 y rfl fun b6 o6 g6 => ?_
        refine RdS_y (Yd.ty (by assumption)) ?_
        refine pair_ok hs fun v21 w hs => ?_
        have hv21 := own_sv hs (List.Mem.head _)
        refine st_row1 (E := ESV) (e := TB) (bytes := 24) (x := ⟨v21, hv21⟩) hs fun v22 w hs _ => ?_
        refine of_ok (e0 := e0) (sv := ⟨v21, hv21⟩) (bs := pairL x y) hs (by simp [hG]) (RowIn.own (e := TB) (by repeat (first | assumption | exact List.Mem.head _ | exact List.mem_append_left _ (by assumption) | apply List.Mem.tail))) (RowIn.own (e := T8) (by repeat (first | assumption | exact List.Mem.head _ | exact List.mem_append_left _ (by assumption) | apply List.Mem.tail))) (pairL_b8 x y) (by rw [pairL_len]; decide) fun w hs => ?_
        refine st_ty (y := shaI (pairL x y)) hs (by repeat (first | exact Upd.here | apply Upd.there)) (fun w hs => ?_)
        refine ⟨(rfl : @Eq (List Nat) _ _), ?_⟩
        exact hk' _ _ ⟨rfl, rfl, hs.sub (by repeat (first | exact List.nil_sublist _ | exact List.Sublist.refl _ | exact List.sublist_append_left _ _ | apply List.Sublist.cons_cons | apply List.Sublist.cons))⟩
      · have h1 : p = [x] := by
          have hp1 : p.length = 1 := by
            have : 0 < p.length := (List.getElem?_eq_some_iff.1 hx0).1
            omega
          obtain ⟨y, hy⟩ := List.length_eq_one_iff.1 hp1
          rw [hy] at hx0 ⊢
          simp at hx0
          rw [hx0]
        subst h1
        refine ⟨(rfl : @Eq (List Nat) _ _), ?_⟩
        exact hk' _ _ ⟨rfl, rfl, hs⟩
  · intro d a w hs
    refine Do_y hs (Yd.bx (by repeat (first | assumption | exact List.Mem.head _ | exact List.mem_append_left _ (by assumption) | apply List.Mem.tail))) ?_
    refine RetM_st hs fun w hs => ?_
    have hpl : xs.length ≤ piecesN xs.length 2 * 2 := by unfold piecesN; omega
    rw [List.take_of_length_le hpl] at hs
    have hs := hs.pull 1 rfl; try simp only [List.nil_append, List.cons_append, List.eraseIdx_cons_succ, List.eraseIdx_cons_zero] at hs
    exact hk _ _ (hs.sub (by repeat (first | exact List.nil_sublist _ | exact List.Sublist.refl _ | exact List.sublist_append_left _ _ | apply List.Sublist.cons_cons | apply List.Sublist.cons)))
end Go.Px
end
section
set_option linter.unusedVariables false
set_option linter.unusedSimpArgs false
set_option linter.unusedVariables false
set_option maxRecDepth 20000
namespace Go.Px
open Go Go.Proofs
attribute [local irreducible] Do RdNow RdS RdNowN RdSN CallN Drew Draw Loop JoinC obj own rows at' old Item.r many
variable {K : Value → World → Prop} {L : List Item} {w : World}
def nL (bs : List Nat) : Nat := (splitL bs).length
theorem nL_eq (bs : List Nat) : nL bs = max ((bs.length + 63) / 64) 1 := by
  unfold nL splitL piecesN
  split
  · rename_i h; subst h; rfl
  · rename_i h
    have : 0 < bs.length := List.length_pos_iff.2 h
    rw [List.length_map, List.length_range]
    omega
theorem leaves_ok {v : Value} {bs : List Nat} (hs : St L w) (hx : rows EY v bs ∈ L) (hn : bs.length ≤ 1000000000) (hk : K (I (nL bs : Nat)) w) : CallN Tryd.prog (callS (fnv 11) #[v]) K w := by
  refine CallN_fn (args := [v]) (by kernel_rfl) (F11_calls ?_)
  unfold F11
  refine CallN_y hs (Yd.len (RowIn.of (by repeat (first | assumption | exact List.Mem.head _ | apply List.Mem.tail)))) ?_
  refine Do_y hs (Yd.add _ _ _) ?_
  refine Do_y hs (Yd.sub _ _ _) ?_
  refine Do_y hs (Yd.quo _ _ _) ?_
  refine CallN_y hs (Yd.max _ _ _ _ _ _) ?_
  have e1 : max (((bs.length : Int) + 64 - 1) / 64) 1 = ((nL bs : Nat) : Int) := by rw [nL_eq]; omega
  rw [e1]
  exact hk
def topL (xs : List Id) : Id := if 1 < xs.length then topL (aboveL xs) else xs.getD 0 id0
termination_by xs.length
decreasing_by rw [aboveL_len]; omega
def rootL (bs : List Nat) : Id := shaI (crownL (nL bs) (topL (digL bs)))
theorem root_ok {e0 : TypeId} {v : Value} {bs : List Nat} (hs : St L w) (hG : G0 e0 ∈ L) (hx : rows EY v bs ∈ L) (h8 : B8 bs) (hn : bs.length ≤ 10000) (hk : ∀ w, St L w → K (EId.val (rootL bs)) w) :
    CallN Tryd.prog (callS (fnv 10) #[v]) K w := by
  refine CallN_fn (args := [v]) (by kernel_rfl) (F10_calls ?_)
  unfold F10
  refine st_alloc (EId.val id0) hs fun b w hs => ?_
  refine digests_ok (e0 := e0) (bs := bs) hs (by repeat (first | assumption | exact List.Mem.head _ | exact List.mem_append_left _ (by assumption) | apply List.Mem.tail)) (by repeat (first | assumption | exact List.Mem.head _ | exact List.mem_append_left _ (by assumption) | apply List.Mem.tail)) h8 (by omega) fun v6 w hs => ?_
  have hs := hs.fix .here
  have hdl : (digL bs).length = nL bs := by unfold digL nL; simp
  have hnl : 1 ≤ nL bs ∧ nL bs ≤ bs.length + 1 := by rw [nL_eq]; omega
  refine CallN_y hs (Yd.len (RowIn.of (by repeat (first | assumption | exact List.Mem.head _ | apply List.Mem.tail)))) ?_
  refine JoinC_in ?_
  refine Loop_in (fun e w => ∃ (xs : List Id) (u : Value), 1 ≤ xs.length ∧ xs.length ≤ nL bs ∧ topL xs = topL (digL bs) ∧ e 3 = u ∧ e 4 = I (nL bs : Nat) ∧ e 2 = A b 0 ∧ St (rows EId u xs :: box b TI (EId.f id0) :: L) w)
    (fun e w => lenOf (e 3)) ⟨digL bs, v6, by omega, by omega, rfl, rfl, by rw [← hdl]; rfl, rfl, hs⟩ ?_
  rintro e w ⟨xs, u, h1, hle, ht, e3, e4, e2, hs⟩
  obtain ⟨e, rfl⟩ := env3 e3 e4 e2
  have hlo := lenOf_row hs (RowIn.of (E := EId) (xs := xs) (v := u) (by repeat (first | assumption | exact List.Mem.head _ | exact List.mem_append_left _ (by assumption) | apply List.Mem.tail)))
  refine JoinC_in ?_
  refine CallN_y hs (Yd.len (RowIn.of (by repeat (first | assumption | exact List.Mem.head _ | apply List.Mem.tail)))) ?_
  refine Do_y hs (Yd.gtr _ _ _ _) ?_
  refine Cond_dec (fun h => ?_) (fun h => ?_)
  · refine ⟨(rfl : @Eq (List Nat) _ _), ?_⟩
    refine above_ok (e0 := e0) (xs := xs) hs (by repeat (first | assumption | exact List.Mem.head _ | exact List.mem_append_left _ (by assumption) | apply List.Mem.tail)) (by repeat (first | assumption | exact List.Mem.head _ | exact List.mem_append_left _ (by assumption) | apply List.Mem.tail)) (by omega) fun v13 w hs => ?_
    have hs := hs.fix .here
    have hal := aboveL_len xs
    have hlo2 := lenOf_row hs (RowIn.of (E := EId) (xs := aboveL xs) (v := v13) (by repeat (first | assumption | exact List.Mem.head _ | exact List.mem_append_left _ (by assumption) | apply List.Mem.tail)))
    refine ⟨(rfl : @Eq (List Nat) _ _), ?_⟩
    refine ⟨⟨aboveL xs, v13, by omega, by omega, ?_, rfl, rfl, rfl, hs.sub (by repeat (first | exact List.nil_sublist _ | exact List.Sublist.refl _ | exact List.sublist_append_left _ _ | apply List.Sublist.cons_cons | apply List.Sublist.cons))⟩, ?_⟩
    · rw [← ht, topL.eq_1 xs, if_pos (by omega)]
    · show lenOf v13 < lenOf u
      omega
  · refine ⟨(rfl : @Eq (List Nat) _ _), ?_⟩
    have hx1 : xs.length = 1 := by omega
    obtain ⟨x, rfl⟩ := List.length_eq_one_iff.1 hx1
    refine Do_idx' hs (RowIn.of (by repeat (first | assumption | exact List.Mem.head _ | exact List.mem_append_left _ (by assumption) | apply List.Mem.tail))) 0 x rfl fun b1 o1 g => ?_
    refine Do_y hs (Yd.ty (by assumption)) ?_
    refine crown_ok hs (by omega) fun v18 w hs => ?_
    have hv18 := own_sv hs (List.Mem.head _)
    refine st_row1 (E := ESV) (e := TB) (bytes := 24) (x := ⟨v18, hv18⟩) hs fun v19 w hs _ => ?_
    refine of_ok (e0 := e0) (sv := ⟨v18, hv18⟩) (bs := crownL (nL bs) x) hs (by repeat (first | assumption | exact List.Mem.head _ | exact List.mem_append_left _ (by assumption) | apply List.Mem.tail)) (RowIn.own (e := TB) (by repeat (first | assumption | exact List.Mem.head _ | exact List.mem_append_left _ (by assumption) | apply List.Mem.tail))) (RowIn.own (e := T8) (by repeat (first | assumption | exact List.Mem.head _ | exact List.mem_append_left _ (by assumption) | apply List.Mem.tail))) (crownL_b8 _ x) (by rw [crownL_len]; decide) fun w hs => ?_
    have hr : shaI (crownL (nL bs) x) = rootL bs := by
      unfold rootL
      rw [← ht, topL.eq_1 [x], if_neg (by simp)]
      rfl
    rw [hr]
    refine st_ty (y := rootL bs) hs (by repeat (first | exact Upd.here | apply Upd.there)) (fun w hs => ?_)
    refine RdNow_y hs (Yd.cellS (Yd.ty (Gd.bE (by repeat (first | assumption | exact List.Mem.head _ | apply List.Mem.tail))))) ?_
    exact hk _ (hs.sub (by repeat (first | exact List.nil_sublist _ | exact List.Sublist.refl _ | exact List.sublist_append_left _ _ | apply List.Sublist.cons_cons | apply List.Sublist.cons)))
end Go.Px
end
section
set_option linter.unusedVariables false
set_option linter.unusedSimpArgs false
set_option linter.unusedVariables false
set_option maxRecDepth 20000
namespace Go.Px
open Go Go.Proofs
attribute [local irreducible] Do RdNow RdS RdNowN RdSN CallN Drew Draw Loop JoinC obj own rows at' old Item.r many
variable {K : Value → World → Prop} {L : List Item} {w : World}
/-- How wide the row is, so many rows up. -/
def wAt (n : Nat) : Nat → Nat
  | 0 => n
  | k + 1 => wAt n k - wAt n k / 2
def pAt (i k : Nat) : Nat := i / 2 ^ k
/-- How many rows there are above. -/
def ht (n : Nat) : Nat := if 1 < n then ht (n - n / 2) + 1 else 0
termination_by n
theorem wAt_succ (n k : Nat) : wAt n (k + 1) = wAt (n - n / 2) k := by
  induction k with
  | zero => rfl
  | succ k ih => show wAt n (k + 1) - wAt n (k + 1) / 2 = wAt (n - n / 2) k - wAt (n - n / 2) k / 2; rw [ih]
theorem lt_ht (n : Nat) : ∀ k, k < ht n ↔ 1 < wAt n k ∧ k ≤ ht n := by
  induction n using ht.induct with
  | case1 n h ih =>
    intro k
    have e : ht n = ht (n - n / 2) + 1 := by rw [ht.eq_1 n, if_pos h]
    cases k with
    | zero => rw [e]; show _ ↔ 1 < n ∧ _; omega
    | succ k =>
      have := ih k
      rw [wAt_succ, e]
      omega
  | case2 n h =>
    intro k
    have e : ht n = 0 := by rw [ht.eq_1 n, if_neg h]
    rw [e]
    constructor
    · omega
    · rintro ⟨h1, h2⟩
      have : k = 0 := by omega
      subst this
      exact absurd h1 h
theorem wAt_le (n k : Nat) : wAt n k ≤ n := by
  induction k with
  | zero => exact Nat.le_refl _
  | succ k ih => show wAt n k - wAt n k / 2 ≤ n; omega
theorem pAt_succ (i k : Nat) : pAt i (k + 1) = pAt i k / 2 := by unfold pAt; rw [Nat.pow_succ, Nat.div_div_eq_div_mul]
theorem pAt_le (i k : Nat) : pAt i k ≤ i := Nat.div_le_self _ _
/-- Does someone stand beside? -/
def beside (n i k : Nat) : Bool := decide (pAt i k ^^^ 1 < wAt n k)
theorem xor1_le (i : Nat) : i ^^^ 1 ≤ i + 1 := by rw [xor_one]; split <;> omega
theorem steps_ok {n i : Nat} (hs : St L w) (hk : ∀ b1 b2 w, St (box b1 3 [I n] :: box b2 3 [I i] :: L) w → K (.func (.func 63) (#[] : Array Value) #[A b1 0, A b2 0]) w) : CallN Tryd.prog (callS (fnv 36) #[I n, I i]) K w := by
  refine CallN_fn (args := [I n, I i]) (by kernel_rfl) (F36_calls ?_)
  unfold F36
  refine st_box hs fun b1 w hs => ?_
  refine st_box hs fun b2 w hs => ?_
  refine Do_y hs (Yd.mkf _ _ _) ?_
  exact hk b1 b2 _ hs.swap
theorem steps_iter (b1 b2 n i : Nat) (hn : n ≤ 1000000000) (hi : i ≤ 1000000000) :
    Iter2 Tryd.prog (.func (.func 63) (#[] : Array Value) #[A b1 0, A b2 0]) (fun k => [box b1 3 [I (wAt n k)], box b2 3 [I (pAt i k)]]) (ht n) (fun k v v' Le => Le = [] ∧ v = I (pAt i k) ∧ v' = .bool (beside n i k)) := by
  intro σ Lb yv K a w hy hend hs
  refine CallN_closure (first := []) (captured := [A b1 0, A b2 0]) (args := [yv]) (by kernel_rfl) (F63_calls ?_)
  unfold F63
  refine Loop_in (fun e w => ∃ (k : Nat) (a : σ), k ≤ ht n ∧ e 0 = yv ∧ e 1 = A b1 0 ∧ e 2 = A b2 0 ∧ St ([box b1 3 [I (wAt n k)], box b2 3 [I (pAt i k)]] ++ Lb k a) w) (fun e w => cellN w b1) ⟨0, a, by omega, rfl, rfl, rfl, by simpa [wAt, pAt] using hs⟩ ?_
  rintro e w ⟨k, a, hk, e0, e1, e2, hs⟩
  obtain ⟨e, rfl⟩ := env3 e0 e1 e2
  have hlt := lt_ht n k
  have hw := wAt_le n k
  have hpl := pAt_le i k
  have hx := xor1_le (pAt i k)
  have hc := cellN_box (b := b1) (e := 3) (v := I (wAt n k)) (cs := []) hs (by repeat (first | assumption | exact List.Mem.head _ | exact List.mem_append_left _ (by assumption) | apply List.Mem.tail))
  refine JoinC_in ?_
  refine Do_y hs (Yd.bx (by repeat (first | assumption | exact List.Mem.head _ | apply List.Mem.tail))) ?_
  refine Do_y hs (Yd.gtr _ _ _ _) ?_
  refine Cond_dec (fun h => ?_) (fun h => ?_)
  · have hkk : k < ht n := hlt.2 ⟨by omega, hk⟩
    refine ⟨(rfl : @Eq (List Nat) _ _), ?_⟩
    unfold F63_p2
    refine JoinC_in ?_
    refine Do_y hs (Yd.bx (by repeat (first | assumption | exact List.Mem.head _ | apply List.Mem.tail))) ?_
    refine Do_y hs (Yd.bx (by repeat (first | assumption | exact List.Mem.head _ | apply List.Mem.tail))) ?_
    refine Do_y hs (Yd.xorI _ _ 1) ?_
    refine Do_y hs (Yd.bx (by repeat (first | assumption | exact List.Mem.head _ | apply List.Mem.tail))) ?_
    refine Do_y hs (Yd.lss _ _ _ _) ?_
    have hbs : decide (((pAt i k ^^^ 1 : Nat) : Int) < (wAt n k : Nat)) = beside n i k := by unfold beside; rw [decide_eq_decide]; omega
    rw [hbs]
    refine CallN_mono (fun b w' hb => ?_) (hy k a (I (pAt i k)) (.bool (beside n i k)) [] _ hkk ⟨rfl, rfl, rfl⟩ hs)
    rcases hb with ⟨rfl, a', hs⟩ | ⟨rfl, hkf⟩
    · refine Do_y hs (Yd.not _) ?_
      refine Cond_false ?_
      refine ⟨(rfl : @Eq (List Nat) _ _), ?_⟩
      unfold F63_p1
      refine Drew_st hs fun w hs => ?_
      refine Draw_st hs [box b2 3 [I (pAt i k)]] (by repeat (first | exact List.nil_sublist _ | exact List.Sublist.refl _ | exact List.sublist_append_left _ _ | apply List.Sublist.cons_cons | apply List.Sublist.cons)) ?_
      refine RdNow_y hs (Yd.bx (by repeat (first | assumption | exact List.Mem.head _ | apply List.Mem.tail))) ?_
      refine RdNow_y hs (Yd.bx (by repeat (first | assumption | exact List.Mem.head _ | apply List.Mem.tail))) ?_
      refine RdNow_y hs (Yd.quo _ _ _) ?_
      refine RdNow_y hs (Yd.sub _ _ _) ?_
      refine RdS_y (Yd.bx (by repeat (first | assumption | exact List.Mem.head _ | apply List.Mem.tail))) ?_
      refine RdS_y (Yd.quo _ _ _) ?_
      refine st_set (v := I ((wAt n k : Int) - (wAt n k : Int) / 2)) hs (by repeat (first | exact Upd.here | apply Upd.there)) (fun w hs => ⟨hs.sub (by repeat (first | exact List.nil_sublist _ | exact List.Sublist.refl _ | exact List.sublist_append_left _ _ | apply List.Sublist.cons_cons | apply List.Sublist.cons)), ?_⟩) (by simp)
      refine st_set (v := I ((pAt i k : Int) / 2)) hs (by repeat (first | exact Upd.here | apply Upd.there)) (fun w hs => ?_) (by simp)
      have ew : ((wAt n k : Nat) : Int) - (wAt n k : Nat) / 2 = ((wAt n (k + 1) : Nat) : Int) := by
        show _ = ((wAt n k - wAt n k / 2 : Nat) : Int)
        omega
      have ep : ((pAt i k : Nat) : Int) / 2 = ((pAt i (k + 1) : Nat) : Int) := by rw [pAt_succ]; omega
      rw [ew, ep] at hs
      have hc2 := cellN_box (b := b1) (e := 3) (v := I (wAt n (k + 1))) (cs := []) hs (by repeat (first | assumption | exact List.Mem.head _ | exact List.mem_append_left _ (by assumption) | apply List.Mem.tail))
      refine ⟨(rfl : @Eq (List Nat) _ _), ?_⟩
      refine ⟨⟨k + 1, a', by omega, rfl, rfl, rfl, hs⟩, ?_⟩
      rw [hc2, hc]
      show (wAt n k - wAt n k / 2 : Nat) < wAt n k
      omega
    · exact Do_ok (run_not false) hkf
  · have hkk : k = ht n := by
      have : ¬ k < ht n := fun h2 => by have := (hlt.1 h2).1; omega
      omega
    subst hkk
    skip
    exact hend a _ hs
end Go.Px
end
section
set_option linter.unusedVariables false
set_option linter.unusedSimpArgs false
set_option linter.unusedVariables false
set_option maxRecDepth 20000
namespace Go.Px
open Go Go.Proofs
attribute [local irreducible] Do RdNow RdS RdNowN RdSN CallN Drew Draw Loop JoinC obj own rows at' old Item.r many
variable {K : Value → World → Prop} {L : List Item} {w : World}
def rowK (row : List Id) : Nat → List Id
  | 0 => row
  | k + 1 => aboveL (rowK row k)
theorem rowK_len (row : List Id) (k : Nat) : (rowK row k).length = wAt row.length k := by
  induction k with
  | zero => rfl
  | succ k ih => show (aboveL (rowK row k)).length = wAt row.length k - wAt row.length k / 2; rw [aboveL_len, ih]; omega
def wayK (row : List Id) (i : Nat) : Nat → List Id
  | 0 => []
  | k + 1 => wayK row i k ++ (bif beside row.length i k then [(rowK row k).getD (pAt i k ^^^ 1) id0] else [])
theorem wayK_len (row : List Id) (i k : Nat) : (wayK row i k).length ≤ k := by
  induction k with
  | zero => exact Nat.le_refl _
  | succ k ih =>
    show (wayK row i k ++ _).length ≤ _
    rw [List.length_append]
    cases beside row.length i k <;> simp <;> omega
def wayL (bs : List Nat) (i : Nat) : List Id := wayK (digL bs) i (ht (nL bs))
theorem ht_le (n : Nat) : ht n ≤ n := by
  induction n using ht.induct with
  | case1 n h ih => rw [ht.eq_1 n, if_pos h]; omega
  | case2 n h => rw [ht.eq_1 n, if_neg h]; omega
theorem prove_ok {e0 : TypeId} {v : Value} {bs : List Nat} {i : Nat} (hs : St L w) (hG : G0 e0 ∈ L) (hx : rows EY v bs ∈ L) (h8 : B8 bs) (hn : bs.length ≤ 10000) (hi : i < nL bs)
    (hk : ∀ vl vw w, St (own EY T8 vl ((splitL bs).getD i []) :: own EId TI vw (wayL bs i) :: L) w → K (.tuple #[vl, vw, I 0]) w) :
    CallN Tryd.prog (callS (fnv 14) #[v, I i]) K w := by
  refine CallN_fn (args := [v, I i]) (by kernel_rfl) (F14_calls ?_)
  unfold F14
  refine leaves_ok hs hx (by omega) ?_
  have hnl : 1 ≤ nL bs ∧ nL bs ≤ bs.length + 1 := by rw [nL_eq]; omega
  have hdl : (digL bs).length = nL bs := by unfold digL nL; simp
  refine JoinC_in ?_
  refine Do_y hs (Yd.lss _ _ _ _) ?_
  refine Join_in ?_
  refine Guard_t ?_
  refine Do_y hs (Yd.geq _ _ _ _) ?_
  refine CallN_y hs (Yd.pickb _ _ _) ?_
  refine Cond_no (by omega) ?_
  refine ⟨(rfl : @Eq (List Nat) _ _), ?_⟩
  unfold F14_p2
  refine digests_ok (e0 := e0) (bs := bs) hs hG hx h8 (by omega) fun v22 w hs => ?_
  have hv22 := own_sv hs (List.Mem.head _)
  have hs := hs.fix .here
  refine st_alloc NoSl hs fun b8 w hs => ?_
  refine st_set (v := v22) hs .here (fun w hs => ?_) (h1 := hv22.1) (hv := hv22.2)
  refine st_alloc NoSl hs fun b9 w hs => ?_
  refine JoinD_in ?_
  refine steps_ok hs fun b1 b2 w hs => ?_
  have hs := hs.nil (E := EId) (e := TI)
  have hs := hs.pull 2 rfl; have hs := hs.pull 2 rfl; have hs := hs.pull 5 rfl; have hs := hs.pull 5 rfl; have hs := hs.pull 4 rfl; have hs := hs.pull 5 rfl; try simp only [List.nil_append, List.cons_append, List.eraseIdx_cons_succ, List.eraseIdx_cons_zero] at hs
  have hp0 : pAt i 0 = i := by simp [pAt]
  have hs : St ((box b9 TIs [NoSl] :: own EId TI NoSl [] :: box b8 TIs [v22] :: rows EId v22 (digL bs) :: L) ++ [box b1 3 [I (wAt (nL bs) 0)], box b2 3 [I (pAt i 0)]]) w := by
    rw [hp0]
    exact hs.perm ((List.perm_append_comm (l₁ := [_, _])).cons _ |>.cons _ |>.cons _ |>.cons _)
  refine range2 (N := 46) (p := 26) (q := 27) (captured := [A b1 0, A b2 0]) (H := H14) (cv := cvTryd) (σ := Value × Value) (fun k a => box b9 TIs [a.1] :: own EId TI a.1 (wayK (digL bs) i k) :: box b8 TIs [a.2] :: rows EId a.2 (rowK (digL bs) k) :: L) (NoSl, v22) (fun e => upd (upd e 10 (e 26)) 11 (e 27))
    (steps_iter b1 b2 (nL bs) i (by omega) (by omega)) mixedTryd hs (by kernel_rfl) (by decide) (by decide) R14_0A_ok R14_0B_ok
    (fun l Q' e w h => by rw [← R14_0A_eq]; exact h) ?_ ?_
  · intro l d r0 k a u u' Le w hk2 hel hs
    obtain ⟨rfl, rfl, rfl⟩ := hel
    obtain ⟨wy, rw'⟩ := a
    have hkl := (lt_ht (nL bs) k).1 hk2
    have hrl := rowK_len (digL bs) k
    have hwl := wayK_len (digL bs) i k
    have hpl := pAt_le i k
    have hwa := wAt_le (nL bs) k
    have hhl := ht_le (nL bs)
    rw [hdl] at hrl
    rw [← R14_0B_eq]
    unfold R14_0B
    refine JoinC_mid (fun e' w' => e' 8 = A b8 0 ∧ ∃ wy', St (obj l (.loop (busyR r0)) :: obj d (.deferred (some [])) :: box b9 TIs [wy'] :: own EId TI wy' (wayK (digL bs) i (k + 1)) :: box b8 TIs [rw'] :: rows EId rw' (rowK (digL bs) k) :: (L ++ [box b1 3 [I (wAt (nL bs) k)], box b2 3 [I (pAt i k)]])) w') ?_ ?_
    · rintro e w ⟨e8, wy', hs⟩
      obtain ⟨e, rfl⟩ := env1 e8
      refine Do_y hs (Yd.bx (by repeat (first | assumption | exact List.Mem.head _ | exact List.mem_append_left _ (by assumption) | apply List.Mem.tail))) ?_
      refine above_ok (e0 := e0) (xs := rowK (digL bs) k) hs (by simp [hG]) (by repeat (first | assumption | exact List.Mem.head _ | exact List.mem_append_left _ (by assumption) | apply List.Mem.tail)) (by omega) fun v38 w hs => ?_
      have hv38 := own_sv hs (List.Mem.head _)
      have hs := hs.fix .here
      refine st_set (v := v38) hs (by repeat (first | exact Upd.here | apply Upd.there)) (fun w hs => ?_) (h1 := hv38.1) (hv := hv38.2)
      have hs := hs.pull 0 rfl; have hs := hs.pull 5 rfl; have hs := hs.pull 5 rfl; have hs := hs.pull 5 rfl; have hs := hs.pull 5 rfl; have hs := hs.pull 5 rfl; try simp only [List.nil_append, List.cons_append, List.eraseIdx_cons_succ, List.eraseIdx_cons_zero] at hs
      exact ⟨(wy', v38), hs.sub (by repeat (first | exact List.nil_sublist _ | exact List.Sublist.refl _ | exact List.sublist_append_left _ _ | apply List.Sublist.cons_cons | apply List.Sublist.cons))⟩
    · intro k' hk'
      refine Cond_split (fun hb => ?_) (fun hb => ?_)
      · have hxl : pAt i k ^^^ 1 < wAt (nL bs) k := of_decide_eq_true hb
        have hx1 := xor1_le (pAt i k)
        obtain ⟨x, hxx⟩ : ∃ x, (rowK (digL bs) k)[pAt i k ^^^ 1]? = some x := ⟨(rowK (digL bs) k)[pAt i k ^^^ 1]'(by omega), List.getElem?_eq_getElem (by omega)⟩
        have hwk : wayK (digL bs) i (k + 1) = wayK (digL bs) i k ++ [x] := by
          show _ ++ (bif beside (digL bs).length i k then _ else _) = _
          rw [hdl, hb, List.getD_eq_getElem?_getD, hxx]
          rfl
        refine Drew_st hs fun w hs => ?_
        refine Draw_st hs [box b9 TIs [wy], box b8 TIs [rw'], rows EId rw' (rowK (digL bs) k)] (by repeat (first | exact List.nil_sublist _ | exact List.Sublist.refl _ | exact List.sublist_append_left _ _ | apply List.Sublist.cons_cons | apply List.Sublist.cons)) ?_
        refine RdS_y (Yd.bx (by repeat (first | assumption | exact List.Mem.head _ | exact List.mem_append_left _ (by assumption) | apply List.Mem.tail))) ?_
        refine RdS_y (Yd.bx (by repeat (first | assumption | exact List.Mem.head _ | exact List.mem_append_left _ (by assumption) | apply List.Mem.tail))) ?_
        refine RdS_y (Yd.xorI _ _ 1) ?_
        refine RdS_idx' (hs.sub (by repeat (first | exact List.nil_sublist _ | exact List.Sublist.refl _ | exact List.sublist_append_left _ _ | apply List.Sublist.cons_cons | apply List.Sublist.cons))) (RowIn.of (by repeat (first | assumption | exact List.Mem.head _ | exact List.mem_append_left _ (by assumption) | apply List.Mem.tail))) (pAt i k ^^^ 1) x hxx fun b5 o5 g5 => ?_
        refine RdS_y (Yd.ty (by assumption)) ?_
        refine st_row1 (E := EId) (e := TI) (bytes := 32) (x := x) hs fun v35 w hs _ => ⟨hs.sub (by repeat (first | exact List.nil_sublist _ | exact List.Sublist.refl _ | exact List.sublist_append_left _ _ | apply List.Sublist.cons_cons | apply List.Sublist.cons)), ?_⟩
        have hs := hs.pull 4 rfl; try simp only [List.nil_append, List.cons_append, List.eraseIdx_cons_succ, List.eraseIdx_cons_zero] at hs
        refine st_append (E := EId) (e := TI) (bytes := 32) (ys := [x]) hs (RowIn.own (e := TI) (by repeat (first | assumption | exact List.Mem.head _ | exact List.mem_append_left _ (by assumption) | apply List.Mem.tail))) (fun v36 w hs => ?_) (List.Perm.refl _) (hm := by simp only [List.length_singleton]; omega) (hm2 := by simp only [List.length_singleton]; omega)
        have hv36 := own_sv hs (List.Mem.head _)
        refine st_set (b := b9) (o := 0) (v := v36) hs (by repeat (first | exact Upd.here | apply Upd.there)) (fun w hs => ?_) (h1 := hv36.1) (hv := hv36.2)
        rw [← hwk] at hs
        refine ⟨(rfl : @Eq (List Nat) _ _), ?_⟩
        have hs := hs.pull 6 rfl; have hs := hs.pull 6 rfl; have hs := hs.pull 2 rfl; have hs := hs.pull 6 rfl; have hs := hs.pull 6 rfl; have hs := hs.pull 6 rfl; try simp only [List.nil_append, List.cons_append, List.eraseIdx_cons_succ, List.eraseIdx_cons_zero] at hs
        exact hk' _ _ ⟨rfl, v36, hs.sub (by repeat (first | exact List.nil_sublist _ | exact List.Sublist.refl _ | exact List.sublist_append_left _ _ | apply List.Sublist.cons_cons | apply List.Sublist.cons))⟩
      · have hwk : wayK (digL bs) i (k + 1) = wayK (digL bs) i k := by
          show _ ++ (bif beside (digL bs).length i k then _ else _) = _
          rw [hdl, hb]
          simp
        refine ⟨(rfl : @Eq (List Nat) _ _), ?_⟩
        exact hk' _ _ ⟨rfl, wy, by rw [hwk]; exact hs⟩
  · intro d a w hs
    obtain ⟨wy, rw'⟩ := a
    obtain ⟨lf, hlf⟩ : ∃ l, (splitL bs)[i]? = some l := ⟨(splitL bs)[i], List.getElem?_eq_getElem hi⟩
    have hsm := splitL_mem (List.mem_of_getElem? hlf)
    have hlfd : (splitL bs).getD i [] = lf := by rw [List.getD_eq_getElem?_getD, hlf]; rfl
    show F14_p1 _ _ _ _ _
    unfold F14_p1
    refine Drew_st hs fun w hs => ?_
    refine Draw_st hs [box b9 TIs [wy]] (by repeat (first | exact List.nil_sublist _ | exact List.Sublist.refl _ | exact List.sublist_append_left _ _ | apply List.Sublist.cons_cons | apply List.Sublist.cons)) ?_
    refine RdS_y (Yd.bx (by repeat (first | assumption | exact List.Mem.head _ | exact List.mem_append_left _ (by assumption) | apply List.Mem.tail))) ?_
    refine split_ok (bs := bs) hs (by repeat (first | assumption | exact List.Mem.head _ | exact List.mem_append_left _ (by assumption) | apply List.Mem.tail)) (by omega) fun v40 svs w hs => ⟨hs.sub (by repeat (first | exact List.nil_sublist _ | exact List.Sublist.refl _ | exact List.sublist_append_left _ _ | apply List.Sublist.cons_cons | apply List.Sublist.cons)), ?_⟩
    have hsl := many_len hs (E := EY) (svs := svs) (xss := splitL bs) (by repeat (first | assumption | exact List.Mem.head _ | exact List.mem_append_left _ (by assumption) | apply List.Mem.tail))
    obtain ⟨sv, hsv⟩ : ∃ x, svs[i]? = some x := ⟨svs[i]'(by rw [hsl]; exact hi), List.getElem?_eq_getElem (by rw [hsl]; exact hi)⟩
    refine RdS_idxA hs (RowIn.own (e := TB) (by repeat (first | assumption | exact List.Mem.head _ | exact List.mem_append_left _ (by assumption) | apply List.Mem.tail))) i sv hsv fun b5 o5 g5 => ?_
    refine RdNow_y hs (Yd.ty (by assumption)) ?_
    have hs := many_row hs (E := EY) (xss := splitL bs) (by repeat (first | assumption | exact List.Mem.head _ | exact List.mem_append_left _ (by assumption) | apply List.Mem.tail)) hsv hlf
    refine clone_byte (xs := lf) hs (RowIn.of (by repeat (first | assumption | exact List.Mem.head _ | exact List.mem_append_left _ (by assumption) | apply List.Mem.tail))) (by omega) fun v44 w hs => ⟨hs.sub (by repeat (first | exact List.nil_sublist _ | exact List.Sublist.refl _ | exact List.sublist_append_left _ _ | apply List.Sublist.cons_cons | apply List.Sublist.cons)), ?_⟩
    have hs := hs.pull 4 rfl; try simp only [List.nil_append, List.cons_append, List.eraseIdx_cons_succ, List.eraseIdx_cons_zero] at hs
    refine RetM_st hs fun w hs => ?_
    have hs := hs.pull 5 rfl; have hs := hs.pull 1 rfl; try simp only [List.nil_append, List.cons_append, List.eraseIdx_cons_succ, List.eraseIdx_cons_zero] at hs
    rw [hlfd] at hk
    exact hk v44 wy w (hs.sub (by repeat (first | exact List.nil_sublist _ | exact List.Sublist.refl _ | exact List.sublist_append_left _ _ | apply List.Sublist.cons_cons | apply List.Sublist.cons)))
end Go.Px
end
section
set_option linter.unusedVariables false
set_option linter.unusedSimpArgs false
set_option linter.unusedVariables false
set_option maxRecDepth 20000
namespace Go.Px
open Go Go.Proofs
def nodeL (p : Nat) (now x : Id) : List Nat := if p % 2 = 1 then pairL x now else pairL now x
theorem nodeL_b8 (p : Nat) (a b : Id) : B8 (nodeL p a b) := by unfold nodeL; split <;> exact pairL_b8 _ _
theorem nodeL_len (p : Nat) (a b : Id) : (nodeL p a b).length = 65 := by unfold nodeL; split <;> exact pairL_len _ _
abbrev RowsS := List (List Nat) × Id × List Id
def rowsStep (n i k : Nat) (s : RowsS) : Option RowsS :=
  if beside n i k then match s.2.2 with
    | [] => none
    | x :: wy => some (s.1 ++ [nodeL (pAt i k) s.2.1 x], shaI (nodeL (pAt i k) s.2.1 x), wy)
  else some s
def rowsK (n i : Nat) (l : List Nat) (way : List Id) : Nat → Option RowsS
  | 0 => some ([0 :: l], shaI (0 :: l), way)
  | k + 1 => (rowsK n i l way k).bind (rowsStep n i k)
def rowsP (n i : Nat) (l : List Nat) (way : List Id) : Option (List (List Nat) × Bool) := (rowsK n i l way (ht n)).map fun s => (s.1 ++ [crownL n s.2.1], s.2.2.isEmpty)
theorem rowsK_none (n i : Nat) (l : List Nat) (way : List Id) (k m : Nat) (h : rowsK n i l way k = none) (hm : k ≤ m) : rowsK n i l way m = none := by
  induction m with
  | zero => have : k = 0 := by omega
            subst this; exact h
  | succ m ih =>
    by_cases hk : k = m + 1
    · subst hk; exact h
    · show (rowsK n i l way m).bind _ = none
      rw [ih (by omega)]; rfl
theorem rowsK_len (n i : Nat) (l : List Nat) (way : List Id) (k : Nat) (s : RowsS) (h : rowsK n i l way k = some s) : s.1.length ≤ k + 1 ∧ 1 ≤ s.1.length ∧ s.2.2.length ≤ way.length := by
  induction k generalizing s with
  | zero => simp only [rowsK, Option.some.injEq] at h; subst h; simp
  | succ k ih =>
    simp only [rowsK, Option.bind_eq_some_iff] at h
    obtain ⟨s', h1, h2⟩ := h
    have := ih s' h1
    unfold rowsStep at h2
    split at h2
    · split at h2
      · cases h2
      · rename_i x wy hw
        rw [hw] at this
        simp only [Option.some.injEq] at h2
        subst h2
        simp only [List.length_append, List.length_cons, List.length_nil] at this ⊢
        omega
    · simp only [Option.some.injEq] at h2
      subst h2
      omega
attribute [local irreducible] Do RdNow RdS RdNowN RdSN CallN Drew Draw Loop JoinC obj own rows at' old Item.r many fact
variable {K : Value → World → Prop} {L : List Item} {w : World}
def stK (n i : Nat) (l : List Nat) (way : List Id) (k : Nat) : RowsS := (rowsK n i l way k).getD ([], id0, [])
def lbK (b7 b8 b9 b10 b11 n i : Nat) (l : List Nat) (way : List Id) (L : List Item) (k : Nat) (a : Value × List SV × Value) : List Item :=
  fact ((rowsK n i l way k).isSome = true) :: box b8 TBB [NoSl] :: box b9 4 [.bool false] :: box b10 TBB [a.1] :: own ESV TB a.1 a.2.1 :: many EY a.2.1 (stK n i l way k).1 :: box b11 TI (EId.f (stK n i l way k).2.1) :: box b7 TIs [a.2.2] :: rows EId a.2.2 (stK n i l way k).2.2 :: L
theorem rows_round {e0 : TypeId} {b1 b2 b7 b8 b9 b10 b11 n i : Nat} {lf : List Nat} {way : List Id} (hG : G0 e0 ∈ L) (hn : n ≤ 100000) (hi : i < n) {Q : QQ} {e : Env} {ds : List Nat} {l d : Nat} {r0 : Go.Loop} {k : Nat} {a : Value × List SV × Value} (hk2 : k < ht n) (hway : way.length ≤ 100000)
    {e1 : Env} (h12 : e1 12 = I (pAt i k)) (h13 : e1 13 = .bool (beside n i k)) (h7 : e1 7 = A b7 0) (h8 : e1 8 = A b8 0) (h9 : e1 9 = A b9 0) (h10 : e1 10 = A b10 0) (h11 : e1 11 = A b11 0)
    (hret : rowsP n i lf way = none → ∀ L' w'', St (obj d (.deferred (some [])) :: box b8 TBB [NoSl] :: box b9 4 [.bool false] :: (L ++ L')) w'' → Q .ret e (d :: ds) w'')
    (hs : St (obj l (.loop (busyR r0)) :: obj d (.deferred (some [])) :: (lbK b7 b8 b9 b10 b11 n i lf way L k a ++ [box b1 3 [I (wAt n k)], box b2 3 [I (pAt i k)]])) w) :
    R44_0B Tryd.prog l (rndR l d r0 (fun w => ∃ a', St (obj l (.loop (busyR r0)) :: obj d (.deferred (some [])) :: (lbK b7 b8 b9 b10 b11 n i lf way L (k + 1) a' ++ [box b1 3 [I (wAt n k)], box b2 3 [I (pAt i k)]])) w) Q e ds) e1 [] w := by
  obtain ⟨e1, rfl⟩ := env7 h12 h13 h7 h8 h9 h10 h11
  obtain ⟨v10, svs, vw⟩ := a
  unfold lbK at hs
  have hfact := hs.isFact (p := (rowsK n i lf way k).isSome = true) (by repeat (first | assumption | exact List.Mem.head _ | exact List.mem_append_left _ (by assumption) | apply List.Mem.tail))
  obtain ⟨⟨out, now, wy⟩, hst⟩ := Option.isSome_iff_exists.1 hfact
  have hgd : stK n i lf way k = (out, now, wy) := by unfold stK; rw [hst]; rfl
  simp only [hgd, List.cons_append] at hs
  have hlen := rowsK_len n i lf way k _ hst
  have hht := ht_le n
  have hpl := pAt_le i k
  have hsl := many_len hs (E := EY) (svs := svs) (xss := out) (by repeat (first | assumption | exact List.Mem.head _ | exact List.mem_append_left _ (by assumption) | apply List.Mem.tail))
  simp only at hlen
  have hstep : rowsK n i lf way (k + 1) = rowsStep n i k (out, now, wy) := by show (rowsK n i lf way k).bind _ = _; rw [hst]; rfl
  unfold R44_0B
  refine JoinC_in ?_
  refine Do_y hs (Yd.not _) ?_
  refine Cond_not ?_
  refine Cond_split (fun hb => ?_) (fun hb => ?_)
  · unfold rowsStep at hstep
    rw [if_pos hb] at hstep
    refine ⟨(rfl : @Eq (List Nat) _ _), ?_⟩
    refine JoinC_in ?_
    refine Do_y hs (Yd.bx (by repeat (first | assumption | exact List.Mem.head _ | exact List.mem_append_left _ (by assumption) | apply List.Mem.tail))) ?_
    refine CallN_y hs (Yd.len (RowIn.of (by repeat (first | assumption | exact List.Mem.head _ | exact List.mem_append_left _ (by assumption) | apply List.Mem.tail)))) ?_
    refine Do_y hs (Yd.eq _ _ _ _ _ _) ?_
    cases wy with
    | nil =>
      have hnone : rowsP n i lf way = none := by
        unfold rowsP
        rw [rowsK_none n i lf way (k + 1) (ht n) hstep hk2]
        rfl
      refine Cond_true ?_
      refine st_set (b := b8) (o := 0) (v := NoSl) hs (by repeat (first | exact Upd.here | apply Upd.there)) (fun w hs => ?_)
      refine st_set (b := b9) (o := 0) (v := .bool false) hs (by repeat (first | exact Upd.here | apply Upd.there)) (fun w hs => ?_)
      have hs := hs.pull 4 rfl; have hs := hs.pull 4 rfl; have hs := hs.pull 3 rfl; have hs := hs.pull 3 rfl; try simp only [List.nil_append, List.cons_append, List.eraseIdx_cons_succ, List.eraseIdx_cons_zero] at hs
      exact ⟨box b8 TBB [NoSl] :: box b9 4 [.bool false] :: (L ++ [box b1 3 [I (wAt n k)], box b2 3 [I (pAt i k)]]), hs.sub (by repeat (first | exact List.nil_sublist _ | exact List.Sublist.refl _ | exact List.sublist_append_left _ _ | apply List.Sublist.cons_cons | apply List.Sublist.cons)), fun w'' h => hret hnone _ w'' h⟩
    | cons x wy =>
      simp only at hstep
      refine Cond_false ?_
      refine ⟨(rfl : @Eq (List Nat) _ _), ?_⟩
      unfold F44_p3
      refine Drew_st hs fun w hs => ?_
      refine Draw_st hs [box b7 TIs [vw], rows EId vw (x :: wy)] (by repeat (first | exact List.nil_sublist _ | exact List.Sublist.refl _ | exact List.sublist_append_left _ _ | apply List.Sublist.cons_cons | apply List.Sublist.cons)) ?_
      refine RdNow_y hs (Yd.ty (Gd.bE (by repeat (first | assumption | exact List.Mem.head _ | exact List.mem_append_left _ (by assumption) | apply List.Mem.tail)))) ?_
      refine RdS_y (Yd.bx (by repeat (first | assumption | exact List.Mem.head _ | exact List.mem_append_left _ (by assumption) | apply List.Mem.tail))) ?_
      refine RdS_idx' (hs.sub (by repeat (first | exact List.nil_sublist _ | exact List.Sublist.refl _ | exact List.sublist_append_left _ _ | apply List.Sublist.cons_cons | apply List.Sublist.cons))) (RowIn.of (by repeat (first | assumption | exact List.Mem.head _ | exact List.mem_append_left _ (by assumption) | apply List.Mem.tail))) 0 x rfl fun b5 o5 g5 => ?_
      refine RdNow_y (hs.sub (by repeat (first | exact List.nil_sublist _ | exact List.Sublist.refl _ | exact List.sublist_append_left _ _ | apply List.Sublist.cons_cons | apply List.Sublist.cons))) (Yd.ty g5) ?_
      refine pair_ok hs fun v37 w hs => ?_
      refine JoinC_mid (fun e' w' => e' 7 = A b7 0 ∧ e' 10 = A b10 0 ∧ e' 11 = A b11 0 ∧ ∃ vb, e' 14 = vb ∧ St (rows EY vb (nodeL (pAt i k) now x) :: obj l (.loop (busyR r0)) :: obj d (.deferred (some [])) :: box b8 TBB [NoSl] :: box b9 4 [.bool false] :: box b10 TBB [v10] :: own ESV TB v10 svs :: many EY svs out :: box b11 TI (EId.f now) :: box b7 TIs [vw] :: rows EId vw (x :: wy) :: (L ++ [box b1 3 [I (wAt n k)], box b2 3 [I (pAt i k)]])) w') ?_ ?_
      · rintro e w ⟨q7, q10, q11, vb, q14, hs⟩
        obtain ⟨e, rfl⟩ := env4 q7 q10 q11 q14
        have hvb := rows_sv hs (RowIn.of (E := EY) (xs := nodeL (pAt i k) now x) (v := vb) (by repeat (first | assumption | exact List.Mem.head _ | exact List.mem_append_left _ (by assumption) | apply List.Mem.tail)))
        have hb8 := nodeL_b8 (pAt i k) now x
        have hbl : (nodeL (pAt i k) now x).length ≤ 1000000 := by rw [nodeL_len]; decide
        generalize hbb : nodeL (pAt i k) now x = bb at *
        have hfin : ∀ w v49 v54, St (obj l (.loop (busyR r0)) :: obj d (.deferred (some [])) :: box b8 TBB [NoSl] :: box b9 4 [.bool false] :: box b10 TBB [v49] :: own ESV TB v49 (svs ++ [⟨vb, hvb⟩]) :: many EY svs out :: rows EY vb bb :: box b11 TI (EId.f (shaI bb)) :: box b7 TIs [v54] :: rows EId v54 wy :: (L ++ [box b1 3 [I (wAt n k)], box b2 3 [I (pAt i k)]])) w →
            ∃ a', St (obj l (.loop (busyR r0)) :: obj d (.deferred (some [])) :: (lbK b7 b8 b9 b10 b11 n i lf way L (k + 1) a' ++ [box b1 3 [I (wAt n k)], box b2 3 [I (pAt i k)]])) w := by
          intro w v49 v54 hs
          have hgd2 : stK n i lf way (k + 1) = (out ++ [bb], shaI bb, wy) := by unfold stK; rw [hstep]; rfl
          refine ⟨(v49, svs ++ [⟨vb, hvb⟩], v54), ?_⟩
          unfold lbK
          simp only [hgd2, List.cons_append]
          have hs := many_add (E := EY) (svs := svs) (xss := out) (sv := ⟨vb, hvb⟩) (xs := bb) hs (by repeat (first | assumption | exact List.Mem.head _ | exact List.mem_append_left _ (by assumption) | apply List.Mem.tail)) (by repeat (first | assumption | exact List.Mem.head _ | exact List.mem_append_left _ (by assumption) | apply List.Mem.tail))
          have hs := hs.fact (p := (rowsK n i lf way (k + 1)).isSome = true) (by rw [hstep]; rfl)
          have hs := hs.pull 12 rfl; have hs := hs.pull 12 rfl; have hs := hs.pull 12 rfl; have hs := hs.pull 4 rfl; have hs := hs.pull 10 rfl; have hs := hs.pull 10 rfl; have hs := hs.pull 10 rfl; have hs := hs.pull 10 rfl; have hs := hs.pull 8 rfl; have hs := hs.pull 10 rfl; have hs := hs.pull 10 rfl; try simp only [List.nil_append, List.cons_append, List.eraseIdx_cons_succ, List.eraseIdx_cons_zero] at hs
          exact hs.sub (by repeat (first | exact List.nil_sublist _ | exact List.Sublist.refl _ | exact List.sublist_append_left _ _ | apply List.Sublist.cons_cons | apply List.Sublist.cons))
        unfold F44_p2
        refine Join_in ?_
        refine Drew_st hs fun w hs => ?_
        refine Draw_st2 hs [box b10 TBB [v10]] [box b7 TIs [vw], rows EId vw (x :: wy)] (by repeat (first | exact List.nil_sublist _ | exact List.Sublist.refl _ | exact List.sublist_append_left _ _ | apply List.Sublist.cons_cons | apply List.Sublist.cons)) (by repeat (first | exact List.nil_sublist _ | exact List.Sublist.refl _ | exact List.sublist_append_left _ _ | apply List.Sublist.cons_cons | apply List.Sublist.cons)) ?_
        refine RdS_y (Yd.bx (by repeat (first | assumption | exact List.Mem.head _ | exact List.mem_append_left _ (by assumption) | apply List.Mem.tail))) ?_
        refine RdS_y (Yd.bx (by repeat (first | assumption | exact List.Mem.head _ | exact List.mem_append_left _ (by assumption) | apply List.Mem.tail))) ?_
        refine RdS_from (xs := x :: wy) hs (by repeat (first | assumption | exact List.Mem.head _ | exact List.mem_append_left _ (by assumption) | apply List.Mem.tail)) 1 (fun v54 hpart => ?_) (h1 := by simp)
        refine ⟨?_, ?_⟩
        · refine st_row1 (E := ESV) (e := TB) (bytes := 24) (x := ⟨vb, hvb⟩) hs fun v48 w hs _ => ⟨hs.sub (by repeat (first | exact List.nil_sublist _ | exact List.Sublist.refl _ | exact List.sublist_append_left _ _ | apply List.Sublist.cons_cons | apply List.Sublist.cons)), hs.sub (by repeat (first | exact List.nil_sublist _ | exact List.Sublist.refl _ | exact List.sublist_append_left _ _ | apply List.Sublist.cons_cons | apply List.Sublist.cons)), ?_, ?_⟩
          · have hs := hs.pull 7 rfl; try simp only [List.nil_append, List.cons_append, List.eraseIdx_cons_succ, List.eraseIdx_cons_zero] at hs
            refine st_append (E := ESV) (e := TB) (bytes := 24) (xs := svs) (ys := [⟨vb, hvb⟩]) hs (RowIn.own (e := TB) (v := v48) (by repeat (first | assumption | exact List.Mem.head _ | exact List.mem_append_left _ (by assumption) | apply List.Mem.tail))) (fun v49 w hs => ⟨hs.sub (by repeat (first | exact List.nil_sublist _ | exact List.Sublist.refl _ | exact List.sublist_append_left _ _ | apply List.Sublist.cons_cons | apply List.Sublist.cons)), ?_⟩) (List.Perm.refl _) (hm := by simp only [List.length_singleton]; omega) (hm2 := by simp only [List.length_singleton]; omega)
            have hv49 := own_sv hs (List.Mem.head _)
            refine st_row1 (E := ESV) (e := TB) (bytes := 24) (x := ⟨vb, hvb⟩) hs fun v51 w hs _ => ⟨hs.sub (by repeat (first | exact List.nil_sublist _ | exact List.Sublist.refl _ | exact List.sublist_append_left _ _ | apply List.Sublist.cons_cons | apply List.Sublist.cons)), hs.sub (by repeat (first | exact List.nil_sublist _ | exact List.Sublist.refl _ | exact List.sublist_append_left _ _ | apply List.Sublist.cons_cons | apply List.Sublist.cons)), ?_⟩
            refine of_ok (e0 := e0) (sv := ⟨vb, hvb⟩) (bs := bb) hs (by repeat (first | assumption | exact List.Mem.head _ | exact List.mem_append_left _ (by assumption) | apply List.Mem.tail)) (RowIn.own (e := TB) (v := v51) (by repeat (first | assumption | exact List.Mem.head _ | exact List.mem_append_left _ (by assumption) | apply List.Mem.tail))) (RowIn.of (by repeat (first | assumption | exact List.Mem.head _ | exact List.mem_append_left _ (by assumption) | apply List.Mem.tail))) hb8 hbl fun w hs => ⟨hs.sub (by repeat (first | exact List.nil_sublist _ | exact List.Sublist.refl _ | exact List.sublist_append_left _ _ | apply List.Sublist.cons_cons | apply List.Sublist.cons)), ?_⟩
            refine st_set (b := b10) (o := 0) (v := v49) hs (by repeat (first | exact Upd.here | apply Upd.there)) (fun w hs => ⟨hs.sub (by repeat (first | exact List.nil_sublist _ | exact List.Sublist.refl _ | exact List.sublist_append_left _ _ | apply List.Sublist.cons_cons | apply List.Sublist.cons)), ?_⟩) (h1 := hv49.1) (hv := hv49.2)
            refine st_ty (y := shaI bb) hs (by repeat (first | exact Upd.here | apply Upd.there)) (fun w hs => ⟨hs.sub (by repeat (first | exact List.nil_sublist _ | exact List.Sublist.refl _ | exact List.sublist_append_left _ _ | apply List.Sublist.cons_cons | apply List.Sublist.cons)), ?_⟩)
            have hs := hpart _ _ hs (by repeat (first | assumption | exact List.Mem.head _ | exact List.mem_append_left _ (by assumption) | apply List.Mem.tail))
            have hv54 := rows_sv hs (RowIn.of (E := EId) (xs := wy) (v := v54) (by repeat (first | assumption | exact List.Mem.head _ | exact List.mem_append_left _ (by assumption) | apply List.Mem.tail)))
            refine st_set (b := b7) (o := 0) (v := v54) hs (by repeat (first | exact Upd.here | apply Upd.there)) (fun w hs => ?_) (h1 := hv54.1) (hv := hv54.2)
            have hs := hs.pull 0 rfl; have hs := hs.pull 12 rfl; have hs := hs.pull 12 rfl; have hs := hs.pull 6 rfl; have hs := hs.pull 12 rfl; have hs := hs.pull 6 rfl; have hs := hs.pull 12 rfl; have hs := hs.pull 12 rfl; have hs := hs.pull 12 rfl; have hs := hs.pull 12 rfl; have hs := hs.pull 12 rfl; try simp only [List.nil_append, List.cons_append, List.eraseIdx_cons_succ, List.eraseIdx_cons_zero] at hs
            exact hfin _ v49 v54 (hs.sub (by repeat (first | exact List.nil_sublist _ | exact List.Sublist.refl _ | exact List.sublist_append_left _ _ | apply List.Sublist.cons_cons | apply List.Sublist.cons)))
          · refine st_row1 (E := ESV) (e := TB) (bytes := 24) (x := ⟨vb, hvb⟩) hs fun v51 w hs _ => ⟨hs.sub (by repeat (first | exact List.nil_sublist _ | exact List.Sublist.refl _ | exact List.sublist_append_left _ _ | apply List.Sublist.cons_cons | apply List.Sublist.cons)), hs.sub (by repeat (first | exact List.nil_sublist _ | exact List.Sublist.refl _ | exact List.sublist_append_left _ _ | apply List.Sublist.cons_cons | apply List.Sublist.cons)), ?_⟩
            have hs := hs.pull 8 rfl; try simp only [List.nil_append, List.cons_append, List.eraseIdx_cons_succ, List.eraseIdx_cons_zero] at hs
            refine st_append (E := ESV) (e := TB) (bytes := 24) (xs := svs) (ys := [⟨vb, hvb⟩]) hs (RowIn.own (e := TB) (v := v48) (by repeat (first | assumption | exact List.Mem.head _ | exact List.mem_append_left _ (by assumption) | apply List.Mem.tail))) (fun v49 w hs => ⟨hs.sub (by repeat (first | exact List.nil_sublist _ | exact List.Sublist.refl _ | exact List.sublist_append_left _ _ | apply List.Sublist.cons_cons | apply List.Sublist.cons)), ?_⟩) (List.Perm.refl _) (hm := by simp only [List.length_singleton]; omega) (hm2 := by simp only [List.length_singleton]; omega)
            have hv49 := own_sv hs (List.Mem.head _)
            refine of_ok (e0 := e0) (sv := ⟨vb, hvb⟩) (bs := bb) hs (by repeat (first | assumption | exact List.Mem.head _ | exact List.mem_append_left _ (by assumption) | apply List.Mem.tail)) (RowIn.own (e := TB) (v := v51) (by repeat (first | assumption | exact List.Mem.head _ | exact List.mem_append_left _ (by assumption) | apply List.Mem.tail))) (RowIn.of (by repeat (first | assumption | exact List.Mem.head _ | exact List.mem_append_left _ (by assumption) | apply List.Mem.tail))) hb8 hbl fun w hs => ⟨hs.sub (by repeat (first | exact List.nil_sublist _ | exact List.Sublist.refl _ | exact List.sublist_append_left _ _ | apply List.Sublist.cons_cons | apply List.Sublist.cons)), ?_⟩
            refine st_set (b := b10) (o := 0) (v := v49) hs (by repeat (first | exact Upd.here | apply Upd.there)) (fun w hs => ⟨hs.sub (by repeat (first | exact List.nil_sublist _ | exact List.Sublist.refl _ | exact List.sublist_append_left _ _ | apply List.Sublist.cons_cons | apply List.Sublist.cons)), ?_⟩) (h1 := hv49.1) (hv := hv49.2)
            refine st_ty (y := shaI bb) hs (by repeat (first | exact Upd.here | apply Upd.there)) (fun w hs => ⟨hs.sub (by repeat (first | exact List.nil_sublist _ | exact List.Sublist.refl _ | exact List.sublist_append_left _ _ | apply List.Sublist.cons_cons | apply List.Sublist.cons)), ?_⟩)
            have hs := hpart _ _ hs (by repeat (first | assumption | exact List.Mem.head _ | exact List.mem_append_left _ (by assumption) | apply List.Mem.tail))
            have hv54 := rows_sv hs (RowIn.of (E := EId) (xs := wy) (v := v54) (by repeat (first | assumption | exact List.Mem.head _ | exact List.mem_append_left _ (by assumption) | apply List.Mem.tail)))
            refine st_set (b := b7) (o := 0) (v := v54) hs (by repeat (first | exact Upd.here | apply Upd.there)) (fun w hs => ?_) (h1 := hv54.1) (hv := hv54.2)
            have hs := hs.pull 0 rfl; have hs := hs.pull 12 rfl; have hs := hs.pull 12 rfl; have hs := hs.pull 6 rfl; have hs := hs.pull 12 rfl; have hs := hs.pull 5 rfl; have hs := hs.pull 12 rfl; have hs := hs.pull 12 rfl; have hs := hs.pull 12 rfl; have hs := hs.pull 12 rfl; have hs := hs.pull 12 rfl; try simp only [List.nil_append, List.cons_append, List.eraseIdx_cons_succ, List.eraseIdx_cons_zero] at hs
            exact hfin _ v49 v54 (hs.sub (by repeat (first | exact List.nil_sublist _ | exact List.Sublist.refl _ | exact List.sublist_append_left _ _ | apply List.Sublist.cons_cons | apply List.Sublist.cons)))
        · refine st_row1 (E := ESV) (e := TB) (bytes := 24) (x := ⟨vb, hvb⟩) hs fun v51 w hs _ => ⟨hs.sub (by repeat (first | exact List.nil_sublist _ | exact List.Sublist.refl _ | exact List.sublist_append_left _ _ | apply List.Sublist.cons_cons | apply List.Sublist.cons)), hs.sub (by repeat (first | exact List.nil_sublist _ | exact List.Sublist.refl _ | exact List.sublist_append_left _ _ | apply List.Sublist.cons_cons | apply List.Sublist.cons)), ?_⟩
          refine st_row1 (E := ESV) (e := TB) (bytes := 24) (x := ⟨vb, hvb⟩) hs fun v48 w hs _ => ⟨hs.sub (by repeat (first | exact List.nil_sublist _ | exact List.Sublist.refl _ | exact List.sublist_append_left _ _ | apply List.Sublist.cons_cons | apply List.Sublist.cons)), hs.sub (by repeat (first | exact List.nil_sublist _ | exact List.Sublist.refl _ | exact List.sublist_append_left _ _ | apply List.Sublist.cons_cons | apply List.Sublist.cons)), ?_⟩
          have hs := hs.pull 8 rfl; try simp only [List.nil_append, List.cons_append, List.eraseIdx_cons_succ, List.eraseIdx_cons_zero] at hs
          refine st_append (E := ESV) (e := TB) (bytes := 24) (xs := svs) (ys := [⟨vb, hvb⟩]) hs (RowIn.own (e := TB) (v := v48) (by repeat (first | assumption | exact List.Mem.head _ | exact List.mem_append_left _ (by assumption) | apply List.Mem.tail))) (fun v49 w hs => ⟨hs.sub (by repeat (first | exact List.nil_sublist _ | exact List.Sublist.refl _ | exact List.sublist_append_left _ _ | apply List.Sublist.cons_cons | apply List.Sublist.cons)), ?_⟩) (List.Perm.refl _) (hm := by simp only [List.length_singleton]; omega) (hm2 := by simp only [List.length_singleton]; omega)
          have hv49 := own_sv hs (List.Mem.head _)
          refine of_ok (e0 := e0) (sv := ⟨vb, hvb⟩) (bs := bb) hs (by repeat (first | assumption | exact List.Mem.head _ | exact List.mem_append_left _ (by assumption) | apply List.Mem.tail)) (RowIn.own (e := TB) (v := v51) (by repeat (first | assumption | exact List.Mem.head _ | exact List.mem_append_left _ (by assumption) | apply List.Mem.tail))) (RowIn.of (by repeat (first | assumption | exact List.Mem.head _ | exact List.mem_append_left _ (by assumption) | apply List.Mem.tail))) hb8 hbl fun w hs => ⟨hs.sub (by repeat (first | exact List.nil_sublist _ | exact List.Sublist.refl _ | exact List.sublist_append_left _ _ | apply List.Sublist.cons_cons | apply List.Sublist.cons)), ?_⟩
          refine st_set (b := b10) (o := 0) (v := v49) hs (by repeat (first | exact Upd.here | apply Upd.there)) (fun w hs => ⟨hs.sub (by repeat (first | exact List.nil_sublist _ | exact List.Sublist.refl _ | exact List.sublist_append_left _ _ | apply List.Sublist.cons_cons | apply List.Sublist.cons)), ?_⟩) (h1 := hv49.1) (hv := hv49.2)
          refine st_ty (y := shaI bb) hs (by repeat (first | exact Upd.here | apply Upd.there)) (fun w hs => ⟨hs.sub (by repeat (first | exact List.nil_sublist _ | exact List.Sublist.refl _ | exact List.sublist_append_left _ _ | apply List.Sublist.cons_cons | apply List.Sublist.cons)), ?_⟩)
          have hs := hpart _ _ hs (by repeat (first | assumption | exact List.Mem.head _ | exact List.mem_append_left _ (by assumption) | apply List.Mem.tail))
          have hv54 := rows_sv hs (RowIn.of (E := EId) (xs := wy) (v := v54) (by repeat (first | assumption | exact List.Mem.head _ | exact List.mem_append_left _ (by assumption) | apply List.Mem.tail)))
          refine st_set (b := b7) (o := 0) (v := v54) hs (by repeat (first | exact Upd.here | apply Upd.there)) (fun w hs => ?_) (h1 := hv54.1) (hv := hv54.2)
          have hs := hs.pull 0 rfl; have hs := hs.pull 12 rfl; have hs := hs.pull 12 rfl; have hs := hs.pull 6 rfl; have hs := hs.pull 12 rfl; have hs := hs.pull 5 rfl; have hs := hs.pull 12 rfl; have hs := hs.pull 12 rfl; have hs := hs.pull 12 rfl; have hs := hs.pull 12 rfl; have hs := hs.pull 12 rfl; try simp only [List.nil_append, List.cons_append, List.eraseIdx_cons_succ, List.eraseIdx_cons_zero] at hs
          exact hfin _ v49 v54 (hs.sub (by repeat (first | exact List.nil_sublist _ | exact List.Sublist.refl _ | exact List.sublist_append_left _ _ | apply List.Sublist.cons_cons | apply List.Sublist.cons)))
      · intro k' hk'
        have hand : pAt i k &&& 1 = pAt i k % 2 := Nat.and_one_is_mod _
        refine Do_y hs (Yd.andI _ _ 1) ?_
        refine Do_y hs (Yd.eq _ _ _ _ _ _) ?_
        refine Cond_dec (fun h => ?_) (fun h => ?_)
        · have hnd : nodeL (pAt i k) now x = pairL x now := by unfold nodeL; rw [if_pos (by omega)]
          refine Drew_st hs fun w hs => ?_
          refine Draw_st hs [box b7 TIs [vw], rows EId vw (x :: wy)] (by repeat (first | exact List.nil_sublist _ | exact List.Sublist.refl _ | exact List.sublist_append_left _ _ | apply List.Sublist.cons_cons | apply List.Sublist.cons)) ?_
          refine RdS_y (Yd.bx (by repeat (first | assumption | exact List.Mem.head _ | exact List.mem_append_left _ (by assumption) | apply List.Mem.tail))) ?_
          refine RdS_idx' (hs.sub (by repeat (first | exact List.nil_sublist _ | exact List.Sublist.refl _ | exact List.sublist_append_left _ _ | apply List.Sublist.cons_cons | apply List.Sublist.cons))) (RowIn.of (by repeat (first | assumption | exact List.Mem.head _ | exact List.mem_append_left _ (by assumption) | apply List.Mem.tail))) 0 x rfl fun b6 o6 g6 => ?_
          refine RdNow_y (hs.sub (by repeat (first | exact List.nil_sublist _ | exact List.Sublist.refl _ | exact List.sublist_append_left _ _ | apply List.Sublist.cons_cons | apply List.Sublist.cons))) (Yd.ty g6) ?_
          refine RdNow_y hs (Yd.ty (Gd.bE (by repeat (first | assumption | exact List.Mem.head _ | exact List.mem_append_left _ (by assumption) | apply List.Mem.tail)))) ?_
          refine pair_ok hs fun v45 w hs => ?_
          refine ⟨(rfl : @Eq (List Nat) _ _), ?_⟩
          rw [← hnd] at hs
          have hs := hs.fix .here
          exact hk' _ _ ⟨rfl, rfl, rfl, v45, rfl, hs.sub (by repeat (first | exact List.nil_sublist _ | exact List.Sublist.refl _ | exact List.sublist_append_left _ _ | apply List.Sublist.cons_cons | apply List.Sublist.cons))⟩
        · have hnd : nodeL (pAt i k) now x = pairL now x := by unfold nodeL; rw [if_neg (by omega)]
          refine ⟨(rfl : @Eq (List Nat) _ _), ?_⟩
          rw [← hnd] at hs
          have hs := hs.fix .here
          exact hk' _ _ ⟨rfl, rfl, rfl, v37, rfl, hs.sub (by repeat (first | exact List.nil_sublist _ | exact List.Sublist.refl _ | exact List.sublist_append_left _ _ | apply List.Sublist.cons_cons | apply List.Sublist.cons))⟩
  · unfold rowsStep at hstep
    rw [if_neg (by rw [hb]; simp)] at hstep
    have hgd2 : stK n i lf way (k + 1) = (out, now, wy) := by unfold stK; rw [hstep]; rfl
    refine ⟨(v10, svs, vw), ?_⟩
    unfold lbK
    simp only [hgd2, List.cons_append]
    have hs := hs.pull 10 rfl; have hs := hs.pull 10 rfl; have hs := hs.pull 10 rfl; have hs := hs.pull 10 rfl; have hs := hs.pull 10 rfl; have hs := hs.pull 10 rfl; have hs := hs.pull 10 rfl; have hs := hs.pull 10 rfl; have hs := hs.pull 9 rfl; have hs := hs.pull 9 rfl; try simp only [List.nil_append, List.cons_append, List.eraseIdx_cons_succ, List.eraseIdx_cons_zero] at hs
    have hs := hs.fact (p := (rowsK n i lf way (k + 1)).isSome = true) (by rw [hstep]; rfl)
    have hs := hs.pull 0 rfl; have hs := hs.pull 2 rfl; have hs := hs.pull 2 rfl; try simp only [List.nil_append, List.cons_append, List.eraseIdx_cons_succ, List.eraseIdx_cons_zero] at hs
    exact hs.sub (by repeat (first | exact List.nil_sublist _ | exact List.Sublist.refl _ | exact List.sublist_append_left _ _ | apply List.Sublist.cons_cons | apply List.Sublist.cons))
end Go.Px
end
section
set_option linter.unusedVariables false
set_option linter.unusedSimpArgs false
set_option linter.unusedVariables false
set_option maxRecDepth 20000
namespace Go.Px
open Go Go.Proofs
attribute [local irreducible] Do RdNow RdS RdNowN RdSN CallN Drew Draw Loop JoinC obj own rows at' old Item.r many fact
variable {K : Value → World → Prop} {L : List Item} {w : World}
theorem rows_ok {e0 : TypeId} {n i : Nat} {vl vw : Value} {lf : List Nat} {way : List Id} (hs : St L w) (hG : G0 e0 ∈ L) (hl : rows EY vl lf ∈ L) (hw : rows EId vw way ∈ L) (h8 : B8 lf) (hlf : lf.length ≤ 100000) (hn : n ≤ 100000) (hi : i < n) (hway : way.length ≤ 100000)
    (hk1 : rowsP n i lf way = none → ∀ w, St L w → K (.tuple #[NoSl, .bool false]) w)
    (hk2 : ∀ out ok v svs w, rowsP n i lf way = some (out, ok) → St (own ESV TB v svs :: many EY svs out :: L) w → K (.tuple #[v, .bool ok]) w) :
    CallN Tryd.prog (callS (fnv 44) #[I n, I i, vl, vw]) K w := by
  refine CallN_fn (args := [I n, I i, vl, vw]) (by kernel_rfl) (F44_calls ?_)
  unfold F44
  have hvw := rows_sv hs (RowIn.of hw)
  refine st_box hs fun b7 w hs => ?_
  rw [hvw.2] at hs
  refine st_alloc NoSl hs fun b8 w hs => ?_
  refine st_alloc (.bool false) hs fun b9 w hs => ?_
  refine below_ok (bs := lf) hs (by repeat (first | assumption | exact List.Mem.head _ | exact List.mem_append_left _ (by assumption) | apply List.Mem.tail)) (by omega) fun v16 w hs => ?_
  have hv16 := own_sv hs (List.Mem.head _)
  have hs := hs.fix .here
  refine st_row1 (E := ESV) (e := TB) (bytes := 24) (x := ⟨v16, hv16⟩) hs fun v17 w hs _ => ?_
  have hv17 := own_sv hs (List.Mem.head _)
  refine st_alloc NoSl hs fun b10 w hs => ?_
  refine st_set (v := v17) hs .here (fun w hs => ?_) (h1 := hv17.1) (hv := hv17.2)
  refine Do_y hs (Yd.bx (by repeat (first | assumption | exact List.Mem.head _ | exact List.mem_append_left _ (by assumption) | apply List.Mem.tail))) ?_
  refine Do_idx' hs (RowIn.own (E := ESV) (e := TB) (xs := [(⟨v16, hv16⟩ : SV)]) (by repeat (first | assumption | exact List.Mem.head _ | exact List.mem_append_left _ (by assumption) | apply List.Mem.tail))) 0 (⟨v16, hv16⟩ : SV) rfl fun b o g => ?_
  refine Do_y hs (Yd.ty (by assumption)) ?_
  refine st_row1 (E := ESV) (e := TB) (bytes := 24) (x := (⟨v16, hv16⟩ : SV)) hs fun v21 w hs _ => ?_
  refine of_ok (e0 := e0) (sv := (⟨v16, hv16⟩ : SV)) (bs := 0 :: lf) hs (by repeat (first | assumption | exact List.Mem.head _ | exact List.mem_append_left _ (by assumption) | apply List.Mem.tail)) (RowIn.own (e := TB) (v := v21) (by repeat (first | assumption | exact List.Mem.head _ | exact List.mem_append_left _ (by assumption) | apply List.Mem.tail))) (RowIn.of (by repeat (first | assumption | exact List.Mem.head _ | exact List.mem_append_left _ (by assumption) | apply List.Mem.tail))) (.cons (by decide) h8) (by rw [List.length_cons]; omega) fun w hs => ?_
  refine st_alloc (EId.val id0) hs fun b11 w hs => ?_
  refine st_ty (y := shaI (0 :: lf)) hs .here (fun w hs => ?_)
  refine JoinD_in ?_
  refine steps_ok hs fun b1 b2 w hs => ?_
  have hs := many_add (E := EY) (svs := []) (xss := []) (sv := (⟨v16, hv16⟩ : SV)) (xs := 0 :: lf) (many_nil hs) (by repeat (first | assumption | exact List.Mem.head _ | exact List.mem_append_left _ (by assumption) | apply List.Mem.tail)) (by repeat (first | assumption | exact List.Mem.head _ | exact List.mem_append_left _ (by assumption) | apply List.Mem.tail))
  have hs := hs.dup (E := EId) (v := vw) (xs := way) (by repeat (first | assumption | exact List.Mem.head _ | exact List.mem_append_left _ (by assumption) | apply List.Mem.tail))
  have hs := hs.fact (p := (rowsK n i lf way 0).isSome = true) rfl
  have hp0 : pAt i 0 = i := by simp [pAt]
  have hs : St (lbK b7 b8 b9 b10 b11 n i lf way L 0 (v17, [(⟨v16, hv16⟩ : SV)], vw) ++ [box b1 3 [I (wAt n 0)], box b2 3 [I (pAt i 0)]]) w := by
    rw [hp0]
    have hs := hs.pull 1 rfl; have hs := hs.pull 13 rfl; have hs := hs.pull 7 rfl; have hs := hs.pull 4 rfl; have hs := hs.pull 10 rfl; have hs := hs.pull 10 rfl; have hs := hs.pull 12 rfl; have hs := hs.pull 13 rfl; have hs := hs.pull 8 rfl; have hs := hs.pull 11 rfl; have hs := hs.pull 11 rfl; try simp only [List.nil_append, List.cons_append, List.eraseIdx_cons_succ, List.eraseIdx_cons_zero] at hs
    have hs : St ([box b1 3 [I n], box b2 3 [I i]] ++ lbK b7 b8 b9 b10 b11 n i lf way L 0 (v17, [(⟨v16, hv16⟩ : SV)], vw)) w := hs.sub (by repeat (first | exact List.nil_sublist _ | exact List.Sublist.refl _ | exact List.sublist_append_left _ _ | apply List.Sublist.cons_cons | apply List.Sublist.cons))
    exact hs.perm List.perm_append_comm
  refine range2 (N := 64) (p := 26) (q := 27) (captured := [A b1 0, A b2 0]) (H := H44) (cv := cvTryd) (σ := Value × List SV × Value) (lbK b7 b8 b9 b10 b11 n i lf way L) (v17, [(⟨v16, hv16⟩ : SV)], vw) (fun e => upd (upd e 12 (e 26)) 13 (e 27))
    (steps_iter b1 b2 n i (by omega) (by omega)) mixedTryd hs (by kernel_rfl) (by decide) (by decide) R44_0A_ok R44_0B_ok
    (fun l Q' e w h => by rw [← R44_0A_eq]; exact h) ?_ ?_
  · intro l d r0 k a u u' Le w hk hel hs
    obtain ⟨rfl, rfl, rfl⟩ := hel
    rw [← R44_0B_eq]
    refine rows_round (b1 := b1) (b2 := b2) (b7 := b7) (b8 := b8) (b9 := b9) (b10 := b10) (b11 := b11) (a := a) hG hn hi hk hway rfl rfl rfl rfl rfl rfl rfl (fun hnone L' w hs => ?_) hs
    show RetM _ _ _ _ _ _
    refine RetM_st hs fun w hs => ?_
    show RdNow _ _ _ _
    refine RdNow_y hs (Yd.cellS (Yd.bx (by repeat (first | assumption | exact List.Mem.head _ | exact List.mem_append_left _ (by assumption) | apply List.Mem.tail)))) ?_
    show RdNow _ _ _ _
    refine RdNow_y hs (Yd.cellS (Yd.bx (by repeat (first | assumption | exact List.Mem.head _ | exact List.mem_append_left _ (by assumption) | apply List.Mem.tail)))) ?_
    exact hk1 hnone _ (hs.drop.drop.sub (by repeat (first | exact List.nil_sublist _ | exact List.Sublist.refl _ | exact List.sublist_append_left _ _ | apply List.Sublist.cons_cons | apply List.Sublist.cons)))
  · intro d a w hs
    obtain ⟨v10, svs, vw'⟩ := a
    show F44_p1 _ _ _ _ _
    unfold F44_p1
    unfold lbK at hs
    have hfact := hs.isFact (p := (rowsK n i lf way (ht n)).isSome = true) (by repeat (first | assumption | exact List.Mem.head _ | exact List.mem_append_left _ (by assumption) | apply List.Mem.tail))
    obtain ⟨⟨out, now, wy⟩, hst⟩ := Option.isSome_iff_exists.1 hfact
    have hgd : stK n i lf way (ht n) = (out, now, wy) := by unfold stK; rw [hst]; rfl
    simp only [hgd, List.cons_append] at hs
    have hlen := rowsK_len n i lf way (ht n) _ hst
    have hht := ht_le n
    have hsl := many_len hs (E := EY) (svs := svs) (xss := out) (by repeat (first | assumption | exact List.Mem.head _ | exact List.mem_append_left _ (by assumption) | apply List.Mem.tail))
    simp only at hlen
    have hrp : rowsP n i lf way = some (out ++ [crownL n now], wy.isEmpty) := by unfold rowsP; rw [hst]; rfl
    refine Drew_st hs fun w hs => ?_
    refine Draw_st2 hs [box b10 TBB [v10], box b11 TI (EId.f now)] [box b7 TIs [vw'], rows EId vw' wy] (by repeat (first | exact List.nil_sublist _ | exact List.Sublist.refl _ | exact List.sublist_append_left _ _ | apply List.Sublist.cons_cons | apply List.Sublist.cons)) (by repeat (first | exact List.nil_sublist _ | exact List.Sublist.refl _ | exact List.sublist_append_left _ _ | apply List.Sublist.cons_cons | apply List.Sublist.cons)) ?_
    refine RdS_y (Yd.bx (by repeat (first | assumption | exact List.Mem.head _ | exact List.mem_append_left _ (by assumption) | apply List.Mem.tail))) ?_
    refine RdS_y (Yd.ty (Gd.bE (by repeat (first | assumption | exact List.Mem.head _ | exact List.mem_append_left _ (by assumption) | apply List.Mem.tail)))) ?_
    refine RdS_y (Yd.bx (by repeat (first | assumption | exact List.Mem.head _ | exact List.mem_append_left _ (by assumption) | apply List.Mem.tail))) ?_
    refine RdSN_y (Yd.len (RowIn.of (by repeat (first | assumption | exact List.Mem.head _ | exact List.mem_append_left _ (by assumption) | apply List.Mem.tail)))) ?_
    refine RdS_y (Yd.eq _ _ _ _ _ _) ?_
    refine crown_ok hs (by omega) fun v58 w hs => ⟨hs.sub (by repeat (first | exact List.nil_sublist _ | exact List.Sublist.refl _ | exact List.sublist_append_left _ _ | apply List.Sublist.cons_cons | apply List.Sublist.cons)), hs.sub (by repeat (first | exact List.nil_sublist _ | exact List.Sublist.refl _ | exact List.sublist_append_left _ _ | apply List.Sublist.cons_cons | apply List.Sublist.cons)), ?_⟩
    have hv58 := own_sv hs (List.Mem.head _)
    have hs := hs.fix .here
    refine st_row1 (E := ESV) (e := TB) (bytes := 24) (x := (⟨v58, hv58⟩ : SV)) hs fun v59 w hs _ => ⟨hs.sub (by repeat (first | exact List.nil_sublist _ | exact List.Sublist.refl _ | exact List.sublist_append_left _ _ | apply List.Sublist.cons_cons | apply List.Sublist.cons)), hs.sub (by repeat (first | exact List.nil_sublist _ | exact List.Sublist.refl _ | exact List.sublist_append_left _ _ | apply List.Sublist.cons_cons | apply List.Sublist.cons)), ?_⟩
    have hs := hs.pull 7 rfl; try simp only [List.nil_append, List.cons_append, List.eraseIdx_cons_succ, List.eraseIdx_cons_zero] at hs
    refine st_append (E := ESV) (e := TB) (bytes := 24) (xs := svs) (ys := [(⟨v58, hv58⟩ : SV)]) hs (RowIn.own (e := TB) (v := v59) (by repeat (first | assumption | exact List.Mem.head _ | exact List.mem_append_left _ (by assumption) | apply List.Mem.tail))) (fun v60 w hs => ⟨hs.sub (by repeat (first | exact List.nil_sublist _ | exact List.Sublist.refl _ | exact List.sublist_append_left _ _ | apply List.Sublist.cons_cons | apply List.Sublist.cons)), ?_⟩) (List.Perm.refl _) (hm := by simp only [List.length_singleton]; omega) (hm2 := by simp only [List.length_singleton]; omega)
    have hv60 := own_sv hs (List.Mem.head _)
    refine st_set (b := b8) (o := 0) (v := v60) hs (by repeat (first | exact Upd.here | apply Upd.there)) (fun w hs => ⟨hs.sub (by repeat (first | exact List.nil_sublist _ | exact List.Sublist.refl _ | exact List.sublist_append_left _ _ | apply List.Sublist.cons_cons | apply List.Sublist.cons)), ?_⟩) (h1 := hv60.1) (hv := hv60.2)
    refine st_set (b := b9) (o := 0) hs (by repeat (first | exact Upd.here | apply Upd.there)) (fun w hs => ?_)
    have hs := hs.pull 3 rfl; try simp only [List.nil_append, List.cons_append, List.eraseIdx_cons_succ, List.eraseIdx_cons_zero] at hs
    refine RetM_st hs fun w hs => ?_
    show RdNow _ _ _ _
    refine RdNow_y hs (Yd.cellS (Yd.bx (by repeat (first | assumption | exact List.Mem.head _ | exact List.mem_append_left _ (by assumption) | apply List.Mem.tail)))) ?_
    show RdNow _ _ _ _
    refine RdNow_y hs (Yd.cellS (Yd.bx (by repeat (first | assumption | exact List.Mem.head _ | exact List.mem_append_left _ (by assumption) | apply List.Mem.tail)))) ?_
    have hs := many_add (E := EY) (svs := svs) (xss := out) (sv := (⟨v58, hv58⟩ : SV)) (xs := crownL n now) hs (by repeat (first | assumption | exact List.Mem.head _ | exact List.mem_append_left _ (by assumption) | apply List.Mem.tail)) (by repeat (first | assumption | exact List.Mem.head _ | exact List.mem_append_left _ (by assumption) | apply List.Mem.tail))
    have hem : decide ((wy.length : Int) = 0) = wy.isEmpty := by cases wy <;> simp <;> omega
    rw [hem]
    have hs := hs.pull 0 rfl; have hs := hs.pull 1 rfl; try simp only [List.nil_append, List.cons_append, List.eraseIdx_cons_succ, List.eraseIdx_cons_zero] at hs
    exact hk2 _ _ v60 _ _ hrp (hs.sub (by repeat (first | exact List.nil_sublist _ | exact List.Sublist.refl _ | exact List.sublist_append_left _ _ | apply List.Sublist.cons_cons | apply List.Sublist.cons)))
theorem getLast_row {α : Type} (xs : List α) (x : α) : (xs ++ [x])[(xs ++ [x]).length - 1]? = some x := by simp
theorem Cond_bif {b : Bool} {v : Value} {x y : Prop} (h : b = true) (h1 : x) : Cond (bif b then .bool true else v) x y := by subst h; exact h1
theorem rowsP_len {n i : Nat} {l : List Nat} {way : List Id} {out : List (List Nat)} {ok : Bool} (h : rowsP n i l way = some (out, ok)) : out.length ≤ n + 2 ∧ 2 ≤ out.length ∧ ∃ x, out[out.length - 1]? = some (crownL n x) := by
  unfold rowsP at h
  rw [Option.map_eq_some_iff] at h
  obtain ⟨s, h1, h2⟩ := h
  have h3 := rowsK_len n i l way _ s h1
  have h4 := ht_le n
  have h5 : out = s.1 ++ [crownL n s.2.1] := ((Prod.mk.injEq _ _ _ _).mp h2).1.symm
  subst h5
  refine ⟨?_, ?_, _, getLast_row _ _⟩ <;> rw [List.length_append, List.length_singleton] <;> omega
theorem Guard_F {b : Bool} {x y : Prop} (h : b = false) (h1 : x) : Guard (.bool b) false x y := by subst h; exact h1
theorem Guard_N {b : Bool} {x y : Prop} (h : b = true) (h1 : y) : Guard (.bool b) false x y := by subst h; exact h1
theorem Guard_T {b : Bool} {x y : Prop} (h : b = true) (h1 : x) : Guard (.bool b) true x y := by subst h; exact h1
def checkP (root : Id) (n i : Nat) (lf : List Nat) (way : List Id) : Bool :=
  match rowsP n i lf way with
  | some (out, true) => decide (lf.length ≤ 64) && decide (shaI (out.getLastD []) = root)
  | _ => false
theorem check_ok {e0 : TypeId} {n i : Nat} {root : Id} {vl vw : Value} {lf : List Nat} {way : List Id} (hs : St L w) (hG : G0 e0 ∈ L) (hl : rows EY vl lf ∈ L) (hw : rows EId vw way ∈ L) (h8 : B8 lf) (hlf : lf.length ≤ 100000) (hn : n ≤ 100000) (hi : i < n) (hway : way.length ≤ 100000)
    (hk : ∀ w, St L w → K (I (bif checkP root n i lf way then 0 else 21)) w) :
    CallN Tryd.prog (callS (fnv 41) #[EId.val root, I n, I i, vl, vw]) K w := by
  refine CallN_fn (args := [EId.val root, I n, I i, vl, vw]) (by kernel_rfl) (F41_calls ?_)
  unfold F41
  refine st_boxE hs fun b5 w hs => ?_
  refine JoinC_in ?_
  refine Do_y hs (Yd.lss _ _ _ _) ?_
  refine Join_in ?_
  refine Guard_decF (fun q1 => ?_) (fun q1 => by omega)
  refine Do_y hs (Yd.lss _ _ _ _) ?_
  refine CallN_y hs (Yd.pickb _ _ _) ?_
  refine Join_in ?_
  refine Guard_F (by simp; omega) ?_
  refine Do_y hs (Yd.geq _ _ _ _) ?_
  refine CallN_y hs (Yd.pickb _ _ _) ?_
  refine Cond_split (fun q => ?_) (fun q => ?_)
  · simp only [Bool.cond_eq_ite] at q
    simp at q
    omega
  refine ⟨(rfl : @Eq (List Nat) _ _), ?_⟩
  unfold F41_p2
  refine rows_ok (e0 := e0) (lf := lf) (way := way) hs (by repeat (first | assumption | exact List.Mem.head _ | exact List.mem_append_left _ (by assumption) | apply List.Mem.tail)) (by repeat (first | assumption | exact List.Mem.head _ | exact List.mem_append_left _ (by assumption) | apply List.Mem.tail)) (by repeat (first | assumption | exact List.Mem.head _ | exact List.mem_append_left _ (by assumption) | apply List.Mem.tail)) h8 hlf hn hi hway (fun hnone w hs => ?_) (fun out ok v svs w hsome hs => ?_)
  · have hck : checkP root n i lf way = false := by unfold checkP; rw [hnone]
    rw [hck] at hk
    refine Do_y hs (Yd.ext _ _ _) ?_
    refine Do_y hs (Yd.ext _ _ _) ?_
    refine JoinC_in ?_
    refine Drew_st hs fun w hs => ?_
    refine Draw_st hs [box b5 TI (EId.f root)] (by repeat (first | exact List.nil_sublist _ | exact List.Sublist.refl _ | exact List.sublist_append_left _ _ | apply List.Sublist.cons_cons | apply List.Sublist.cons)) ?_
    refine RdS_y (Yd.not _) ?_
    refine Join_in ?_
    refine Guard_N (by rfl) ?_
    unfold F41_p1
    refine RdSN_y (Yd.pick _ _ _) ?_
    refine Join_in ?_
    refine Guard_N (by rfl) ?_
    refine RdNowN_y hs (Yd.pick _ _ _) ?_
    refine Cond_true ?_
    exact hk _ (hs.sub (by repeat (first | exact List.nil_sublist _ | exact List.Sublist.refl _ | exact List.sublist_append_left _ _ | apply List.Sublist.cons_cons | apply List.Sublist.cons)))
  · refine Do_y hs (Yd.ext _ _ _) ?_
    refine Do_y hs (Yd.ext _ _ _) ?_
    refine JoinC_in ?_
    refine Drew_st hs fun w hs => ?_
    have hlo := many_len hs (E := EY) (svs := svs) (xss := out) (by repeat (first | assumption | exact List.Mem.head _ | exact List.mem_append_left _ (by assumption) | apply List.Mem.tail))
    have hs := hs.dup (E := EY) (v := vl) (xs := lf) (by repeat (first | assumption | exact List.Mem.head _ | exact List.mem_append_left _ (by assumption) | apply List.Mem.tail))
    refine Draw_st hs [rows EY vl lf, own ESV TB v svs, many EY svs out, box b5 TI (EId.f root)] (by repeat (first | exact List.nil_sublist _ | exact List.Sublist.refl _ | exact List.sublist_append_left _ _ | apply List.Sublist.cons_cons | apply List.Sublist.cons)) ?_
    cases ok with
    | false =>
      have hck : checkP root n i lf way = false := by unfold checkP; rw [hsome]
      rw [hck] at hk
      refine RdS_y (Yd.not _) ?_
      refine Join_in ?_
      refine Guard_N (by rfl) ?_
      unfold F41_p1
      refine RdSN_y (Yd.pick _ _ _) ?_
      refine Join_in ?_
      refine Guard_N (by rfl) ?_
      refine RdNowN_y hs (Yd.pick _ _ _) ?_
      refine Cond_true ?_
      exact hk _ (hs.sub (by repeat (first | exact List.nil_sublist _ | exact List.Sublist.refl _ | exact List.sublist_append_left _ _ | apply List.Sublist.cons_cons | apply List.Sublist.cons)))
    | true =>
      have hck : checkP root n i lf way = (decide (lf.length ≤ 64) && decide (shaI (out.getLastD []) = root)) := by unfold checkP; rw [hsome]
      refine RdS_y (Yd.not _) ?_
      refine Join_in ?_
      refine Guard_t ?_
      refine RdSN_y (Yd.len (RowIn.of (by repeat (first | assumption | exact List.Mem.head _ | exact List.mem_append_left _ (by assumption) | apply List.Mem.tail)))) ?_
      refine RdS_y (Yd.gtr _ _ _ _) ?_
      show RdSN _ _ _ _
      obtain ⟨ho1, ho2, nx, hox⟩ := rowsP_len hsome
      obtain ⟨sv, hsv⟩ : ∃ x, svs[out.length - 1]? = some x := ⟨svs[out.length - 1]'(by omega), List.getElem?_eq_getElem (by omega)⟩
      refine RdSN_y (Yd.pickb _ _ _) ?_
      refine Join_in ?_
      by_cases h64 : lf.length ≤ 64
      · refine Guard_F (by simp; omega) ?_
        refine RdSN_y (Yd.len (RowIn.own (by repeat (first | assumption | exact List.Mem.head _ | exact List.mem_append_left _ (by assumption) | apply List.Mem.tail)))) ?_
        refine RdS_y (Yd.sub _ _ _) ?_
        have e1 : (svs.length : Int) - 1 = ((out.length - 1 : Nat) : Int) := by omega
        rw [e1]
        refine RdS_idx' (hs.sub (by repeat (first | exact List.nil_sublist _ | exact List.Sublist.refl _ | exact List.sublist_append_left _ _ | apply List.Sublist.cons_cons | apply List.Sublist.cons))) (RowIn.own (E := ESV) (e := TB) (v := v) (xs := svs) (by repeat (first | assumption | exact List.Mem.head _ | exact List.mem_append_left _ (by assumption) | apply List.Mem.tail))) (out.length - 1) sv hsv fun b6 o6 g6 => ?_
        refine RdS_y (Yd.ty (by assumption)) ?_
        refine RdS_y (Yd.ty (Gd.bE (by repeat (first | assumption | exact List.Mem.head _ | exact List.mem_append_left _ (by assumption) | apply List.Mem.tail)))) ?_
        have hrow := many_row hs (E := EY) (xss := out) (by repeat (first | assumption | exact List.Mem.head _ | exact List.mem_append_left _ (by assumption) | apply List.Mem.tail)) hsv hox
        refine st_row1 (E := ESV) (e := TB) (bytes := 24) (x := sv) hrow fun v46 w hs _ => ⟨hs.sub (by repeat (first | exact List.nil_sublist _ | exact List.Sublist.refl _ | exact List.sublist_append_left _ _ | apply List.Sublist.cons_cons | apply List.Sublist.cons)), ?_⟩
        refine of_ok (e0 := e0) (sv := sv) (bs := crownL n nx) hs (by repeat (first | assumption | exact List.Mem.head _ | exact List.mem_append_left _ (by assumption) | apply List.Mem.tail)) (RowIn.own (e := TB) (v := v46) (by repeat (first | assumption | exact List.Mem.head _ | exact List.mem_append_left _ (by assumption) | apply List.Mem.tail))) (RowIn.of (by repeat (first | assumption | exact List.Mem.head _ | exact List.mem_append_left _ (by assumption) | apply List.Mem.tail))) (crownL_b8 _ _) (by rw [crownL_len]; decide) fun w hs => ⟨hs.sub (by repeat (first | exact List.nil_sublist _ | exact List.Sublist.refl _ | exact List.sublist_append_left _ _ | apply List.Sublist.cons_cons | apply List.Sublist.cons)), ?_⟩
        refine RdNow_y hs (Yd.neA) ?_
        refine RdNowN_y hs (Yd.pickb _ _ _) ?_
        have hl2 : out.getLastD [] = crownL n nx := by rw [List.getLastD_eq_getLast?, List.getLast?_eq_getElem?, hox]; rfl
        rw [hck, hl2, decide_eq_true h64] at hk
        have hn64 : decide (64 < (lf.length : Int)) = false := decide_eq_false (by omega)
        by_cases hr : shaI (crownL n nx) = root
        · rw [decide_eq_true hr] at hk
          refine Cond_split (fun q => ?_) (fun q => ?_)
          · rw [hn64, decide_eq_false (fun h => h hr)] at q
            exact absurd q (by decide)
          · refine ⟨(rfl : @Eq (List Nat) _ _), ?_⟩
            exact hk _ (hs.sub (by repeat (first | exact List.nil_sublist _ | exact List.Sublist.refl _ | exact List.sublist_append_left _ _ | apply List.Sublist.cons_cons | apply List.Sublist.cons)))
        · rw [decide_eq_false hr] at hk
          refine Cond_split (fun q => ?_) (fun q => ?_)
          · skip
            exact hk _ (hs.sub (by repeat (first | exact List.nil_sublist _ | exact List.Sublist.refl _ | exact List.sublist_append_left _ _ | apply List.Sublist.cons_cons | apply List.Sublist.cons)))
          · rw [hn64, decide_eq_true hr] at q
            exact absurd q (by decide)
      · have h3 : checkP root n i lf way = false := by rw [hck, decide_eq_false h64]; rfl
        rw [h3] at hk
        refine Guard_N (by simp; omega) ?_
        refine RdNowN_y hs (Yd.pick _ _ _) ?_
        refine Cond_bif (by simp; omega) ?_
        skip
        exact hk _ (hs.sub (by repeat (first | exact List.nil_sublist _ | exact List.Sublist.refl _ | exact List.sublist_append_left _ _ | apply List.Sublist.cons_cons | apply List.Sublist.cons)))
end Go.Px
end
section
set_option linter.unusedVariables false
set_option linter.unusedSimpArgs false
set_option linter.unusedVariables false
set_option maxRecDepth 20000
namespace Go.Px
open Go Go.Proofs
attribute [local irreducible] Do RdNow RdS RdNowN RdSN CallN Drew Draw Loop JoinC obj own rows at' old Item.r many fact
variable {K : Value → World → Prop} {L : List Item} {w : World}
def closeM (p : audit_question → Bool) : List audit_question → Option (audit_question × List audit_question)
  | [] => none
  | q :: qs => bif p q then some (q, qs) else (closeM p qs).map fun x => (x.1, q :: x.2)
theorem closeM_none (p : audit_question → Bool) : ∀ qs, (∀ x ∈ qs, p x = false) → closeM p qs = none
  | [], _ => rfl
  | q :: qs, h => by
    show (bif p q then _ else _) = _
    rw [h q (List.Mem.head _), closeM_none p qs fun x hx => h x (List.Mem.tail _ hx)]
    rfl
theorem closeM_some (p : audit_question → Bool) : ∀ qs (i : Nat) x, qs[i]? = some x → p x = true → (∀ (j : Nat) y, j < i → qs[j]? = some y → p y = false) → closeM p qs = some (x, qs.eraseIdx i)
  | [], i, x, h, _, _ => by simp at h
  | q :: qs, 0, x, h, hp, _ => by
    simp only [List.getElem?_cons_zero, Option.some.injEq] at h
    subst h
    show (bif p q then _ else _) = _
    rw [hp]
    rfl
  | q :: qs, i + 1, x, h, hp, hb => by
    show (bif p q then _ else _) = _
    rw [hb 0 q (by omega) rfl, closeM_some p qs i x (by simpa using h) hp fun j y hj hy => hb (j + 1) y (by omega) (by simpa using hy)]
    rfl
theorem Cond_T {b : Bool} {x y : Prop} (h : b = true) (h1 : x) : Cond (.bool b) x y := by subst h; exact h1
theorem Cond_bifF {b : Bool} {v : Value} {x y : Prop} (h : b = false) (h1 : y) : Cond (bif b then v else .bool false) x y := by subst h; exact h1
theorem Cond_F {b : Bool} {x y : Prop} (h : b = false) (h1 : y) : Cond (.bool b) x y := by subst h; exact h1
def QOk (q : audit_question) : Prop := 0 ≤ q.leaf ∧ q.leaf < q.leaves ∧ q.leaves ≤ 65536
def hP (who : Int) (n : notes_Note) (x : audit_question) : Bool :=
  if n.Kind = 7 then decide (x.about = ⟨who, n.Pack, n.Nonce⟩) else if n.Kind = 3 then decide (x.about.who = who ∧ x.about.pack = n.Pack) else false
def hR (n : notes_Note) (lf : List Nat) (way : List Id) (q : audit_question) : Nat :=
  if n.Kind = 7 then (bif decide (n.N = q.leaf.toNat) && checkP q.about.pack q.leaves.toNat q.leaf.toNat lf way then 1 else 2) else 2
def handleM (who : Int) (n : notes_Note) (lf : List Nat) (way : List Id) (qs : List audit_question) : Nat × List audit_question :=
  match closeM (hP who n) qs with
  | none => (0, qs)
  | some (q, qs') => (hR n lf way q, qs')
theorem handle_ok {e0 : TypeId} {a d : Nat} {sv : SV} {qs : List audit_question} {who : Int} {n : notes_Note} {lf : List Nat} {way : List Id} (hs : St (box a TA (EA.f ⟨d, sv⟩) :: own EQ TQ sv.1 qs :: L) w) (hG : G0 e0 ∈ L)
    (hl : rows EY n.Bytes.1 lf ∈ L) (hw : rows EId n.Way.1 way ∈ L) (h8 : B8 lf) (hlf : lf.length ≤ 100000) (hway : way.length ≤ 100000) (hq : qs.length ≤ 1000000) (hok : ∀ q ∈ qs, QOk q)
    (hk : ∀ sv' w, St (box a TA (EA.f ⟨d, sv'⟩) :: own EQ TQ sv'.1 (handleM who n lf way qs).2 :: L) w → K (I (handleM who n lf way qs).1) w) :
    CallN Tryd.prog (callS (fnv 15) #[A a 0, I who, EN.val n]) K w := by
  refine CallN_fn (args := [A a 0, I who, EN.val n]) (by kernel_rfl) (F15_calls ?_)
  unfold F15
  refine st_boxE (E := EI) (x := who) hs fun b4 w hs => ?_
  refine st_boxE (E := EN) (x := n) hs fun b5 w hs => ?_
  have hs := hs.pull 0 rfl; have hs := hs.pull 1 rfl; have hs := hs.pull 3 rfl; have hs := hs.pull 3 rfl; try simp only [List.nil_append, List.cons_append, List.eraseIdx_cons_succ, List.eraseIdx_cons_zero] at hs
  refine JoinC_in ?_
  refine Do_y hs (Yd.fld) ?_
  refine Do_y hs (Yd.bx (by repeat (first | assumption | exact List.Mem.head _ | exact List.mem_append_left _ (by assumption) | apply List.Mem.tail))) ?_
  refine Do_y hs (Yd.eq _ _ _ _ _ _) ?_
  refine Cond_dec (fun h7 => ?_) (fun h7 => ?_)
  · have hpe : ∀ x, hP who n x = decide (x.about = ⟨who, n.Pack, n.Nonce⟩) := fun x => if_pos h7
    refine Do_y hs (Yd.mkf _ _ _) ?_
    refine close_ok (hP who n) hs (by omega) (fun L' x w hL hs => ?_) (fun hno w hs => ?_) (fun i x sv' w hx hp hb hs => ?_)
    · rw [hpe]
      exact handle1_ok x (hL _ (by simp)) (hL _ (by simp)) hs
    · have hm : handleM who n lf way qs = (0, qs) := by unfold handleM; rw [closeM_none _ _ hno]
      rw [hm] at hk
      refine Do_y hs (Yd.ext _ _ _) ?_
      refine Do_y hs (Yd.ext _ _ _) ?_
      refine st_new hs fun b7 w hs => ?_
      skip
      refine st_ty (y := zaudit_question) hs .here (fun w hs => ?_)
      refine JoinC_in ?_
      refine Do_y hs (Yd.not _) ?_
      refine Cond_true ?_
      exact hk sv _ (hs.drop.sub (by repeat (first | exact List.nil_sublist _ | exact List.Sublist.refl _ | exact List.sublist_append_left _ _ | apply List.Sublist.cons_cons | apply List.Sublist.cons)))
    · have hm : handleM who n lf way qs = (hR n lf way x, qs.eraseIdx i) := by unfold handleM; rw [closeM_some _ _ i x hx hp hb]
      rw [hm] at hk
      have hr : hR n lf way x = (bif decide (n.N = x.leaf.toNat) && checkP x.about.pack x.leaves.toNat x.leaf.toNat lf way then 1 else 2) := if_pos h7
      obtain ⟨hq1, hq2, hq3⟩ := hok x (List.mem_of_getElem? hx)
      obtain ⟨leaf, hleaf⟩ : ∃ k : Nat, x.leaf = k := ⟨x.leaf.toNat, by omega⟩
      obtain ⟨leaves, hleaves⟩ : ∃ k : Nat, x.leaves = k := ⟨x.leaves.toNat, by omega⟩
      refine Do_y hs (Yd.ext _ _ _) ?_
      refine Do_y hs (Yd.ext _ _ _) ?_
      refine st_new hs fun b7 w hs => ?_
      skip
      refine st_ty (y := x) hs .here (fun w hs => ?_)
      refine JoinC_in ?_
      refine Do_y hs (Yd.not _) ?_
      refine Cond_false ?_
      refine Do_y hs (Yd.fld) ?_
      refine Do_y hs (Yd.fl (Gd.bE (by repeat (first | assumption | exact List.Mem.head _ | exact List.mem_append_left _ (by assumption) | apply List.Mem.tail)))) ?_
      refine Do_y hs (Yd.fld) ?_
      refine Do_y hs (Yd.fl (Gd.bE (by repeat (first | assumption | exact List.Mem.head _ | exact List.mem_append_left _ (by assumption) | apply List.Mem.tail)))) ?_
      refine Do_y hs (Yd.cIW _ _) ?_
      refine Do_y hs (Yd.eq _ _ _ _ _ _) ?_
      refine Join_in ?_
      refine Guard_dec (fun hn => ?_) (fun hn => ?_)
      · refine Do_y hs (Yd.fld) ?_
        refine Do_y hs (Yd.fld) ?_
        refine Do_y hs (Yd.fl (Gd.fl (Gd.bE (by repeat (first | assumption | exact List.Mem.head _ | exact List.mem_append_left _ (by assumption) | apply List.Mem.tail))))) ?_
        refine Do_y hs (Yd.fld) ?_
        refine Do_y hs (Yd.fl (Gd.bE (by repeat (first | assumption | exact List.Mem.head _ | exact List.mem_append_left _ (by assumption) | apply List.Mem.tail)))) ?_
        refine Do_y hs (Yd.fld) ?_
        refine Do_y hs (Yd.fl (Gd.bE (by repeat (first | assumption | exact List.Mem.head _ | exact List.mem_append_left _ (by assumption) | apply List.Mem.tail)))) ?_
        refine Do_y hs (Yd.fld) ?_
        refine Do_y hs (Yd.fl (Gd.bE (by repeat (first | assumption | exact List.Mem.head _ | exact List.mem_append_left _ (by assumption) | apply List.Mem.tail)))) ?_
        refine Do_y hs (Yd.fld) ?_
        refine Do_y hs (Yd.fl (Gd.bE (by repeat (first | assumption | exact List.Mem.head _ | exact List.mem_append_left _ (by assumption) | apply List.Mem.tail)))) ?_
        have hb : RowIn EY n.Bytes.1 lf L := RowIn.of hl
        rw [hleaves, hleaf]
        refine check_ok (e0 := e0) (root := x.about.pack) (n := leaves) (i := leaf) (lf := lf) (way := way) hs (by repeat (first | assumption | exact List.Mem.head _ | exact List.mem_append_left _ (by assumption) | apply List.Mem.tail)) (by repeat (first | assumption | exact List.Mem.head _ | exact List.mem_append_left _ (by assumption) | apply List.Mem.tail)) (by repeat (first | assumption | exact List.Mem.head _ | exact List.mem_append_left _ (by assumption) | apply List.Mem.tail)) h8 hlf (by omega) (by omega) hway fun w hs => ?_
        have hr2 : hR n lf way x = (bif checkP x.about.pack leaves leaf lf way then 1 else 2) := by
          rw [hr, hleaf, hleaves, decide_eq_true (show n.N = ((leaf : Int)).toNat by omega)]
          rfl
        rw [hr2] at hk
        cases hc : checkP x.about.pack leaves leaf lf way with
        | true =>
          rw [hc] at hk
          refine Do_y hs (Yd.eq _ _ _ _ _ _) ?_
          refine CallN_y hs (Yd.pickb _ _ _) ?_
          refine Cond_T (by simp; omega) ?_
          exact hk sv' _ (hs.drop.sub (by repeat (first | exact List.nil_sublist _ | exact List.Sublist.refl _ | exact List.sublist_append_left _ _ | apply List.Sublist.cons_cons | apply List.Sublist.cons)))
        | false =>
          rw [hc] at hk
          refine Do_y hs (Yd.eq _ _ _ _ _ _) ?_
          refine CallN_y hs (Yd.pickb _ _ _) ?_
          refine Cond_F (by simp) ?_
          exact ⟨rfl, hk sv' _ (hs.drop.sub (by repeat (first | exact List.nil_sublist _ | exact List.Sublist.refl _ | exact List.sublist_append_left _ _ | apply List.Sublist.cons_cons | apply List.Sublist.cons)))⟩
      · have hr2 : hR n lf way x = 2 := by
          rw [hr, decide_eq_false (fun h => hn (by omega))]
          rfl
        rw [hr2] at hk
        refine CallN_y hs (Yd.pick _ _ _) ?_
        refine Cond_bifF (decide_eq_false hn) ⟨rfl, ?_⟩
        exact hk sv' _ (hs.drop.sub (by repeat (first | exact List.nil_sublist _ | exact List.Sublist.refl _ | exact List.sublist_append_left _ _ | apply List.Sublist.cons_cons | apply List.Sublist.cons)))
  · refine Do_y hs (Yd.eq _ _ _ _ _ _) ?_
    refine Cond_dec (fun h3 => ?_) (fun h3 => ?_)
    · have hpe : ∀ x, hP who n x = decide (x.about.who = who ∧ x.about.pack = n.Pack) := fun x => (if_neg h7).trans (if_pos h3)
      refine Do_y hs (Yd.mkf _ _ _) ?_
      refine close_ok (hP who n) hs (by omega) (fun L' x w hL hs => ?_) (fun hno w hs => ?_) (fun i x sv' w hx hp hb hs => ?_)
      · rw [hpe]
        exact handle2_ok x (hL _ (by simp)) (hL _ (by simp)) hs
      · have hm : handleM who n lf way qs = (0, qs) := by unfold handleM; rw [closeM_none _ _ hno]
        rw [hm] at hk
        refine Do_y hs (Yd.ext _ _ _) ?_
        refine Do_y hs (Yd.ext _ _ _) ?_
        refine st_new hs fun b7 w hs => ?_
        skip
        refine st_ty (y := zaudit_question) hs .here (fun w hs => ?_)
        refine Cond_false ?_
        refine ⟨(rfl : @Eq (List Nat) _ _), ?_⟩
        exact hk sv _ (hs.drop.sub (by repeat (first | exact List.nil_sublist _ | exact List.Sublist.refl _ | exact List.sublist_append_left _ _ | apply List.Sublist.cons_cons | apply List.Sublist.cons)))
      · have hm : handleM who n lf way qs = (hR n lf way x, qs.eraseIdx i) := by unfold handleM; rw [closeM_some _ _ i x hx hp hb]
        have hr : hR n lf way x = 2 := if_neg h7
        rw [hm, hr] at hk
        refine Do_y hs (Yd.ext _ _ _) ?_
        refine Do_y hs (Yd.ext _ _ _) ?_
        refine st_new hs fun b7 w hs => ?_
        skip
        refine st_ty (y := x) hs .here (fun w hs => ?_)
        refine Cond_true ?_
        exact hk sv' _ (hs.drop.sub (by repeat (first | exact List.nil_sublist _ | exact List.Sublist.refl _ | exact List.sublist_append_left _ _ | apply List.Sublist.cons_cons | apply List.Sublist.cons)))
    · have hpe : ∀ x, hP who n x = false := fun x => (if_neg h7).trans (if_neg h3)
      have hm : handleM who n lf way qs = (0, qs) := by unfold handleM; rw [closeM_none _ _ fun x _ => hpe x]
      rw [hm] at hk
      refine ⟨(rfl : @Eq (List Nat) _ _), ?_⟩
      exact hk sv _ (hs.sub (by repeat (first | exact List.nil_sublist _ | exact List.Sublist.refl _ | exact List.sublist_append_left _ _ | apply List.Sublist.cons_cons | apply List.Sublist.cons)))
end Go.Px
end
section
set_option linter.unusedVariables false
set_option linter.unusedSimpArgs false
set_option linter.unusedVariables false
namespace Go.Px
open Go Go.Proofs
attribute [local irreducible] Do RdNow RdS RdNowN RdSN CallN Drew Draw Loop JoinC obj own rows at' old Item.r many fact
variable {P : Program} {L : List Item} {w : World} {α : Type}
theorem made1 (z : Value) (n : Nat) : (madeCells #[z] n).toList = List.replicate n z := by
  refine List.ext_getElem? fun i => ?_
  unfold madeCells
  rw [Array.toList_map, Array.toList_range, List.getElem?_map, List.getElem?_replicate]
  by_cases h : i < n
  · rw [List.getElem?_range h, if_pos h]
    simp [Nat.mod_one]
  · rw [List.getElem?_eq_none (by simp; omega), if_neg h]
    rfl
theorem rep_flat (f : α → List Value) (x : α) (z : Value) (h : f x = [z]) : ∀ n, (List.replicate n x).flatMap f = List.replicate n z
  | 0 => rfl
  | n + 1 => by rw [List.replicate_succ, List.flatMap_cons, h, rep_flat f x z h n]; rfl
theorem st_make {E : Enc α} {t e bytes n : Nat} {kl kc : IntKind} {K : Value → World → Prop} (x0 : α) (hs : St L w) (hk : ∀ v' w', St (own E e v' (List.replicate n x0) :: L) w' → K v' w')
    (hz : zeroT P e = some (E.val x0) := by kernel_rfl) (ht : grows P t E.k e bytes = true := by kernel_rfl) (h1 : E.k = 1 := by rfl) (hm : bytes * n ≤ 140737488355328 := by simp; omega) (hm2 : n ≤ 1000000000000 := by omega) :
    Do P (Instr.makeSlice t (.int kl n) (.int kc n)) K w := by
  obtain ⟨hu, i, z, hi, hsi, hby, hz', hzs⟩ := grows_spec ht
  have hzz : z = E.val x0 := by
    unfold zeroT at hz
    rw [hi] at hz
    simp only [Option.bind_some, hz', Option.some.injEq] at hz
    exact hz
  have hc : z.cells.toList = E.f x0 := by rw [hzz]; exact E.cells x0
  obtain ⟨c, hfc⟩ : ∃ c, E.f x0 = [c] := List.length_eq_one_iff.1 (by rw [E.len, h1])
  have hzc : z.cells = #[c] := by rw [← Array.toArray_toList (xs := z.cells), hc, hfc]
  have hr := run_make (P := P) w t e i z hu hi hz' kl kc n n (by omega) (Int.le_refl _) (by rw [hby]; have : ((bytes * n : Nat) : Int) = (bytes : Int) * (n : Int) := by simp
                                                                                            omega) (by omega)
  simp only [Int.toNat_natCast, hsi, h1, Nat.mul_one, hzc] at hr
  refine Do_ok hr (hk _ _ (hs.own1 (Ext.alloc _ _ _) ⟨?_, .inr ⟨w.heap.size, n, _, by rw [List.length_replicate], Nat.le_refl _, heap_alloc_new w _, by rw [List.length_replicate]; exact Nat.le_refl _, by simp only [maxLen]; omega, ?_, ?_⟩⟩))
  · rw [E.length]
  · rw [size_madeCells, h1, Nat.mul_one]
  · rw [made1, rep_flat E.f x0 c hfc, List.length_replicate]
    exact List.take_of_length_le (by rw [List.length_replicate, h1]; omega)
theorem Yd.remY (t : TypeId) (a b : Nat) (h : 0 < b := by first | omega | (dsimp only; omega)) : Yd P L (binOp .rem t (Y a) (Y b)) (Y (a % b)) := .of fun w => by
  rw [run_rem t .u8 a b (by omega), Int.tmod_eq_emod_of_nonneg (by omega)]
  rfl
theorem Join_mid {k : Env → World → Prop} {m : (Env → World → Prop) → Prop} (J : Env → World → Prop) (hk : ∀ e w, J e w → k e w) (h : ∀ k' : Env → World → Prop, (∀ e w, J e w → k' e w) → m k') : Join k m := h k hk
theorem env8 {e : Env} {a₁ a₂ a₃ a₄ a₅ a₆ a₇ a₈ : Nat} {x₁ x₂ x₃ x₄ x₅ x₆ x₇ x₈ : Value} (h1 : e a₁ = x₁) (h2 : e a₂ = x₂) (h3 : e a₃ = x₃) (h4 : e a₄ = x₄) (h5 : e a₅ = x₅) (h6 : e a₆ = x₆) (h7 : e a₇ = x₇) (h8 : e a₈ = x₈) : ∃ e', e = upd (upd (upd (upd (upd (upd (upd (upd e' a₁ x₁) a₂ x₂) a₃ x₃) a₄ x₄) a₅ x₅) a₆ x₆) a₇ x₇) a₈ x₈ := ⟨e, by rw [upd_self h1, upd_self h2, upd_self h3, upd_self h4, upd_self h5, upd_self h6, upd_self h7, upd_self h8]⟩
theorem env9 {e : Env} {a₁ a₂ a₃ a₄ a₅ a₆ a₇ a₈ a₉ : Nat} {x₁ x₂ x₃ x₄ x₅ x₆ x₇ x₈ x₉ : Value} (h1 : e a₁ = x₁) (h2 : e a₂ = x₂) (h3 : e a₃ = x₃) (h4 : e a₄ = x₄) (h5 : e a₅ = x₅) (h6 : e a₆ = x₆) (h7 : e a₇ = x₇) (h8 : e a₈ = x₈) (h9 : e a₉ = x₉) : ∃ e', e = upd (upd (upd (upd (upd (upd (upd (upd (upd e' a₁ x₁) a₂ x₂) a₃ x₃) a₄ x₄) a₅ x₅) a₆ x₆) a₇ x₇) a₈ x₈) a₉ x₉ := ⟨e, by rw [upd_self h1, upd_self h2, upd_self h3, upd_self h4, upd_self h5, upd_self h6, upd_self h7, upd_self h8, upd_self h9]⟩
theorem env10 {e : Env} {a₁ a₂ a₃ a₄ a₅ a₆ a₇ a₈ a₉ a₁₀ : Nat} {x₁ x₂ x₃ x₄ x₅ x₆ x₇ x₈ x₉ x₁₀ : Value} (h1 : e a₁ = x₁) (h2 : e a₂ = x₂) (h3 : e a₃ = x₃) (h4 : e a₄ = x₄) (h5 : e a₅ = x₅) (h6 : e a₆ = x₆) (h7 : e a₇ = x₇) (h8 : e a₈ = x₈) (h9 : e a₉ = x₉) (h10 : e a₁₀ = x₁₀) : ∃ e', e = upd (upd (upd (upd (upd (upd (upd (upd (upd (upd e' a₁ x₁) a₂ x₂) a₃ x₃) a₄ x₄) a₅ x₅) a₆ x₆) a₇ x₇) a₈ x₈) a₉ x₉) a₁₀ x₁₀ := ⟨e, by rw [upd_self h1, upd_self h2, upd_self h3, upd_self h4, upd_self h5, upd_self h6, upd_self h7, upd_self h8, upd_self h9, upd_self h10]⟩
theorem env11 {e : Env} {a₁ a₂ a₃ a₄ a₅ a₆ a₇ a₈ a₉ a₁₀ a₁₁ : Nat} {x₁ x₂ x₃ x₄ x₅ x₆ x₇ x₈ x₉ x₁₀ x₁₁ : Value} (h1 : e a₁ = x₁) (h2 : e a₂ = x₂) (h3 : e a₃ = x₃) (h4 : e a₄ = x₄) (h5 : e a₅ = x₅) (h6 : e a₆ = x₆) (h7 : e a₇ = x₇) (h8 : e a₈ = x₈) (h9 : e a₉ = x₉) (h10 : e a₁₀ = x₁₀) (h11 : e a₁₁ = x₁₁) : ∃ e', e = upd (upd (upd (upd (upd (upd (upd (upd (upd (upd (upd e' a₁ x₁) a₂ x₂) a₃ x₃) a₄ x₄) a₅ x₅) a₆ x₆) a₇ x₇) a₈ x₈) a₉ x₉) a₁₀ x₁₀) a₁₁ x₁₁ := ⟨e, by rw [upd_self h1, upd_self h2, upd_self h3, upd_self h4, upd_self h5, upd_self h6, upd_self h7, upd_self h8, upd_self h9, upd_self h10, upd_self h11]⟩
theorem env12 {e : Env} {a₁ a₂ a₃ a₄ a₅ a₆ a₇ a₈ a₉ a₁₀ a₁₁ a₁₂ : Nat} {x₁ x₂ x₃ x₄ x₅ x₆ x₇ x₈ x₉ x₁₀ x₁₁ x₁₂ : Value} (h1 : e a₁ = x₁) (h2 : e a₂ = x₂) (h3 : e a₃ = x₃) (h4 : e a₄ = x₄) (h5 : e a₅ = x₅) (h6 : e a₆ = x₆) (h7 : e a₇ = x₇) (h8 : e a₈ = x₈) (h9 : e a₉ = x₉) (h10 : e a₁₀ = x₁₀) (h11 : e a₁₁ = x₁₁) (h12 : e a₁₂ = x₁₂) : ∃ e', e = upd (upd (upd (upd (upd (upd (upd (upd (upd (upd (upd (upd e' a₁ x₁) a₂ x₂) a₃ x₃) a₄ x₄) a₅ x₅) a₆ x₆) a₇ x₇) a₈ x₈) a₉ x₉) a₁₀ x₁₀) a₁₁ x₁₁) a₁₂ x₁₂ := ⟨e, by rw [upd_self h1, upd_self h2, upd_self h3, upd_self h4, upd_self h5, upd_self h6, upd_self h7, upd_self h8, upd_self h9, upd_self h10, upd_self h11, upd_self h12]⟩
end Go.Px
end
section
set_option linter.unusedVariables false
set_option linter.unusedSimpArgs false
set_option linter.unusedVariables false
set_option maxRecDepth 20000
namespace Go.Px
open Go Go.Proofs
attribute [local irreducible] Do RdNow RdS RdNowN RdSN CallN Drew Draw Loop JoinC obj own rows at' old Item.r many fact
variable {K : Value → World → Prop} {L : List Item} {w : World}
def chS (k : Nat) (s : Nat × List Bool) (i : Int) : Nat × List Bool := if 0 ≤ i ∧ i < k ∧ s.2.getD i.toNat true = false then (s.1 + 1, s.2.set i.toNat true) else s
def chM (k : Nat) (xs : List Int) : Nat × List Bool := xs.foldl (chS k) (0, List.replicate k false)
def intN : Value → Nat
  | .int _ n => n.toNat
  | _ => 0
theorem chM_len (k : Nat) (xs : List Int) : (chM k xs).2.length = k ∧ (chM k xs).1 ≤ xs.length := by
  unfold chM
  suffices h : ∀ (xs : List Int) (s : Nat × List Bool), (xs.foldl (chS k) s).2.length = s.2.length ∧ (xs.foldl (chS k) s).1 ≤ s.1 + xs.length by
    have := h xs (0, List.replicate k false)
    rw [List.length_replicate] at this
    exact ⟨this.1, by omega⟩
  intro xs
  induction xs with
  | nil => intro s; exact ⟨rfl, Nat.le_refl _⟩
  | cons x xs ih =>
    intro s
    rw [List.foldl_cons]
    have h1 := ih (chS k s x)
    have h2 : (chS k s x).2.length = s.2.length ∧ (chS k s x).1 ≤ s.1 + 1 := by
      unfold chS
      split
      · simp
      · exact ⟨rfl, by omega⟩
    rw [List.length_cons]
    exact ⟨by omega, by omega⟩
theorem chM_take (k : Nat) (xs : List Int) (j : Nat) (x : Int) (h : xs[j]? = some x) : chM k (xs.take (j + 1)) = chS k (chM k (xs.take j)) x := by
  unfold chM
  have hj := (List.getElem?_eq_some_iff.1 h).1
  rw [List.take_succ_eq_append_getElem hj, List.foldl_append, (List.getElem?_eq_some_iff.1 h).2]
  rfl
theorem Guard_U {b : Bool} {x y : Prop} (h : b = false) (h1 : y) : Guard (.bool b) true x y := by subst h; exact h1
theorem chance_ok {v : Value} {k : Nat} {xs : List Int} (hs : St L w) (hx : rows EI v xs ∈ L) (hn : xs.length ≤ 1000000000) (hk0 : k ≤ 65536)
    (hk : ∀ w, St L w → K (.tuple #[I (chM k xs).1, I k]) w) :
    CallN Tryd.prog (callS (fnv 28) #[I k, v]) K w := by
  refine CallN_fn (args := [I k, v]) (by kernel_rfl) (F28_calls ?_)
  unfold F28
  refine CallN_y hs (Yd.max _ _ _ _ _ _) ?_
  refine CallN_y hs (Yd.min _ _ _ _ _ _) ?_
  have e1 : min (max (k : Int) 0) 65536 = ((k : Nat) : Int) := by omega
  rw [e1]
  refine st_make (E := EB) (e := 4) (bytes := 1) false hs fun v14 w hs => ?_
  refine JoinC_in ?_
  refine CallN_y hs (Yd.len (RowIn.of (by repeat (first | assumption | exact List.Mem.head _ | exact List.mem_append_left _ (by assumption) | apply List.Mem.tail)))) ?_
  refine Loop_in (fun e w => ∃ (j : Nat), j ≤ xs.length ∧ e 7 = I (chM k (xs.take j)).1 ∧ e 17 = I j ∧ e 15 = v ∧ e 16 = I xs.length ∧ e 6 = v14 ∧ e 0 = I k ∧ St (own EB 4 v14 (chM k (xs.take j)).2 :: L) w)
    (fun e w => xs.length - intN (e 17)) ⟨0, Nat.zero_le _, rfl, rfl, rfl, rfl, rfl, rfl, hs⟩ ?_
  rintro e w ⟨j, hj, e7, e17, e15, e16, e6, e0, hs⟩
  obtain ⟨e, rfl⟩ := env6 e7 e17 e15 e16 e6 e0
  refine Do_y hs (Yd.lss _ _ _ _) ?_
  refine JoinC_in ?_
  refine Cond_dec (fun h => ?_) (fun h => ?_)
  · obtain ⟨x, hxj⟩ : ∃ x, xs[j]? = some x := ⟨xs[j]'(by omega), List.getElem?_eq_getElem (by omega)⟩
    have hst := chM_take k xs j x hxj
    have hle := chM_len k (xs.take j)
    rw [List.length_take] at hle
    refine ⟨(rfl : @Eq (List Nat) _ _), ?_⟩
    unfold F28_p2
    refine JoinC_in ?_
    refine Do_idx' hs (RowIn.of (by repeat (first | assumption | exact List.Mem.head _ | exact List.mem_append_left _ (by assumption) | apply List.Mem.tail))) j x hxj fun b o g => ?_
    refine Do_y hs (Yd.ty (by assumption)) ?_
    refine Do_y hs (Yd.geq _ _ _ _) ?_
    refine Join_in ?_
    by_cases h0 : 0 ≤ x
    · obtain ⟨i, rfl⟩ : ∃ i : Nat, x = i := ⟨x.toNat, by omega⟩
      rw [decide_eq_true h0]
      refine Guard_t ?_
      refine Do_y hs (Yd.lss _ _ _ _) ?_
      by_cases hik : (i : Int) < k
      · rw [decide_eq_true hik]
        obtain ⟨b, hb⟩ : ∃ b, (chM k (xs.take j)).2[i]? = some b := ⟨(chM k (xs.take j)).2[i]'(by omega), List.getElem?_eq_getElem (by omega)⟩
        have hgd : (chM k (xs.take j)).2.getD i true = b := by rw [List.getD_eq_getElem?_getD, hb]; rfl
        unfold F28_p1
        refine CallN_y hs (Yd.pickb _ _ _) ?_
        refine Join_in ?_
        refine Guard_t ?_
        show Do _ _ _ _
        skip
        refine Do_idx' hs (RowIn.own (e := 4) (by repeat (first | assumption | exact List.Mem.head _ | exact List.mem_append_left _ (by assumption) | apply List.Mem.tail))) i b hb fun b2 o2 g2 => ?_
        refine Do_y hs (Yd.ty (by assumption)) ?_
        refine Do_y hs (Yd.not _) ?_
        refine CallN_y hs (Yd.pickb _ _ _) ?_
        refine Cond_not ?_
        cases b with
        | false =>
          have hs2 : chS k (chM k (xs.take j)) (i : Int) = ((chM k (xs.take j)).1 + 1, (chM k (xs.take j)).2.set i true) := by
            unfold chS
            rw [if_pos ⟨h0, hik, hgd⟩]
            rfl
          rw [hs2] at hst
          refine Cond_false ?_
          show Do _ _ _ _
          skip
          refine st_elem (k := .i64) (i := (i : Int)) hs i true (fun q w hs => ?_)
          refine Do_y hs (Yd.add _ _ _) ?_
          refine ⟨(rfl : @Eq (List Nat) _ _), ?_⟩
          refine Do_y hs (Yd.add _ _ _) ?_
          refine ⟨(rfl : @Eq (List Nat) _ _), ?_⟩
          refine ⟨⟨j + 1, by omega, by rw [hst]; rfl, rfl, rfl, rfl, rfl, rfl, by rw [hst]; exact hs⟩, ?_⟩
          show xs.length - (j + 1) < xs.length - j
          omega
        | true =>
          have hs2 : chS k (chM k (xs.take j)) (i : Int) = chM k (xs.take j) := by unfold chS; rw [if_neg (fun h => by have := h.2.2; rw [show ((i : Int)).toNat = i from rfl, hgd] at this; exact absurd this (by decide))]
          rw [hs2] at hst
          refine Cond_true ?_
          refine ⟨(rfl : @Eq (List Nat) _ _), ?_⟩
          refine Do_y hs (Yd.add _ _ _) ?_
          refine ⟨(rfl : @Eq (List Nat) _ _), ?_⟩
          refine ⟨⟨j + 1, by omega, by rw [hst]; rfl, rfl, rfl, rfl, rfl, rfl, by rw [hst]; exact hs⟩, ?_⟩
          show xs.length - (j + 1) < xs.length - j
          omega
      · rw [decide_eq_false hik]
        have hs2 : chS k (chM k (xs.take j)) (i : Int) = chM k (xs.take j) := by unfold chS; rw [if_neg (fun h => hik h.2.1)]
        rw [hs2] at hst
        unfold F28_p1
        refine CallN_y hs (Yd.pickb _ _ _) ?_
        refine Join_in ?_
        refine Guard_U (by rfl) ?_
        refine CallN_y hs (Yd.pick _ _ _) ?_
        refine Cond_false ?_
        refine ⟨(rfl : @Eq (List Nat) _ _), ?_⟩
        refine Do_y hs (Yd.add _ _ _) ?_
        refine ⟨(rfl : @Eq (List Nat) _ _), ?_⟩
        refine ⟨⟨j + 1, by omega, by rw [hst]; rfl, rfl, rfl, rfl, rfl, rfl, by rw [hst]; exact hs⟩, ?_⟩
        show xs.length - (j + 1) < xs.length - j
        omega
    · rw [decide_eq_false h0]
      have hs2 : chS k (chM k (xs.take j)) x = chM k (xs.take j) := by unfold chS; rw [if_neg (fun h => h0 h.1)]
      rw [hs2] at hst
      unfold F28_p1
      refine CallN_y hs (Yd.pick false _ _) ?_
      refine Join_in ?_
      refine Guard_U (b := false) (by rfl) ?_
      refine CallN_y hs (Yd.pick false _ _) ?_
      refine Cond_false ?_
      refine ⟨(rfl : @Eq (List Nat) _ _), ?_⟩
      refine Do_y hs (Yd.add _ _ _) ?_
      refine ⟨(rfl : @Eq (List Nat) _ _), ?_⟩
      refine ⟨⟨j + 1, by omega, by rw [hst]; rfl, rfl, rfl, rfl, rfl, rfl, by rw [hst]; exact hs⟩, ?_⟩
      show xs.length - (j + 1) < xs.length - j
      omega
  · have hj2 : j = xs.length := by omega
    subst hj2
    rw [List.take_length] at *
    refine ⟨(rfl : @Eq (List Nat) _ _), ?_⟩
    exact hk _ hs.drop
end Go.Px
end
section
set_option linter.unusedVariables false
set_option linter.unusedSimpArgs false
set_option linter.unusedVariables false
set_option maxRecDepth 20000
namespace Go.Px
open Go Go.Proofs
attribute [local irreducible] Do RdNow RdS RdNowN RdSN CallN Drew Draw Loop JoinC obj own rows at' old Item.r many fact
variable {K : Value → World → Prop} {L : List Item} {w : World}
def awT1 : audit_Target := ⟨1, id0, 3⟩
def awT2 : audit_Target := ⟨2, id0, 3⟩
theorem aw_filter : [awT1, awT2].filter okT = [awT1, awT2] := by decide
theorem awake_ok {e0 : TypeId} (hs : St L w) (hG : G0 e0 ∈ L) (hk : ∀ w, St L w → K (.bool true) w) :
    CallN Tryd.prog (callS (fnv 8) #[]) K w := by
  refine CallN_fn (args := []) (by kernel_rfl) (F8_calls ?_)
  unfold F8
  refine new_ok hs fun a w hs => ?_
  refine Do_y hs (Yd.build (x := awT1) (.cons (1 : Int) rfl (.cons (3 : Int) rfl .nil))) ?_
  refine Do_y hs (Yd.build (x := awT2) (.cons (2 : Int) rfl (.cons (3 : Int) rfl .nil))) ?_
  refine st_rowL (E := ET) (e := 37) (bytes := 48) [awT1, awT2] hs fun v13 w hs _ => ?_
  have hs := hs.fix .here
  have hs := hs.pull 0 rfl; have hs := hs.pull 2 rfl; have hs := hs.pull 2 rfl; try simp only [List.nil_append, List.cons_append, List.eraseIdx_cons_succ, List.eraseIdx_cons_zero] at hs
  refine draw_ok (ts := [awT1, awT2]) (lot := 5) (now := 0) hs (by repeat (first | assumption | exact List.Mem.head _ | exact List.mem_append_left _ (by assumption) | apply List.Mem.tail)) (by decide) (by decide) (by decide) (by decide) (fun h => absurd h (by decide)) fun t sv' w ht hs => ?_
  rw [aw_filter] at ht hs ⊢
  obtain rfl : awT2 = t := by simpa using ht
  rw [show 5 / [awT1, awT2].length % awT2.Leaves.toNat = 2 from rfl, show (0 : Nat) + 1 = 1 from rfl] at *
  refine Do_y hs (Yd.ext _ _ _) ?_
  refine Do_y hs (Yd.ext _ _ _) ?_
  refine Do_y hs (Yd.ext _ _ _) ?_
  refine st_new hs fun b3 w hs => ?_
  refine st_ty (y := askN awT2 1 2) hs .here (fun w hs => ?_)
  skip
  refine Do_y hs (Yd.build (x := (⟨3, id0, 0, 0, sv0, sv0⟩ : notes_Note)) (.cons (3 : Int) rfl .nil)) ?_
  have hs := (hs.nil (E := EY) (e := T8)).fix .here
  have hs := (hs.nil (E := EId) (e := 28)).fix .here
  have hs := hs.pull 5 rfl; have hs := hs.pull 3 rfl; have hs := hs.pull 3 rfl; have hs := hs.pull 3 rfl; have hs := hs.pull 5 rfl; have hs := hs.pull 5 rfl; try simp only [List.nil_append, List.cons_append, List.eraseIdx_cons_succ, List.eraseIdx_cons_zero] at hs
  refine handle_ok (e0 := e0) (who := 2) (lf := []) (way := []) hs (by repeat (first | assumption | exact List.Mem.head _ | exact List.mem_append_left _ (by assumption) | apply List.Mem.tail)) (by repeat (first | assumption | exact List.Mem.head _ | exact List.mem_append_left _ (by assumption) | apply List.Mem.tail)) (by repeat (first | assumption | exact List.Mem.head _ | exact List.mem_append_left _ (by assumption) | apply List.Mem.tail)) .nil (by decide) (by decide) (by simp) (fun q hq => ?_) fun sv2 w hs => ?_
  · obtain rfl : q = asked awT2 1 2 0 := by simpa using hq
    exact ⟨by decide, by decide, by decide⟩
  have hm : handleM 2 (⟨3, id0, 0, 0, sv0, sv0⟩ : notes_Note) [] [] [asked awT2 1 2 0] = (2, []) := by rfl
  rw [hm] at hs ⊢
  refine st_rowL (E := EI) (e := 3) (bytes := 8) [1, 1, 9, 3] hs fun v22 w hs _ => ?_
  have hs := hs.fix .here
  refine chance_ok (k := 4) (xs := [1, 1, 9, 3]) hs (by repeat (first | assumption | exact List.Mem.head _ | exact List.mem_append_left _ (by assumption) | apply List.Mem.tail)) (by decide) (by decide) fun w hs => ?_
  have hch : (chM 4 [1, 1, 9, 3]).1 = 2 := by decide
  rw [hch]
  refine Do_y hs (Yd.ext _ _ _) ?_
  refine Do_y hs (Yd.ext _ _ _) ?_
  refine Do_y hs (Yd.eq _ _ _ _ _ _) ?_
  refine Join_in ?_
  refine Guard_t ?_
  refine Do_y hs (Yd.fld) ?_
  refine Do_y hs (Yd.bx (by repeat (first | assumption | exact List.Mem.head _ | exact List.mem_append_left _ (by assumption) | apply List.Mem.tail))) ?_
  refine Do_y hs (Yd.eq _ _ _ _ _ _) ?_
  refine CallN_y hs (Yd.pickb _ _ _) ?_
  refine Join_in ?_
  refine Guard_t ?_
  refine Do_y hs (Yd.fld) ?_
  refine Do_y hs (Yd.bx (by repeat (first | assumption | exact List.Mem.head _ | exact List.mem_append_left _ (by assumption) | apply List.Mem.tail))) ?_
  refine Do_y hs (Yd.eq _ _ _ _ _ _) ?_
  unfold F8_p3
  refine CallN_y hs (Yd.pickb _ _ _) ?_
  refine Join_in ?_
  refine Guard_t ?_
  refine Do_y hs (Yd.fld) ?_
  refine Do_y hs (Yd.bx (by repeat (first | assumption | exact List.Mem.head _ | exact List.mem_append_left _ (by assumption) | apply List.Mem.tail))) ?_
  refine Do_y hs (Yd.eq _ _ _ _ _ _) ?_
  refine CallN_y hs (Yd.pickb _ _ _) ?_
  refine Join_in ?_
  refine Guard_t ?_
  unfold F8_p2
  refine CallN_y hs (Yd.pickb _ _ _) ?_
  refine Join_in ?_
  refine Guard_t ?_
  refine Do_y hs (Yd.eq _ _ _ _ _ _) ?_
  refine CallN_y hs (Yd.pickb _ _ _) ?_
  refine Join_in ?_
  refine Guard_t ?_
  refine open_ok (d := 1) (sv := sv2) (qs := []) hs (by repeat (first | assumption | exact List.Mem.head _ | exact List.mem_append_left _ (by assumption) | apply List.Mem.tail)) (by repeat (first | assumption | exact List.Mem.head _ | exact List.mem_append_left _ (by assumption) | apply List.Mem.tail)) ?_
  refine Do_y hs (Yd.eq _ _ _ _ _ _) ?_
  unfold F8_p1
  refine CallN_y hs (Yd.pickb _ _ _) ?_
  refine Join_in ?_
  refine Guard_t ?_
  refine Do_y hs (Yd.eq _ _ _ _ _ _) ?_
  refine CallN_y hs (Yd.pickb _ _ _) ?_
  refine Join_in ?_
  refine Guard_t ?_
  refine Do_y hs (Yd.eq _ _ _ _ _ _) ?_
  refine CallN_y hs (Yd.pickb _ _ _) ?_
  refine CallN_y hs (Yd.pickb _ _ _) ?_
  exact hk _ (hs.drop.drop.drop.sub (by repeat (first | exact List.nil_sublist _ | exact List.Sublist.refl _ | exact List.sublist_append_left _ _ | apply List.Sublist.cons_cons | apply List.Sublist.cons)))
end Go.Px
end
section
set_option linter.unusedVariables false
set_option linter.unusedSimpArgs false
namespace Go.Proofs
open Go.Shelf
def Tryd.lays128_ren : Go.Shelf.Ren := ⟨fun | 128 => 88 | n => n, fun | 51 => 110 | 3 => 3 | 4 => 4 | 46 => 143 | 5 => 5 | 9 => 9 | n => n, fun | n => n⟩
theorem Tryd.lays128 : Go.Proofs.Lays.n128 Tryd.prog Tryd.lays128_ren := {
  mixed := by kernel_rfl
  f128 := Tryd.func88.trans (congrArg some (by kernel_rfl))
  t3 := Tryd.underlying3
  a3 := Tryd.isAgg3
  z3 := Tryd.sizeOf3
  v3 := Tryd.zeroValue3
  t4 := Tryd.underlying4
  a4 := Tryd.isAgg4
  z4 := Tryd.sizeOf4
  v4 := Tryd.zeroValue4
  t5 := Tryd.underlying5
  a5 := Tryd.isAgg5
  z5 := Tryd.sizeOf5
  v5 := Tryd.zeroValue5
  t9 := Tryd.underlying9
  a9 := Tryd.isAgg9
  z9 := Tryd.sizeOf9
  v9 := Tryd.zeroValue9
  t46 := Tryd.underlying143
  a46 := Tryd.isAgg143
  z46 := Tryd.sizeOf143
  v46 := Tryd.zeroValue143
  t51 := Tryd.underlying110
  a51 := Tryd.isAgg110
  z51 := Tryd.sizeOf110
  v51 := Tryd.zeroValue110 }
/-- bits.Len32: "Len32 returns the minimum number of bits required to represent x; the result is 0 for x == 0.": IT RETURNS 'Lib.bitLen x'; the world is as it was. ('h0', 'h1': x is a uint32.) (LAID: no walk: one application.) -/
theorem Tryd.bits_Len32 (x : Int) (w : World) (h0 : 0 ≤ x) (h1 : x ≤ 4294967295) :
    Calls Tryd.prog 88 #[.int .u32 x] w fun e w' => e = .returned (.int .i64 (Lib.bitLen x.toNat)) ∧ w' = w := Any.bits_Len32 Tryd.lays128 x w h0 h1
def Tryd.lays125_ren : Go.Shelf.Ren := ⟨fun | 125 => 71 | 128 => 88 | 129 => 89 | n => n, fun | 46 => 143 | 3 => 3 | 51 => 110 | 53 => 23 | 4 => 4 | 5 => 5 | 9 => 9 | n => n, fun | n => n⟩
theorem Tryd.lays125 : Go.Proofs.Lays.n125 Tryd.prog Tryd.lays125_ren := {
  mixed := by kernel_rfl
  f125 := Tryd.func71.trans (congrArg some (by kernel_rfl))
  f128 := Tryd.func88.trans (congrArg some (by kernel_rfl))
  f129 := Tryd.func89.trans (congrArg some (by kernel_rfl))
  t3 := Tryd.underlying3
  a3 := Tryd.isAgg3
  z3 := Tryd.sizeOf3
  v3 := Tryd.zeroValue3
  t4 := Tryd.underlying4
  a4 := Tryd.isAgg4
  z4 := Tryd.sizeOf4
  v4 := Tryd.zeroValue4
  t5 := Tryd.underlying5
  a5 := Tryd.isAgg5
  z5 := Tryd.sizeOf5
  v5 := Tryd.zeroValue5
  t9 := Tryd.underlying9
  a9 := Tryd.isAgg9
  z9 := Tryd.sizeOf9
  v9 := Tryd.zeroValue9
  t46 := Tryd.underlying143
  a46 := Tryd.isAgg143
  z46 := Tryd.sizeOf143
  v46 := Tryd.zeroValue143
  t51 := Tryd.underlying110
  a51 := Tryd.isAgg110
  z51 := Tryd.sizeOf110
  v51 := Tryd.zeroValue110
  t53 := Tryd.underlying23
  a53 := Tryd.isAgg23
  z53 := Tryd.sizeOf23
  v53 := Tryd.zeroValue23 }
/-- bits.Len: "Len returns the minimum number of bits required to represent x; the result is 0 for x == 0.": IT RETURNS 'Lib.bitLen x'; the world is as it was. (A uint has 64 bits in the model.) ITS CALLEE bits.Len64 IS MET BY ITS OWN CONTRACT OFF THE SHELF (lay that first). (LAID: no walk: one application.) -/
theorem Tryd.bits_Len (x : Int) (w : World) (h0 : 0 ≤ x) (h1 : x ≤ 18446744073709551615) :
    Calls Tryd.prog 71 #[.int .u64 x] w fun e w' => e = .returned (.int .i64 (Lib.bitLen x.toNat)) ∧ w' = w := Any.bits_Len Tryd.lays125 x w h0 h1
def Tryd.lays215_ren : Go.Shelf.Ren := ⟨fun | 215 => 97 | n => n, fun | 3 => 3 | 4 => 4 | n => n, fun | n => n⟩
theorem Tryd.lays215 : Go.Proofs.Lays.n215 Tryd.prog Tryd.lays215_ren := {
  mixed := by kernel_rfl
  f215 := Tryd.func97.trans (congrArg some (by kernel_rfl))
  t3 := Tryd.underlying3
  a3 := Tryd.isAgg3
  z3 := Tryd.sizeOf3
  v3 := Tryd.zeroValue3
  t4 := Tryd.underlying4
  a4 := Tryd.isAgg4
  z4 := Tryd.sizeOf4
  v4 := Tryd.zeroValue4 }
open Go.RowKit in
/-- cmp.isNaN at int: 'x != x': false. (LAID: no walk: one application.) -/
theorem Tryd.cmp_isNaN_int (x : Int) (w : World) :
    Calls Tryd.prog 97 #[.int .i64 x] w fun e w' => e = .returned (.bool false) ∧ w' = w := Any.cmp_isNaN_int Tryd.lays215 x w
def Tryd.lays129_ren : Go.Shelf.Ren := ⟨fun | 129 => 89 | n => n, fun | 53 => 23 | 3 => 3 | 4 => 4 | 46 => 143 | 5 => 5 | 9 => 9 | n => n, fun | n => n⟩
theorem Tryd.lays129 : Go.Proofs.Lays.n129 Tryd.prog Tryd.lays129_ren := {
  mixed := by kernel_rfl
  f129 := Tryd.func89.trans (congrArg some (by kernel_rfl))
  t3 := Tryd.underlying3
  a3 := Tryd.isAgg3
  z3 := Tryd.sizeOf3
  v3 := Tryd.zeroValue3
  t4 := Tryd.underlying4
  a4 := Tryd.isAgg4
  z4 := Tryd.sizeOf4
  v4 := Tryd.zeroValue4
  t5 := Tryd.underlying5
  a5 := Tryd.isAgg5
  z5 := Tryd.sizeOf5
  v5 := Tryd.zeroValue5
  t9 := Tryd.underlying9
  a9 := Tryd.isAgg9
  z9 := Tryd.sizeOf9
  v9 := Tryd.zeroValue9
  t46 := Tryd.underlying143
  a46 := Tryd.isAgg143
  z46 := Tryd.sizeOf143
  v46 := Tryd.zeroValue143
  t53 := Tryd.underlying23
  a53 := Tryd.isAgg23
  z53 := Tryd.sizeOf23
  v53 := Tryd.zeroValue23 }
/-- bits.Len64: "Len64 returns the minimum number of bits required to represent x; the result is 0 for x == 0.": IT RETURNS 'Lib.bitLen x'; the world is as it was. ('h0', 'h1': x is a uint64.) (LAID: no walk: one application.) -/
theorem Tryd.bits_Len64 (x : Int) (w : World) (h0 : 0 ≤ x) (h1 : x ≤ 18446744073709551615) :
    Calls Tryd.prog 89 #[.int .u64 x] w fun e w' => e = .returned (.int .i64 (Lib.bitLen x.toNat)) ∧ w' = w := Any.bits_Len64 Tryd.lays129 x w h0 h1
def Tryd.lays189_ren : Go.Shelf.Ren := ⟨fun | 189 => 53 | 125 => 71 | 257 => 70 | 128 => 88 | 129 => 89 | 294 => 79 | 295 => 80 | 296 => 81 | 297 => 82 | 298 => 83 | 299 => 84 | 216 => 85 | 300 => 86 | 301 => 87 | 328 => 92 | 329 => 93 | 330 => 94 | 331 => 95 | 332 => 96 | 215 => 97 | 343 => 99 | n => n, fun | 28 => 65 | 3 => 3 | 46 => 143 | 0 => 0 | 51 => 110 | 53 => 23 | 4 => 4 | 183 => 155 | 182 => 154 | 131 => 160 | 5 => 5 | 9 => 9 | 218 => 166 | 222 => 170 | 228 => 173 | 229 => 81 | n => n, fun | n => n⟩
theorem Tryd.lays189 : Go.Proofs.Lays.n189 Tryd.prog Tryd.lays189_ren := {
  mixed := by kernel_rfl
  f125 := Tryd.func71.trans (congrArg some (by kernel_rfl))
  f128 := Tryd.func88.trans (congrArg some (by kernel_rfl))
  f129 := Tryd.func89.trans (congrArg some (by kernel_rfl))
  f189 := Tryd.func53.trans (congrArg some (by kernel_rfl))
  f215 := Tryd.func97.trans (congrArg some (by kernel_rfl))
  f216 := Tryd.func85.trans (congrArg some (by kernel_rfl))
  f257 := Tryd.func70.trans (congrArg some (by kernel_rfl))
  f294 := Tryd.func79.trans (congrArg some (by kernel_rfl))
  f295 := Tryd.func80.trans (congrArg some (by kernel_rfl))
  f296 := Tryd.func81.trans (congrArg some (by kernel_rfl))
  f297 := Tryd.func82.trans (congrArg some (by kernel_rfl))
  f298 := Tryd.func83.trans (congrArg some (by kernel_rfl))
  f299 := Tryd.func84.trans (congrArg some (by kernel_rfl))
  f300 := Tryd.func86.trans (congrArg some (by kernel_rfl))
  f301 := Tryd.func87.trans (congrArg some (by kernel_rfl))
  f328 := Tryd.func92.trans (congrArg some (by kernel_rfl))
  f329 := Tryd.func93.trans (congrArg some (by kernel_rfl))
  f330 := Tryd.func94.trans (congrArg some (by kernel_rfl))
  f331 := Tryd.func95.trans (congrArg some (by kernel_rfl))
  f332 := Tryd.func96.trans (congrArg some (by kernel_rfl))
  f343 := Tryd.func99.trans (congrArg some (by kernel_rfl))
  t0 := Tryd.underlying0
  a0 := Tryd.isAgg0
  z0 := Tryd.sizeOf0
  v0 := Tryd.zeroValue0
  t3 := Tryd.underlying3
  a3 := Tryd.isAgg3
  z3 := Tryd.sizeOf3
  v3 := Tryd.zeroValue3
  t4 := Tryd.underlying4
  a4 := Tryd.isAgg4
  z4 := Tryd.sizeOf4
  v4 := Tryd.zeroValue4
  t5 := Tryd.underlying5
  a5 := Tryd.isAgg5
  z5 := Tryd.sizeOf5
  v5 := Tryd.zeroValue5
  t9 := Tryd.underlying9
  a9 := Tryd.isAgg9
  z9 := Tryd.sizeOf9
  v9 := Tryd.zeroValue9
  t28 := Tryd.underlying65
  a28 := Tryd.isAgg65
  z28 := Tryd.sizeOf65
  v28 := Tryd.zeroValue65
  t46 := Tryd.underlying143
  a46 := Tryd.isAgg143
  z46 := Tryd.sizeOf143
  v46 := Tryd.zeroValue143
  t51 := Tryd.underlying110
  a51 := Tryd.isAgg110
  z51 := Tryd.sizeOf110
  v51 := Tryd.zeroValue110
  t53 := Tryd.underlying23
  a53 := Tryd.isAgg23
  z53 := Tryd.sizeOf23
  v53 := Tryd.zeroValue23
  t131 := Tryd.underlying160
  a131 := Tryd.isAgg160
  z131 := Tryd.sizeOf160
  v131 := Tryd.zeroValue160
  t182 := Tryd.underlying154
  a182 := Tryd.isAgg154
  z182 := Tryd.sizeOf154
  v182 := Tryd.zeroValue154
  t183 := Tryd.underlying155
  a183 := Tryd.isAgg155
  z183 := Tryd.sizeOf155
  v183 := Tryd.zeroValue155
  t218 := Tryd.underlying166
  a218 := Tryd.isAgg166
  z218 := Tryd.sizeOf166
  v218 := Tryd.zeroValue166
  t222 := Tryd.underlying170
  a222 := Tryd.isAgg170
  z222 := Tryd.sizeOf170
  v222 := Tryd.zeroValue170
  t228 := Tryd.underlying173
  a228 := Tryd.isAgg173
  z228 := Tryd.sizeOf173
  v228 := Tryd.zeroValue173
  t229 := Tryd.underlying81
  a229 := Tryd.isAgg81
  z229 := Tryd.sizeOf81
  v229 := Tryd.zeroValue81 }
open Go.Sort Go.RowKit in
theorem Tryd.slices_Sort_int (blk off cap : Nat) (zs : List Int) (w : World) (hH : Holds (Value.int .i64) w blk off zs.toArray) (hblk : blk < w.heap.size) (hsz : zs.length < 4611686018427387904) :
    Calls Tryd.prog 53 #[.slice (some ⟨blk, off, none⟩) zs.length cap] w fun e w' =>
      e = .returned (.tuple #[]) ∧ ∃ n os, w' = grow (putRow (Value.int .i64) (Sort.ahead w n) blk off (zs.mergeSort fun x y => decide (x ≤ y)).toArray) os := Any.slices_Sort_int Tryd.lays189 blk off cap zs w hH hblk hsz
def Tryd.laysNm237_ren : Go.Shelf.Ren := ⟨fun | 37 => 97 | n => n, fun | 3 => 3 | 4 => 4 | n => n, fun | n => n⟩
theorem Tryd.laysNm237 : Go.Proofs.Lays2.n37 Tryd.prog Tryd.laysNm237_ren := {
  mixed := by kernel_rfl
  f37 := Tryd.func97.trans (congrArg some (by kernel_rfl))
  t3 := Tryd.underlying3
  a3 := Tryd.isAgg3
  z3 := Tryd.sizeOf3
  v3 := Tryd.zeroValue3
  t4 := Tryd.underlying4
  a4 := Tryd.isAgg4
  z4 := Tryd.sizeOf4
  v4 := Tryd.zeroValue4 }
open Go.RowKit Go.Lib in
/-- cmp.isNaN[int]: 'x != x': false. (LAID: no walk: one application.) -/
theorem Tryd.cmp_isNaN_int2 (x : Int) (w : World) :
    Calls Tryd.prog 97 #[.int .i64 x] w fun e w' => e = .returned (.bool false) ∧ w' = w := Any.cmp_isNaN_int2 Tryd.laysNm237 x w
def Tryd.laysNm231_ren : Go.Shelf.Ren := ⟨fun | 31 => 85 | 37 => 97 | n => n, fun | 3 => 3 | 4 => 4 | n => n, fun | n => n⟩
theorem Tryd.laysNm231 : Go.Proofs.Lays2.n31 Tryd.prog Tryd.laysNm231_ren := {
  mixed := by kernel_rfl
  f31 := Tryd.func85.trans (congrArg some (by kernel_rfl))
  f37 := Tryd.func97.trans (congrArg some (by kernel_rfl))
  t3 := Tryd.underlying3
  a3 := Tryd.isAgg3
  z3 := Tryd.sizeOf3
  v3 := Tryd.zeroValue3
  t4 := Tryd.underlying4
  a4 := Tryd.isAgg4
  z4 := Tryd.sizeOf4
  v4 := Tryd.zeroValue4 }
open Go.RowKit Go.Lib in
/-- cmp.Less[int]: "Less reports whether x is less than y.": 'x < y'; the world is as it was. (LAID: no walk: one application.) -/
theorem Tryd.cmp_Less_int2 (x y : Int) (w : World) :
    Calls Tryd.prog 85 #[.int .i64 x, .int .i64 y] w fun e w' => e = .returned (.bool (decide (x < y))) ∧ w' = w := Any.cmp_Less_int2 Tryd.laysNm231 x y w
open Go.RowKit Go.Sort in
/-- .. and plain. (LAID: no walk: one application.) -/
theorem Tryd.slices_Sort_int_none (p : Option Addr) (cap : Nat) (w : World) :
    Calls Tryd.prog 53 #[.slice p 0 cap] w fun e w' => e = .returned (.tuple #[]) ∧ w' = w := Any.slices_Sort_int_none Tryd.lays189 p cap w
def Tryd.lays115_ren : Go.Shelf.Ren := ⟨fun | 115 => 43 | n => n, fun | 37 => 22 | 4 => 4 | 9 => 9 | 5 => 5 | n => n, fun | n => n⟩
theorem Tryd.lays115 : Go.Proofs.Lays.n115 Tryd.prog Tryd.lays115_ren := {
  mixed := by kernel_rfl
  f115 := Tryd.func43.trans (congrArg some (by kernel_rfl))
  t4 := Tryd.underlying4
  a4 := Tryd.isAgg4
  z4 := Tryd.sizeOf4
  v4 := Tryd.zeroValue4
  t9 := Tryd.underlying9
  a9 := Tryd.isAgg9
  z9 := Tryd.sizeOf9
  v9 := Tryd.zeroValue9
  t37 := Tryd.underlying22
  a37 := Tryd.isAgg22
  z37 := Tryd.sizeOf22
  v37 := Tryd.zeroValue22 }
open Go.Proofs Go.RowKit Go.Lib in
/-- bytes.Equal, each argument with what 'string(..)' of it gives. (LAID: no walk: one application.) -/
theorem Tryd.bytes_Equal_strs (v1 v2 : Value) (t1 t2 : ByteArray) (w : World) (h1 : (convert 22 9 v1).run Tryd.prog w = .ok (.string t1) w) (h2 : (convert 22 9 v2).run Tryd.prog w = .ok (.string t2) w) :
    Calls Tryd.prog 43 #[v1, v2] w fun e w' => e = .returned (.bool (t1.toList == t2.toList)) ∧ w' = w := Any.bytes_Equal_strs Tryd.lays115 v1 v2 t1 t2 w h1 h2
def Tryd.laysnb115_ren : Go.Shelf.Ren := ⟨fun | 115 => 43 | n => n, fun | 37 => 22 | 4 => 4 | 9 => 9 | 5 => 5 | n => n, fun | n => n⟩
theorem Tryd.laysnb115 : Go.Proofs.Lays.nb115 Tryd.prog Tryd.laysnb115_ren := {
  mixed := by kernel_rfl
  f115 := Tryd.func43.trans (congrArg some (by kernel_rfl))
  t4 := Tryd.underlying4
  a4 := Tryd.isAgg4
  z4 := Tryd.sizeOf4
  v4 := Tryd.zeroValue4
  t9 := Tryd.underlying9
  a9 := Tryd.isAgg9
  z9 := Tryd.sizeOf9
  v9 := Tryd.zeroValue9
  t37 := Tryd.underlying22
  a37 := Tryd.isAgg22
  z37 := Tryd.sizeOf22
  v37 := Tryd.zeroValue22
  t5 := Tryd.underlying5
  a5 := Tryd.isAgg5
  z5 := Tryd.sizeOf5
  v5 := Tryd.zeroValue5 }
/-- bytes.Equal: WHOLE. (LAID: no walk: one application.) -/
theorem Tryd.bytes_Equal_all (p1 p2 : Option Addr) (n c m d : Nat) (xs ys : List Int) (w : World) (hx : xs.length = n) (hy : ys.length = m) (h1 : Lib.BytesIn w p1 n xs) (h2 : Lib.BytesIn w p2 m ys) :
    Calls Tryd.prog 43 #[.slice p1 n c, .slice p2 m d] w fun e w' => e = .returned (.bool (Lib.bytesOf xs == Lib.bytesOf ys)) ∧ w' = w := Any.bytes_Equal_all Tryd.laysnb115 p1 p2 n c m d xs ys w hx hy h1 h2
/-- bytes.Equal: "Equal reports whether a and b are the same length and contain the same bytes. A nil argument is equivalent to an empty slice.": IT RETURNS 'the bytes of the one == the bytes of the other'; the world is as it was. THE TWO ARGUMENTS COME AS WHATEVER VALUES, each with the one fact that the walk wants of it: what 'string(..)' of it gives: for a slice whose cells you know: 'run_convert_bytes_arg' (Derived/Laws/BytesArg.lean) hands that fact; for a nil one: 'run_convert_bytes_nil' (with xs := []). (LAID: no walk: one application.) -/
theorem Tryd.bytes_Equal (v1 v2 : Value) (xs ys : List Int) (w : World) (h1 : (convert 22 9 v1).run Tryd.prog w = .ok (.string (strOfNums xs)) w) (h2 : (convert 22 9 v2).run Tryd.prog w = .ok (.string (strOfNums ys)) w) :
    Calls Tryd.prog 43 #[v1, v2] w fun e w' => e = .returned (.bool (Lib.bytesOf xs == Lib.bytesOf ys)) ∧ w' = w := Any.bytes_Equal Tryd.lays115 v1 v2 xs ys w h1 h2
end Go.Proofs
end
section
set_option linter.unusedVariables false
set_option linter.unusedSimpArgs false
set_option linter.unusedVariables false
set_option maxRecDepth 20000
namespace Go.Px
open Go Go.Proofs
attribute [local irreducible] Do RdNow RdS RdNowN RdSN CallN Drew Draw Loop JoinC obj rows at' old Item.r many fact
variable {K : Value → World → Prop} {L : List Item} {w : World}
def sortI (xs : List Int) : List Int := xs.mergeSort fun x y => decide (x ≤ y)
theorem sort_ok {v : Value} {xs : List Int} (hs : St (own EI 3 v xs :: L) w) (hn : xs.length ≤ 1000000000) (hk : ∀ w, St (own EI 3 v (sortI xs) :: L) w → K (.tuple #[]) w) :
    CallN Tryd.prog (callS (fnv 53) #[v]) K w := by
  refine CallN_fn (args := [v]) (by kernel_rfl) ?_
  have ho : w.ownsRow 0 3 1 v xs.length (xs.flatMap EI.f) := hs.get (x := own EI 3 v xs) (List.Mem.head _)
  have hf : xs.flatMap EI.f = xs.map I := flat_one I xs
  obtain ⟨h1, h2⟩ := ho
  rcases h2 with ⟨rfl, h0⟩ | ⟨g, cap, cur, rfl, hb, hg, hc, hm, hsz, ht⟩
  · obtain rfl : xs = [] := List.eq_nil_of_length_eq_zero h0
    refine (Tryd.slices_Sort_int_none none 0 w).mono fun e w' h => ?_
    obtain ⟨rfl, rfl⟩ := h
    exact ⟨_, rfl, hk _ (by rw [show sortI [] = [] from by simp [sortI]]; exact hs)⟩
  · rw [Nat.mul_one, hf] at ht
    refine (Tryd.slices_Sort_int g 0 cap xs w (holds_of_blockI hg ht) (Array.getElem?_eq_some_iff.1 hg).1 (by omega)).mono fun e w' h => ?_
    obtain ⟨rfl, n, os, rfl⟩ := h
    refine ⟨_, rfl, hk _ ?_⟩
    have hgr := grownBy_sortedI (w := w) (g := g) (n := n) (os := os) (sortI xs).toArray
    obtain ⟨g1, g2, g3, g4, g5⟩ := hgr
    have hl : (sortI xs).length = xs.length := List.length_mergeSort _
    have hown := ownsRow_sortedI (base := 0) (n := n) (e := 3) (os := os) (ts := sortI xs) hl (Nat.zero_le _) hg hc hm hsz
    have hf2 : (sortI xs).flatMap EI.f = (sortI xs).map I := flat_one I _
    refine hs.upd (x := own EI 3 (.slice (some ⟨g, 0, none⟩) xs.length cap) xs) (y := own EI 3 (.slice (some ⟨g, 0, none⟩) xs.length cap) (sortI xs)) .here (M := fun k => k = g) ⟨g1, g2, g3, g4, fun k hk hne => g5 k hk fun e => hne (Option.some.inj e)⟩ ?_ ?_ ?_ ?_
    · rintro k hk rfl
      exact ⟨rfl, rfl⟩
    · show World.ownsRow _ 0 _ 1 _ (sortI xs).length ((sortI xs).flatMap EI.f)
      rw [hf2, hl]
      exact hown
    · exact fun _ => rfl
    · exact fun k hk => .inl hk
def lateP (now wait : Nat) (x : audit_question) : Bool := decide (x.since ≤ now ∧ wait ≤ now - x.since)
def lateM (now wait : Nat) (qs : List audit_question) : List Int := sortI ((qs.filter (lateP now wait)).map (·.about.who))
theorem filter_split {α : Type} (p : α → Bool) : ∀ (qs : List α) (i : Nat) (x : α), qs[i]? = some x → p x = true → (∀ (j : Nat) y, j < i → qs[j]? = some y → p y = false) →
    qs.filter p = x :: (qs.eraseIdx i).filter p ∧ (qs.eraseIdx i).filter (fun x => !p x) = qs.filter fun x => !p x
  | [], i, x, h, _, _ => by simp at h
  | q :: qs, 0, x, h, hp, _ => by
    simp only [List.getElem?_cons_zero, Option.some.injEq] at h
    subst h
    simp [hp]
  | q :: qs, i + 1, x, h, hp, hb => by
    have h0 := hb 0 q (by omega) rfl
    have ih := filter_split p qs i x (by simpa using h) hp fun j y hj hy => hb (j + 1) y (by omega) (by simpa using hy)
    simp only [List.eraseIdx_cons_succ, List.filter_cons, h0]
    exact ⟨by simpa using ih.1, by simpa using ih.2⟩
theorem late_ok {a d : Nat} {sv : SV} {qs : List audit_question} {now wait : Nat} (hs : St (box a TA (EA.f ⟨d, sv⟩) :: own EQ TQ sv.1 qs :: L) w) (hq : qs.length ≤ 1000000) (hnow : now < 18446744073709551616)
    (hk : ∀ v sv' w, St (own EI 3 v (lateM now wait qs) :: box a TA (EA.f ⟨d, sv'⟩) :: own EQ TQ sv'.1 (qs.filter fun x => !lateP now wait x) :: L) w → K v w) :
    CallN Tryd.prog (callS (fnv 24) #[A a 0, W now, W wait]) K w := by
  refine CallN_fn (args := [A a 0, W now, W wait]) (by kernel_rfl) (F24_calls ?_)
  unfold F24
  refine st_boxE (E := EW) (x := now) hs fun b4 w hs => ?_
  refine st_boxE (E := EW) (x := wait) hs fun b5 w hs => ?_
  have hs := hs.nil (E := EI) (e := 3)
  have hs := hs.pull 1 rfl; have hs := hs.pull 2 rfl; have hs := hs.pull 2 rfl; have hs := hs.pull 4 rfl; have hs := hs.pull 4 rfl; try simp only [List.nil_append, List.cons_append, List.eraseIdx_cons_succ, List.eraseIdx_cons_zero] at hs
  refine JoinC_in ?_
  refine Loop_in (fun e w => ∃ (sv : SV) (qs' : List audit_question) (out : List Int) (v : Value), qs'.length ≤ qs.length ∧ out.length ≤ qs.length ∧ (qs.filter (lateP now wait)).map (·.about.who) = out ++ (qs'.filter (lateP now wait)).map (·.about.who) ∧ qs'.filter (fun x => !lateP now wait x) = qs.filter (fun x => !lateP now wait x) ∧
      out.length + qs'.length = qs.length ∧ e 0 = A a 0 ∧ e 4 = A b4 0 ∧ e 5 = A b5 0 ∧ e 7 = v ∧ St (box a TA (EA.f ⟨d, sv⟩) :: own EQ TQ sv.1 qs' :: own EI 3 v out :: box b4 23 (EW.f now) :: box b5 23 (EW.f wait) :: L) w)
    (fun e w => qs.length - lenOf (e 7)) ⟨sv, qs, [], NoSl, Nat.le_refl _, Nat.zero_le _, rfl, rfl, by simp, rfl, rfl, rfl, rfl, hs⟩ ?_
  rintro e w ⟨sv, qs', out, v, hl1, hl2, hm1, hm2, hl3, e0, e4, e5, e7, hs⟩
  obtain ⟨e, rfl⟩ := env4 e0 e4 e5 e7
  have hlo := lenOf_row hs (RowIn.own (E := EI) (e := 3) (v := v) (xs := out) (by repeat (first | assumption | exact List.Mem.head _ | exact List.mem_append_left _ (by assumption) | apply List.Mem.tail)))
  unfold F24_p1
  refine Do_y hs (Yd.mkf _ _ _) ?_
  refine close_ok (lateP now wait) hs (by omega) (fun L' x w hL hs => late1_ok (now := now) (wait := wait) (bn := b4) (bw := b5) x (hL _ (by simp)) (hL _ (by simp)) hnow hs) (fun hno w hs => ?_) (fun i x sv' w hx hp hb hs => ?_)
  · have hf0 : qs'.filter (lateP now wait) = [] := List.filter_eq_nil_iff.2 fun x hx => by rw [hno x hx]; decide
    have hf1 : qs'.filter (fun x => !lateP now wait x) = qs' := List.filter_eq_self.2 fun x hx => by rw [hno x hx]; rfl
    rw [hf0, List.map_nil, List.append_nil] at hm1
    rw [hf1] at hm2
    refine Do_y hs (Yd.ext _ _ _) ?_
    refine Do_y hs (Yd.ext _ _ _) ?_
    refine st_new hs fun b8 w hs => ?_
    skip
    refine st_ty (y := zaudit_question) hs .here (fun w hs => ?_)
    refine JoinC_in ?_
    refine Do_y hs (Yd.not _) ?_
    refine Cond_true ?_
    refine ⟨(rfl : @Eq (List Nat) _ _), ?_⟩
    have hs := hs.pull 2 rfl; have hs := hs.pull 2 rfl; have hs := hs.pull 3 rfl; try simp only [List.nil_append, List.cons_append, List.eraseIdx_cons_succ, List.eraseIdx_cons_zero] at hs
    refine sort_ok hs (by omega) fun w hs => ?_
    rw [← hm1, hm2] at hs
    exact hk _ sv _ (hs.sub (by repeat (first | exact List.nil_sublist _ | exact List.Sublist.refl _ | exact List.sublist_append_left _ _ | apply List.Sublist.cons_cons | apply List.Sublist.cons)))
  · have hsp := filter_split (lateP now wait) qs' i x hx hp hb
    have hil := (List.getElem?_eq_some_iff.1 hx).1
    have hel := List.length_eraseIdx_of_lt hil
    refine Do_y hs (Yd.ext _ _ _) ?_
    refine Do_y hs (Yd.ext _ _ _) ?_
    refine st_new hs fun b8 w hs => ?_
    skip
    refine st_ty (y := x) hs .here (fun w hs => ?_)
    refine JoinC_in ?_
    refine Do_y hs (Yd.not _) ?_
    refine Cond_false ?_
    refine ⟨(rfl : @Eq (List Nat) _ _), ?_⟩
    refine Do_y hs (Yd.fld) ?_
    refine Do_y hs (Yd.fld) ?_
    refine Do_y hs (Yd.bx (by repeat (first | assumption | exact List.Mem.head _ | exact List.mem_append_left _ (by assumption) | apply List.Mem.tail))) ?_
    refine st_row1 (E := EI) (e := 3) (bytes := 8) (x := x.about.who) hs fun v22 w hs _ => ?_
    have hs := hs.pull 4 rfl; try simp only [List.nil_append, List.cons_append, List.eraseIdx_cons_succ, List.eraseIdx_cons_zero] at hs
    refine st_append (E := EI) (e := 3) (bytes := 8) (xs := out) (ys := [x.about.who]) hs (RowIn.own (e := 3) (v := v22) (by repeat (first | assumption | exact List.Mem.head _ | exact List.mem_append_left _ (by assumption) | apply List.Mem.tail))) (fun v23 w hs => ?_) (List.Perm.refl _) (hm := by simp only [List.length_singleton]; omega) (hm2 := by simp only [List.length_singleton]; omega)
    have hlo2 := lenOf_row hs (RowIn.own (E := EI) (e := 3) (v := v23) (xs := out ++ [x.about.who]) (by repeat (first | assumption | exact List.Mem.head _ | exact List.mem_append_left _ (by assumption) | apply List.Mem.tail)))
    rw [List.length_append, List.length_singleton] at hlo2
    refine ⟨(rfl : @Eq (List Nat) _ _), ?_⟩
    have hs := hs.pull 6 rfl; have hs := hs.pull 6 rfl; have hs := hs.pull 2 rfl; have hs := hs.pull 6 rfl; have hs := hs.pull 6 rfl; try simp only [List.nil_append, List.cons_append, List.eraseIdx_cons_succ, List.eraseIdx_cons_zero] at hs
    refine ⟨⟨sv', qs'.eraseIdx i, out ++ [x.about.who], v23, by omega, by rw [List.length_append, List.length_singleton]; omega, ?_, ?_, by rw [List.length_append, List.length_singleton]; omega, rfl, rfl, rfl, rfl, hs.sub (by repeat (first | exact List.nil_sublist _ | exact List.Sublist.refl _ | exact List.sublist_append_left _ _ | apply List.Sublist.cons_cons | apply List.Sublist.cons))⟩, ?_⟩
    · rw [hm1, hsp.1, List.map_cons, List.append_assoc]; rfl
    · rw [hsp.2, hm2]
    · show qs.length - lenOf v23 < qs.length - lenOf v
      omega
end Go.Px
end
section
set_option linter.unusedVariables false
set_option linter.unusedSimpArgs false
set_option linter.unusedVariables false
set_option maxRecDepth 20000
namespace Go.Px
open Go Go.Proofs
theorem aboveL_get2 : ∀ (j : Nat) (xs : List Id) (a b : Id), xs[2 * j]? = some a → xs[2 * j + 1]? = some b → (aboveL xs)[j]? = some (shaI (pairL a b))
  | 0, x :: y :: l, a, b, h1, h2 => by
    simp only [Nat.mul_zero, List.getElem?_cons_zero, Nat.zero_add, List.getElem?_cons_succ, Option.some.injEq] at h1 h2
    subst h1; subst h2
    rfl
  | 0, [x], a, b, h1, h2 => by simp at h2
  | 0, [], a, b, h1, h2 => by simp at h2
  | j + 1, x :: y :: l, a, b, h1, h2 => by
    rw [show 2 * (j + 1) = 2 * j + 1 + 1 by omega] at h1 h2
    simp only [List.getElem?_cons_succ] at h1 h2
    show (shaI (pairL x y) :: aboveL l)[j + 1]? = _
    rw [List.getElem?_cons_succ]
    exact aboveL_get2 j l a b h1 h2
  | j + 1, [x], a, b, h1, h2 => by simp at h2
  | j + 1, [], a, b, h1, h2 => by simp at h2
theorem aboveL_get1 : ∀ (j : Nat) (xs : List Id) (a : Id), xs[2 * j]? = some a → xs[2 * j + 1]? = none → (aboveL xs)[j]? = some a
  | 0, x :: y :: l, a, h1, h2 => by simp at h2
  | 0, [x], a, h1, h2 => by
    simp only [Nat.mul_zero, List.getElem?_cons_zero] at h1
    exact h1
  | 0, [], a, h1, h2 => by simp at h1
  | j + 1, x :: y :: l, a, h1, h2 => by
    rw [show 2 * (j + 1) = 2 * j + 1 + 1 by omega] at h1 h2
    simp only [List.getElem?_cons_succ] at h1 h2
    show (shaI (pairL x y) :: aboveL l)[j + 1]? = _
    rw [List.getElem?_cons_succ]
    exact aboveL_get1 j l a h1 h2
  | j + 1, [x], a, h1, h2 => by
    rw [show 2 * (j + 1) = 2 * j + 1 + 1 by omega] at h1
    simp at h1
  | j + 1, [], a, h1, h2 => by simp at h1
theorem pAt_lt {n i : Nat} (h : i < n) : ∀ k, pAt i k < wAt n k
  | 0 => by show i / 2 ^ 0 < n; simpa using h
  | k + 1 => by
    have := pAt_lt h k
    rw [pAt_succ]
    show pAt i k / 2 < wAt n k - wAt n k / 2
    omega
theorem wayK_pre (row : List Id) (i k : Nat) : ∀ m, ∃ r, wayK row i (k + m) = wayK row i k ++ r
  | 0 => ⟨[], by simp⟩
  | m + 1 => by
    obtain ⟨r, h⟩ := wayK_pre row i k m
    exact ⟨r ++ _, by rw [← Nat.add_assoc]; show wayK row i (k + m) ++ _ = _; rw [h, List.append_assoc]⟩
theorem way_inv (row : List Id) (i : Nat) (lf : List Nat) (hi : i < row.length) (h0 : row[i]? = some (shaI (0 :: lf))) : ∀ k, k ≤ ht row.length →
    ∃ out now rest, rowsK row.length i lf (wayK row i (ht row.length)) k = some (out, now, rest) ∧ (rowK row k)[pAt i k]? = some now ∧ wayK row i (ht row.length) = wayK row i k ++ rest
  | 0, _ => ⟨_, _, _, rfl, by rw [show pAt i 0 = i by simp [pAt]]; exact h0, rfl⟩
  | k + 1, hk => by
    obtain ⟨out, now, rest, h1, h2, h3⟩ := way_inv row i lf hi h0 k (by omega)
    obtain ⟨rest', h4⟩ := wayK_pre row i (k + 1) (ht row.length - (k + 1))
    rw [show k + 1 + (ht row.length - (k + 1)) = ht row.length by omega] at h4
    have hp := pAt_lt hi k
    have hrl := rowK_len row k
    have hx := xor_one (pAt i k)
    have h5 : wayK row i (k + 1) = wayK row i k ++ (bif beside row.length i k then [(rowK row k).getD (pAt i k ^^^ 1) id0] else []) := rfl
    have hst : rowsK row.length i lf (wayK row i (ht row.length)) (k + 1) = rowsStep row.length i k (out, now, rest) := by show (rowsK _ _ _ _ k).bind _ = _; rw [h1]; rfl
    have hrow : rowK row (k + 1) = aboveL (rowK row k) := rfl
    rw [hst, hrow, pAt_succ]
    unfold rowsStep
    by_cases hb : beside row.length i k = true
    · have hlt : pAt i k ^^^ 1 < wAt row.length k := of_decide_eq_true hb
      rw [hb, cond_true] at h5
      obtain ⟨x, hxx⟩ : ∃ x, (rowK row k)[pAt i k ^^^ 1]? = some x := ⟨(rowK row k)[pAt i k ^^^ 1]'(by omega), List.getElem?_eq_getElem (by omega)⟩
      rw [List.getD_eq_getElem?_getD, hxx] at h5
      have h6 : rest = x :: rest' := by
        rw [h3, h5, List.append_assoc] at h4
        exact List.append_cancel_left h4
      subst h6
      rw [if_pos hb]
      refine ⟨_, _, _, rfl, ?_, h4⟩
      unfold nodeL
      by_cases hodd : pAt i k % 2 = 1
      · rw [if_pos hodd]
        rw [hx, if_neg (by omega)] at hxx
        refine aboveL_get2 _ _ x now ?_ ?_
        · rw [show 2 * (pAt i k / 2) = pAt i k - 1 by omega]; exact hxx
        · rw [show 2 * (pAt i k / 2) + 1 = pAt i k by omega]; exact h2
      · rw [if_neg hodd]
        rw [hx, if_pos (by omega)] at hxx
        refine aboveL_get2 _ _ now x ?_ ?_
        · rw [show 2 * (pAt i k / 2) = pAt i k by omega]; exact h2
        · rw [show 2 * (pAt i k / 2) + 1 = pAt i k + 1 by omega]; exact hxx
    · have hlt : ¬ pAt i k ^^^ 1 < wAt row.length k := fun h => hb (decide_eq_true h)
      have hbf : beside row.length i k = false := by simpa using hb
      rw [hbf, cond_false, List.append_nil] at h5
      rw [if_neg hb]
      refine ⟨_, _, _, rfl, ?_, by rw [h5]; exact h3⟩
      have hev : pAt i k % 2 = 0 := by
        by_cases hev : pAt i k % 2 = 0
        · exact hev
        · rw [hx, if_neg hev] at hlt
          omega
      rw [hx, if_pos hev] at hlt
      refine aboveL_get1 _ _ now ?_ ?_
      · rw [show 2 * (pAt i k / 2) = pAt i k by omega]; exact h2
      · rw [show 2 * (pAt i k / 2) + 1 = pAt i k + 1 by omega]
        exact List.getElem?_eq_none (by omega)
theorem topL_rowK (row : List Id) : ∀ k, k ≤ ht row.length → topL row = topL (rowK row k)
  | 0, _ => rfl
  | k + 1, h => by
    rw [topL_rowK row k (by omega)]
    have := (lt_ht row.length k).1 (by omega)
    rw [topL.eq_1, if_pos (by rw [rowK_len]; exact this.1)]
    rfl
theorem check_prove {bs : List Nat} {i : Nat} (hi : i < nL bs) : checkP (rootL bs) (nL bs) i ((splitL bs).getD i []) (wayL bs i) = true := by
  have hdl : (digL bs).length = nL bs := by unfold digL nL; simp
  obtain ⟨lf, hlf⟩ : ∃ l, (splitL bs)[i]? = some l := ⟨(splitL bs)[i], List.getElem?_eq_getElem hi⟩
  have h64 := (splitL_mem (List.mem_of_getElem? hlf)).1
  have hlfd : (splitL bs).getD i [] = lf := by rw [List.getD_eq_getElem?_getD, hlf]; rfl
  have h0 : (digL bs)[i]? = some (shaI (0 :: lf)) := by unfold digL; rw [List.getElem?_map, hlf]; rfl
  obtain ⟨out, now, rest, h1, h2, h3⟩ := way_inv (digL bs) i lf (by omega) h0 (ht (digL bs).length) (Nat.le_refl _)
  have hr : rest = [] := by
    have := congrArg List.length h3
    rw [List.length_append] at this
    exact List.eq_nil_of_length_eq_zero (by omega)
  subst hr
  have hp := pAt_lt (show i < (digL bs).length by omega) (ht (digL bs).length)
  have hw : ¬ 1 < wAt (digL bs).length (ht (digL bs).length) := fun h => absurd ((lt_ht (digL bs).length (ht (digL bs).length)).2 ⟨h, Nat.le_refl _⟩) (by omega)
  have hp0 : pAt i (ht (digL bs).length) = 0 := by omega
  have htop : topL (digL bs) = now := by
    rw [topL_rowK _ _ (Nat.le_refl _), topL.eq_1, if_neg (by rw [rowK_len]; exact hw), List.getD_eq_getElem?_getD, ← hp0, h2]
    rfl
  rw [hdl] at h1
  have hrp : rowsP (nL bs) i lf (wayL bs i) = some (out ++ [crownL (nL bs) now], true) := by unfold rowsP wayL; rw [h1]; rfl
  unfold checkP
  rw [hlfd, hrp, decide_eq_true h64]
  simp only [List.getLastD_concat, Bool.true_and]
  unfold rootL
  rw [htop]
  exact decide_eq_true rfl
end Go.Px
end
section
set_option linter.unusedVariables false
set_option linter.unusedSimpArgs false
set_option linter.unusedVariables false
set_option maxRecDepth 20000
namespace Go.Px
open Go Go.Proofs
attribute [local irreducible] Do RdNow RdS RdNowN RdSN CallN Drew Draw Loop JoinC obj own rows at' old Item.r many fact
variable {K : Value → World → Prop} {L : List Item} {w : World}
def tM (id : Id) (nl i : Nat) : audit_Target := ⟨i, id, nl⟩
def qM (id : Id) (nl i : Nat) : audit_question := asked (tM id nl i) (i + 1) (i % nl) i
def nM (id : Id) (nl i : Nat) : notes_Note := askN (tM id nl i) (i + 1) (i % nl)
def qsM (id : Id) (nl lo n : Nat) : List audit_question := (List.range' lo n).map (qM id nl)
def nsM (id : Id) (nl n : Nat) : List notes_Note := (List.range n).map (nM id nl)
theorem qsM_succ (id : Id) (nl i : Nat) : qsM id nl 0 (i + 1) = qsM id nl 0 i ++ [qM id nl i] := by
  unfold qsM
  rw [List.range'_concat, List.map_append]
  simp
theorem nsM_succ (id : Id) (nl i : Nat) : nsM id nl (i + 1) = nsM id nl i ++ [nM id nl i] := by
  unfold nsM
  rw [List.range_succ, List.map_append]
  rfl
theorem late_none (id : Id) (nl i wt j : Nat) (h : i ≤ j) (h1 : 1 ≤ wt) : lateP (i + wt - 1) wt (qM id nl j) = false := by
  unfold lateP
  show decide (j ≤ i + wt - 1 ∧ wt ≤ i + wt - 1 - j) = false
  exact decide_eq_false (by omega)
theorem late_one (id : Id) (nl i wt j : Nat) (h : i ≤ j) (h1 : 1 ≤ wt) : lateP (i + wt) wt (qM id nl j) = decide (j = i) := by
  unfold lateP
  show decide (j ≤ i + wt ∧ wt ≤ i + wt - j) = decide (j = i)
  exact decide_eq_decide.2 (by omega)
theorem qsM_mem {id : Id} {nl lo n : Nat} {q : audit_question} (h : q ∈ qsM id nl lo n) : ∃ j, lo ≤ j ∧ j < lo + n ∧ q = qM id nl j := by
  unfold qsM at h
  obtain ⟨j, hj, rfl⟩ := List.mem_map.1 h
  rw [List.mem_range'_1] at hj
  exact ⟨j, hj.1, hj.2, rfl⟩
theorem qsM_cons (id : Id) (nl i n : Nat) : qsM id nl i (n + 1) = qM id nl i :: qsM id nl (i + 1) n := by
  unfold qsM
  rw [List.range'_succ, List.map_cons]
theorem lateM_none (id : Id) (nl i wt n : Nat) (h1 : 1 ≤ wt) : lateM (i + wt - 1) wt (qsM id nl i n) = [] ∧ (qsM id nl i n).filter (fun x => !lateP (i + wt - 1) wt x) = qsM id nl i n := by
  have hf : ∀ q ∈ qsM id nl i n, lateP (i + wt - 1) wt q = false := fun q hq => by
    obtain ⟨j, h2, _, rfl⟩ := qsM_mem hq
    exact late_none _ _ _ _ _ h2 h1
  refine ⟨?_, List.filter_eq_self.2 fun q hq => by rw [hf q hq]; rfl⟩
  unfold lateM
  rw [List.filter_eq_nil_iff.2 fun q hq => by rw [hf q hq]; decide]
  simp [sortI]
theorem lateM_one (id : Id) (nl i wt n : Nat) (h1 : 1 ≤ wt) : lateM (i + wt) wt (qsM id nl i (n + 1)) = [(i : Int)] ∧ (qsM id nl i (n + 1)).filter (fun x => !lateP (i + wt) wt x) = qsM id nl (i + 1) n := by
  have hf : ∀ q ∈ qsM id nl (i + 1) n, lateP (i + wt) wt q = false := fun q hq => by
    obtain ⟨j, h2, _, rfl⟩ := qsM_mem hq
    rw [late_one _ _ _ _ _ (by omega) h1]
    exact decide_eq_false (by omega)
  have h0 : lateP (i + wt) wt (qM id nl i) = true := by rw [late_one _ _ _ _ _ (Nat.le_refl _) h1]; exact decide_eq_true rfl
  rw [qsM_cons]
  refine ⟨?_, ?_⟩
  · unfold lateM
    rw [List.filter_cons, if_pos h0, List.filter_eq_nil_iff.2 fun q hq => by rw [hf q hq]; decide]
    simp [sortI]
    rfl
  · rw [List.filter_cons, if_neg (by rw [h0]; decide)]
    exact List.filter_eq_self.2 fun q hq => by rw [hf q hq]; rfl
theorem handle_no (who : Int) (n : notes_Note) (lf : List Nat) (way : List Id) (qs : List audit_question) (h7 : n.Kind = 7) (h : ∀ q ∈ qs, q.about.nonce ≠ n.Nonce) : handleM who n lf way qs = (0, qs) := by
  unfold handleM
  rw [closeM_none _ _ fun q hq => by
    unfold hP
    rw [if_pos h7]
    exact decide_eq_false fun e => h q hq (by rw [e])]
theorem auditLate_ok {e0 : TypeId} {v : Value} {bs : List Nat} {n wait : Nat} (hs : St L w) (hG : G0 e0 ∈ L) (hx : rows EY v bs ∈ L) (h8 : B8 bs) (hn : bs.length ≤ 9223372036854775807) (hn8 : n < 256) (hw8 : wait < 256) (hk : ∀ w, St L w → K (.bool true) w) :
    Calls Tryd.prog 6 #[v, Y n, Y wait] w (Returns K) := by
  refine F6_calls ?_
  unfold F6
  refine awake_ok hs hG fun w hs => ?_
  refine JoinC_in ?_
  refine Do_y hs (Yd.not _) ?_
  refine Cond_false ?_
  refine ⟨(rfl : @Eq (List Nat) _ _), ?_⟩
  unfold F6_p7
  refine JoinC_in ?_
  refine CallN_y hs (Yd.len (RowIn.of (by repeat (first | assumption | exact List.Mem.head _ | exact List.mem_append_left _ (by assumption) | apply List.Mem.tail)))) ?_
  refine Do_y hs (Yd.eq _ _ _ _ _ _) ?_
  refine Join_in ?_
  refine Guard_decF (fun q0 => ?_) (fun q0 => ?_)
  · refine CallN_y hs (Yd.len (RowIn.of (by repeat (first | assumption | exact List.Mem.head _ | exact List.mem_append_left _ (by assumption) | apply List.Mem.tail)))) ?_
    refine Do_y hs (Yd.gtr _ _ _ _) ?_
    refine CallN_y hs (Yd.pickb _ _ _) ?_
    refine Cond_split (fun q => ?_) (fun q => ?_)
    · skip
      exact hk _ hs
    · rw [decide_eq_false q0, cond_false, decide_eq_false_iff_not] at q
      refine ⟨(rfl : @Eq (List Nat) _ _), ?_⟩
      unfold F6_p6
      refine new_ok hs fun a w hs => ?_
      refine root_ok (e0 := e0) (bs := bs) hs (by repeat (first | assumption | exact List.Mem.head _ | exact List.mem_append_left _ (by assumption) | apply List.Mem.tail)) (by repeat (first | assumption | exact List.Mem.head _ | exact List.mem_append_left _ (by assumption) | apply List.Mem.tail)) h8 (by omega) fun w hs => ?_
      refine st_alloc (EId.val id0) hs fun b9 w hs => ?_
      refine st_ty (y := rootL bs) hs .here (fun w hs => ?_)
      have hnl : 1 ≤ nL bs ∧ nL bs ≤ bs.length + 1 := by rw [nL_eq]; omega
      skip
      refine Do_y hs (Yd.remY _ n 8) ?_
      refine Do_y hs (Yd.cYI _ _) ?_
      refine Do_y hs (Yd.add _ _ _) ?_
      refine Do_y hs (Yd.remY _ wait 20) ?_
      refine Do_y hs (Yd.cYW _ _) ?_
      refine Do_y hs (Yd.addW _ _ 1) ?_
      obtain ⟨k, hkk⟩ : ∃ k, n % 8 + 1 = k := ⟨_, rfl⟩
      obtain ⟨wt, hwt⟩ : ∃ k, wait % 20 + 1 = k := ⟨_, rfl⟩
      have hkI : ((n % 8 : Nat) : Int) + 1 = (k : Nat) := by omega
      rw [hkI, hwt]
      have hs := hs.nil (E := EN) (e := TN)
      have hs := hs.pull 1 rfl; have hs := hs.pull 1 rfl; have hs := hs.pull 3 rfl; have hs := hs.pull 3 rfl; try simp only [List.nil_append, List.cons_append, List.eraseIdx_cons_succ, List.eraseIdx_cons_zero] at hs
      refine JoinC_mid (fun e' w' => e' 0 = v ∧ e' 8 = A a 0 ∧ e' 9 = A b9 0 ∧ e' 10 = I k ∧ e' 11 = W wt ∧ ∃ (sv : SV) (vn : Value), e' 12 = vn ∧ St (box a TA (EA.f ⟨k, sv⟩) :: own EQ TQ sv.1 (qsM (rootL bs) (nL bs) 0 k) :: own EN TN vn (nsM (rootL bs) (nL bs) k) :: box b9 TI (EId.f (rootL bs)) :: L) w') ?_ ?_
      · rintro e w ⟨c0, c8, c9, c10, c11, sv, vn, c12, hs⟩
        obtain ⟨e, rfl⟩ := env6 c0 c8 c9 c10 c11 c12
        unfold F6_p4
        have hs := hs.pull 3 rfl; have hs := hs.pull 2 rfl; have hs := hs.pull 2 rfl; have hs := hs.pull 3 rfl; try simp only [List.nil_append, List.cons_append, List.eraseIdx_cons_succ, List.eraseIdx_cons_zero] at hs
        have hs := hs.fix .here
        have hs := hs.pull 3 rfl; have hs := hs.pull 1 rfl; have hs := hs.pull 3 rfl; have hs := hs.pull 3 rfl; try simp only [List.nil_append, List.cons_append, List.eraseIdx_cons_succ, List.eraseIdx_cons_zero] at hs
        refine JoinC_mid (fun e' w' => e' 8 = A a 0 ∧ ∃ sv : SV, St (box a TA (EA.f ⟨k, sv⟩) :: own EQ TQ sv.1 [] :: L) w') ?_ ?_
        · rintro e w ⟨c8, sv, hs⟩
          obtain ⟨e, rfl⟩ := env1 c8
          skip
          refine open_ok (d := k) (sv := sv) (qs := []) hs (by repeat (first | assumption | exact List.Mem.head _ | exact List.mem_append_left _ (by assumption) | apply List.Mem.tail)) (by repeat (first | assumption | exact List.Mem.head _ | exact List.mem_append_left _ (by assumption) | apply List.Mem.tail)) ?_
          refine Do_y hs (Yd.eq _ _ _ _ _ _) ?_
          exact hk _ (hs.drop.drop)
        · intro k' hk'
          refine Loop_in (fun e w => ∃ (i : Nat) (sv : SV), i ≤ k ∧ e 0 = v ∧ e 8 = A a 0 ∧ e 9 = A b9 0 ∧ e 10 = I k ∧ e 11 = W wt ∧ e 12 = vn ∧ e 17 = I i ∧ St (box a TA (EA.f ⟨k, sv⟩) :: own EQ TQ sv.1 (qsM (rootL bs) (nL bs) i (k - i)) :: rows EN vn (nsM (rootL bs) (nL bs) k) :: box b9 TI (EId.f (rootL bs)) :: L) w)
            (fun e w => k - intN (e 17)) ⟨0, sv, Nat.zero_le _, rfl, rfl, rfl, rfl, rfl, rfl, rfl, hs⟩ ?_
          rintro e w ⟨i, sv, hi, c0, c8, c9, c10, c11, c12, c17, hs⟩
          obtain ⟨e, rfl⟩ := env7 c0 c8 c9 c10 c11 c12 c17
          refine JoinC_in ?_
          refine Do_y hs (Yd.lss _ _ _ _) ?_
          refine Cond_dec (fun h => ?_) (fun h => ?_)
          · obtain ⟨m, hm⟩ : ∃ m, k - i = m + 1 := ⟨k - i - 1, by omega⟩
            rw [hm] at hs
            have hql : (qsM (rootL bs) (nL bs) i (m + 1)).length = m + 1 := by unfold qsM; simp
            refine ⟨(rfl : @Eq (List Nat) _ _), ?_⟩
            unfold F6_p3
            have hwt1 : 1 ≤ wt := by omega
            have hleaf : i % nL bs < nL bs := Nat.mod_lt _ (by omega)
            have hnn : (nsM (rootL bs) (nL bs) k)[i]? = some (nM (rootL bs) (nL bs) i) := by
              unfold nsM
              rw [List.getElem?_map, List.getElem?_range (by omega)]
              rfl
            refine JoinC_in ?_
            refine Do_y hs (Yd.cNW _ _ _) ?_
            refine Do_y hs (Yd.addW _ _ _) ?_
            refine JoinC_mid (fun e' w' => e' 0 = v ∧ e' 8 = A a 0 ∧ e' 9 = A b9 0 ∧ e' 10 = I k ∧ e' 11 = W wt ∧ e' 12 = vn ∧ e' 17 = I i ∧ e' 18 = W (i + wt) ∧ ∃ sv : SV, St (box a TA (EA.f ⟨k, sv⟩) :: own EQ TQ sv.1 (qsM (rootL bs) (nL bs) i (m + 1)) :: rows EN vn (nsM (rootL bs) (nL bs) k) :: box b9 TI (EId.f (rootL bs)) :: L) w') ?_ ?_
            · rintro e w ⟨c0, c8, c9, c10, c11, c12, c17, c18, sv, hs⟩
              obtain ⟨e, rfl⟩ := env8 c0 c8 c9 c10 c11 c12 c17 c18
              obtain ⟨hl1, hl2⟩ := lateM_one (rootL bs) (nL bs) i wt m hwt1
              unfold F6_p2
              refine late_ok (now := i + wt) (wait := wt) hs (by omega) (by omega) fun v95 sv' w hs => ?_
              rw [hl1, hl2] at hs
              refine JoinC_in ?_
              refine CallN_y hs (Yd.len (RowIn.own (by repeat (first | assumption | exact List.Mem.head _ | exact List.mem_append_left _ (by assumption) | apply List.Mem.tail)))) ?_
              refine Do_y hs (Yd.ne _ _ _ _ _ _) ?_
              refine Join_in ?_
              refine Guard_t ?_
              refine Do_idx' hs (RowIn.own (E := EI) (e := 3) (v := v95) (xs := [(i : Int)]) (by repeat (first | assumption | exact List.Mem.head _ | exact List.mem_append_left _ (by assumption) | apply List.Mem.tail))) 0 (i : Int) rfl fun b o g => ?_
              refine Do_y hs (Yd.ty (by assumption)) ?_
              refine Do_y hs (Yd.ne _ _ _ _ _ _) ?_
              refine CallN_y hs (Yd.pickb _ _ _) ?_
              refine Cond_no (by omega) ?_
              refine ⟨(rfl : @Eq (List Nat) _ _), ?_⟩
              rw [decide_eq_false (show ¬ (i : Int) ≠ i from fun h => h rfl)]
              skip
              have hN : (nM (rootL bs) (nL bs) i).N = i % nL bs := rfl
              unfold F6_p1
              refine Do_idx' hs (RowIn.of (E := EN) (v := vn) (xs := nsM (rootL bs) (nL bs) k) (by repeat (first | assumption | exact List.Mem.head _ | exact List.mem_append_left _ (by assumption) | apply List.Mem.tail))) i (nM (rootL bs) (nL bs) i) hnn fun b2 o2 g2 => ?_
              refine Do_y hs (Yd.fld) ?_
              refine Do_y hs (Yd.fl (by assumption)) ?_
              refine Do_y hs (Yd.cWI _ _) ?_
              refine prove_ok (e0 := e0) (bs := bs) (i := i % nL bs) hs (by repeat (first | assumption | exact List.Mem.head _ | exact List.mem_append_left _ (by assumption) | apply List.Mem.tail)) (by repeat (first | assumption | exact List.Mem.head _ | exact List.mem_append_left _ (by assumption) | apply List.Mem.tail)) h8 (by omega) hleaf fun v80 v81 w hs => ?_
              have hv80 := own_sv hs (List.Mem.head _)
              have hv81 := own_sv hs (List.Mem.tail _ (List.Mem.head _))
              have hs := hs.fix .here
              have hs := hs.pull 6 rfl; have hs := hs.pull 6 rfl; have hs := hs.pull 6 rfl; have hs := hs.pull 6 rfl; have hs := hs.pull 6 rfl; have hs := hs.pull 5 rfl; have hs := hs.pull 6 rfl; try simp only [List.nil_append, List.cons_append, List.eraseIdx_cons_succ, List.eraseIdx_cons_zero] at hs
              have hs := hs.fix .here
              obtain ⟨lf, hlfi⟩ : ∃ l, (splitL bs)[i % nL bs]? = some l := ⟨(splitL bs)[i % nL bs]'hleaf, List.getElem?_eq_getElem hleaf⟩
              have hlm := splitL_mem (List.mem_of_getElem? hlfi)
              have hlfd : (splitL bs).getD (i % nL bs) [] = lf := by rw [List.getD_eq_getElem?_getD, hlfi]; rfl
              rw [hlfd] at hs
              have hwl : (wayL bs (i % nL bs)).length ≤ 100000 := by have := wayK_len (digL bs) (i % nL bs) (ht (nL bs)); have := ht_le (nL bs); unfold wayL; omega
              have hlf8 := hlm.2 h8
              have hlf64 := hlm.1
              obtain ⟨svl, rfl⟩ : ∃ x : SV, v80 = x.1 := ⟨⟨v80, hv80⟩, rfl⟩
              obtain ⟨svw, rfl⟩ : ∃ x : SV, v81 = x.1 := ⟨⟨v81, hv81⟩, rfl⟩
              generalize hwL : wayL bs (i % nL bs) = way at *
              refine Do_y hs (Yd.ext _ _ _) ?_
              refine Do_y hs (Yd.ext _ _ _) ?_
              refine Do_y hs (Yd.ext _ _ _) ?_
              refine Drew_st hs fun w hs => ?_
              refine Draw_st hs [rows EN vn (nsM (rootL bs) (nL bs) k), box b9 TI (EId.f (rootL bs))] (by repeat (first | exact List.nil_sublist _ | exact List.Sublist.refl _ | exact List.sublist_append_left _ _ | apply List.Sublist.cons_cons | apply List.Sublist.cons)) ?_
              refine RdS_y (Yd.ty (Gd.bE (by repeat (first | assumption | exact List.Mem.head _ | exact List.mem_append_left _ (by assumption) | apply List.Mem.tail)))) ?_
              refine RdS_idx' (hs.sub (by repeat (first | exact List.nil_sublist _ | exact List.Sublist.refl _ | exact List.sublist_append_left _ _ | apply List.Sublist.cons_cons | apply List.Sublist.cons))) (RowIn.of (E := EN) (v := vn) (xs := nsM (rootL bs) (nL bs) k) (by repeat (first | assumption | exact List.Mem.head _ | exact List.mem_append_left _ (by assumption) | apply List.Mem.tail))) i (nM (rootL bs) (nL bs) i) hnn fun b3 o3 g3 => ?_
              refine RdS_y (Yd.fld) ?_
              refine RdS_y (Yd.fl (by assumption)) ?_
              refine RdS_idx' (hs.sub (by repeat (first | exact List.nil_sublist _ | exact List.Sublist.refl _ | exact List.sublist_append_left _ _ | apply List.Sublist.cons_cons | apply List.Sublist.cons))) (RowIn.of (E := EN) (v := vn) (xs := nsM (rootL bs) (nL bs) k) (by repeat (first | assumption | exact List.Mem.head _ | exact List.mem_append_left _ (by assumption) | apply List.Mem.tail))) i (nM (rootL bs) (nL bs) i) hnn fun b4 o4 g4 => ?_
              refine RdS_y (Yd.fld) ?_
              refine RdS_y (Yd.fl (by assumption)) ?_
              refine RdNow_y hs (Yd.build (x := (⟨7, rootL bs, i % nL bs, i + 1, svl, svw⟩ : notes_Note)) (.cons (7 : Int) rfl (.cons (rootL bs) rfl (.cons (i % nL bs) rfl (.cons (i + 1) rfl (.cons svl rfl (.cons svw rfl .nil))))))) ?_
              have hs := hs.pull 6 rfl; have hs := hs.pull 6 rfl; have hs := hs.pull 4 rfl; have hs := hs.pull 4 rfl; have hs := hs.pull 4 rfl; have hs := hs.pull 6 rfl; have hs := hs.pull 6 rfl; try simp only [List.nil_append, List.cons_append, List.eraseIdx_cons_succ, List.eraseIdx_cons_zero] at hs
              have hml : (qsM (rootL bs) (nL bs) (i + 1) m).length = m := by unfold qsM; simp
              refine handle_ok (e0 := e0) (who := i) (lf := lf) (way := way) hs (by repeat (first | assumption | exact List.Mem.head _ | exact List.mem_append_left _ (by assumption) | apply List.Mem.tail)) (by repeat (first | assumption | exact List.Mem.head _ | exact List.mem_append_left _ (by assumption) | apply List.Mem.tail)) (by repeat (first | assumption | exact List.Mem.head _ | exact List.mem_append_left _ (by assumption) | apply List.Mem.tail)) hlf8 (by omega) hwl (by omega) (fun q hq => ?_) fun sv3 w hs => ?_
              · obtain ⟨j, hj1, hj2, rfl⟩ := qsM_mem hq
                have hjm : j % nL bs < nL bs := Nat.mod_lt _ (by omega)
                refine ⟨?_, ?_, ?_⟩
                · show (0 : Int) ≤ ((j % nL bs : Nat) : Int)
                  omega
                · show ((j % nL bs : Nat) : Int) < ((nL bs : Nat) : Int)
                  omega
                · show ((nL bs : Nat) : Int) ≤ 65536
                  omega
              have hm0 : handleM i (⟨7, rootL bs, i % nL bs, i + 1, svl, svw⟩ : notes_Note) lf way (qsM (rootL bs) (nL bs) (i + 1) m) = (0, qsM (rootL bs) (nL bs) (i + 1) m) := by
                refine handle_no _ _ _ _ _ rfl fun q hq => ?_
                obtain ⟨j, hj1, hj2, rfl⟩ := qsM_mem hq
                show j + 1 ≠ i + 1
                omega
              rw [hm0] at hs ⊢
              refine RdNow_y hs (Yd.ne _ _ _ _ _ _) ?_
              refine Cond_false ?_
              refine ⟨(rfl : @Eq (List Nat) _ _), ?_⟩
              refine Do_y hs (Yd.add _ _ _) ?_
              refine ⟨(rfl : @Eq (List Nat) _ _), ?_⟩
              refine ⟨⟨i + 1, sv3, by omega, rfl, rfl, rfl, rfl, rfl, rfl, rfl, ?_⟩, ?_⟩
              · rw [show k - (i + 1) = m by omega]
                exact hs.sub (by repeat (first | exact List.nil_sublist _ | exact List.Sublist.refl _ | exact List.sublist_append_left _ _ | apply List.Sublist.cons_cons | apply List.Sublist.cons))
              · show k - (i + 1) < k - i
                omega
            · intro k'' hk''
              refine Do_y hs (Yd.eq _ _ _ _ _ _) ?_
              refine Join_in ?_
              refine Guard_dec (fun hi0 => ?_) (fun hi0 => ?_)
              · obtain ⟨hl1, hl2⟩ := lateM_none (rootL bs) (nL bs) i wt (m + 1) hwt1
                refine Do_y hs (Yd.subW _ _ _) ?_
                refine late_ok (now := i + wt - 1) (wait := wt) hs (by omega) (by omega) fun v88 sv' w hs => ?_
                rw [hl1, hl2] at hs
                rw [decide_eq_true hi0]
                refine CallN_y hs (Yd.len (RowIn.own (by repeat (first | assumption | exact List.Mem.head _ | exact List.mem_append_left _ (by assumption) | apply List.Mem.tail)))) ?_
                refine Do_y hs (Yd.gtr _ _ _ _) ?_
                refine CallN_y hs (Yd.pickb _ _ _) ?_
                refine Cond_false ?_
                refine ⟨(rfl : @Eq (List Nat) _ _), ?_⟩
                exact hk'' _ _ ⟨rfl, rfl, rfl, rfl, rfl, rfl, rfl, rfl, sv', hs.drop⟩
              · rw [decide_eq_false hi0]
                refine CallN_y hs (Yd.pick false _ _) ?_
                refine Cond_false ?_
                refine ⟨(rfl : @Eq (List Nat) _ _), ?_⟩
                exact hk'' _ _ ⟨rfl, rfl, rfl, rfl, rfl, rfl, rfl, rfl, sv, hs⟩
          · obtain rfl : i = k := by omega
            refine ⟨(rfl : @Eq (List Nat) _ _), ?_⟩
            rw [Nat.sub_self] at hs
            exact hk' _ _ ⟨rfl, sv, hs.sub (by repeat (first | exact List.nil_sublist _ | exact List.Sublist.refl _ | exact List.sublist_append_left _ _ | apply List.Sublist.cons_cons | apply List.Sublist.cons))⟩
      · intro k' hk'
        refine Loop_in (fun e w => ∃ (i : Nat) (sv : SV) (vn : Value), i ≤ k ∧ e 0 = v ∧ e 8 = A a 0 ∧ e 9 = A b9 0 ∧ e 10 = I k ∧ e 11 = W wt ∧ e 12 = vn ∧ e 13 = I i ∧ St (box a TA (EA.f ⟨i, sv⟩) :: own EQ TQ sv.1 (qsM (rootL bs) (nL bs) 0 i) :: own EN TN vn (nsM (rootL bs) (nL bs) i) :: box b9 TI (EId.f (rootL bs)) :: L) w)
          (fun e w => k - intN (e 13)) ⟨0, sv0, NoSl, Nat.zero_le _, rfl, rfl, rfl, rfl, rfl, rfl, rfl, hs⟩ ?_
        rintro e w ⟨i, sv, vn, hi, c0, c8, c9, c10, c11, c12, c13, hs⟩
        obtain ⟨e, rfl⟩ := env7 c0 c8 c9 c10 c11 c12 c13
        refine JoinC_in ?_
        refine Do_y hs (Yd.lss _ _ _ _) ?_
        refine Cond_dec (fun h => ?_) (fun h => ?_)
        · have hokt : [tM (rootL bs) (nL bs) i].filter okT = [tM (rootL bs) (nL bs) i] := by
            have : okT (tM (rootL bs) (nL bs) i) = true := by
              unfold okT tM
              simp only [Bool.not_eq_true', decide_eq_false_iff_not]
              omega
            simp [this]
          have hleaf : i / [tM (rootL bs) (nL bs) i].length % (tM (rootL bs) (nL bs) i).Leaves.toNat = i % nL bs := by simp [tM]
          have hqS : qsM (rootL bs) (nL bs) 0 (i + 1) = qsM (rootL bs) (nL bs) 0 i ++ [asked (tM (rootL bs) (nL bs) i) (i + 1) (i % nL bs) i] := qsM_succ _ _ _
          have hnS : nsM (rootL bs) (nL bs) (i + 1) = nsM (rootL bs) (nL bs) i ++ [nM (rootL bs) (nL bs) i] := nsM_succ _ _ _
          have hql : (qsM (rootL bs) (nL bs) 0 i).length = i := by unfold qsM; simp
          have hnl2 : (nsM (rootL bs) (nL bs) i).length = i := by unfold nsM; simp
          refine ⟨(rfl : @Eq (List Nat) _ _), ?_⟩
          unfold F6_p5
          refine JoinC_in ?_
          refine Join_mid (fun e' w' => e' 0 = v ∧ e' 8 = A a 0 ∧ e' 9 = A b9 0 ∧ e' 10 = I k ∧ e' 11 = W wt ∧ e' 12 = vn ∧ e' 13 = I i ∧ ∃ (sv' : SV) (b15 : Nat), e' 15 = A b15 0 ∧ e' 16 = .bool true ∧ St (box b15 TN (EN.f (nM (rootL bs) (nL bs) i)) :: box a TA (EA.f ⟨i + 1, sv'⟩) :: own EQ TQ sv'.1 (qsM (rootL bs) (nL bs) 0 (i + 1)) :: own EN TN vn (nsM (rootL bs) (nL bs) i) :: box b9 TI (EId.f (rootL bs)) :: L) w') ?_ ?_
          · rintro e w ⟨c0, c8, c9, c10, c11, c12, c13, sv', b15, c15, c16, hs⟩
            obtain ⟨e, rfl⟩ := env9 c0 c8 c9 c10 c11 c12 c13 c15 c16
            refine JoinC_in ?_
            refine Do_y hs (Yd.not _) ?_
            refine Cond_false ?_
            refine ⟨(rfl : @Eq (List Nat) _ _), ?_⟩
            refine Do_y hs (Yd.ty (Gd.bE (by repeat (first | assumption | exact List.Mem.head _ | exact List.mem_append_left _ (by assumption) | apply List.Mem.tail)))) ?_
            refine st_row1 (E := EN) (e := TN) (bytes := 104) (x := nM (rootL bs) (nL bs) i) hs fun v70 w hs _ => ?_
            have hs := hs.pull 4 rfl; try simp only [List.nil_append, List.cons_append, List.eraseIdx_cons_succ, List.eraseIdx_cons_zero] at hs
            refine st_append (E := EN) (e := TN) (bytes := 104) (xs := nsM (rootL bs) (nL bs) i) (ys := [nM (rootL bs) (nL bs) i]) hs (RowIn.own (e := TN) (v := v70) (by repeat (first | assumption | exact List.Mem.head _ | exact List.mem_append_left _ (by assumption) | apply List.Mem.tail))) (fun v71 w hs => ?_) (List.Perm.refl _) (hm := by simp only [List.length_singleton]; omega) (hm2 := by simp only [List.length_singleton]; omega)
            rw [← hnS] at hs
            refine ⟨(rfl : @Eq (List Nat) _ _), ?_⟩
            refine Do_y hs (Yd.add _ _ _) ?_
            refine ⟨(rfl : @Eq (List Nat) _ _), ?_⟩
            have hs := hs.pull 5 rfl; have hs := hs.pull 1 rfl; have hs := hs.pull 5 rfl; have hs := hs.pull 5 rfl; try simp only [List.nil_append, List.cons_append, List.eraseIdx_cons_succ, List.eraseIdx_cons_zero] at hs
            refine ⟨⟨i + 1, sv', v71, by omega, rfl, rfl, rfl, rfl, rfl, rfl, rfl, hs.sub (by repeat (first | exact List.nil_sublist _ | exact List.Sublist.refl _ | exact List.sublist_append_left _ _ | apply List.Sublist.cons_cons | apply List.Sublist.cons))⟩, ?_⟩
            show k - (i + 1) < k - i
            omega
          · intro k'' hk''
            refine Drew_st hs fun w hs => ?_
            refine Draw_st2 hs [box b9 TI (EId.f (rootL bs))] [] (by repeat (first | exact List.nil_sublist _ | exact List.Sublist.refl _ | exact List.sublist_append_left _ _ | apply List.Sublist.cons_cons | apply List.Sublist.cons)) (by repeat (first | exact List.nil_sublist _ | exact List.Sublist.refl _ | exact List.sublist_append_left _ _ | apply List.Sublist.cons_cons | apply List.Sublist.cons)) ?_
            refine RdS_y (Yd.ty (Gd.bE (by repeat (first | assumption | exact List.Mem.head _ | exact List.mem_append_left _ (by assumption) | apply List.Mem.tail)))) ?_
            refine RdS_y (Yd.cNW _ _ _) ?_
            refine RdS_y (Yd.cNW _ _ _) ?_
            refine ⟨?_, ?_⟩
            · refine leaves_ok hs (by repeat (first | assumption | exact List.Mem.head _ | exact List.mem_append_left _ (by assumption) | apply List.Mem.tail)) (by omega) ⟨hs.sub (by repeat (first | exact List.nil_sublist _ | exact List.Sublist.refl _ | exact List.sublist_append_left _ _ | apply List.Sublist.cons_cons | apply List.Sublist.cons)), ?_⟩
              refine RdS_y (Yd.build (x := tM (rootL bs) (nL bs) i) (.cons (i : Int) rfl (.cons (rootL bs) rfl (.cons ((nL bs : Nat) : Int) rfl .nil)))) ?_
              refine ⟨?_, ?_⟩
              · refine st_row1 (E := ET) (e := 37) (bytes := 48) (x := tM (rootL bs) (nL bs) i) hs fun v57 w hs _ => ⟨hs.sub (by repeat (first | exact List.nil_sublist _ | exact List.Sublist.refl _ | exact List.sublist_append_left _ _ | apply List.Sublist.cons_cons | apply List.Sublist.cons)), ?_⟩
                have hs := hs.fix .here
                have hs := hs.pull 4 rfl; have hs := hs.pull 4 rfl; have hs := hs.pull 2 rfl; have hs := hs.pull 4 rfl; have hs := hs.pull 4 rfl; try simp only [List.nil_append, List.cons_append, List.eraseIdx_cons_succ, List.eraseIdx_cons_zero] at hs
                refine ⟨?_, ?_⟩
                · refine draw_ok (ts := [tM (rootL bs) (nL bs) i]) (lot := i) (now := i) hs (by repeat (first | assumption | exact List.Mem.head _ | exact List.mem_append_left _ (by assumption) | apply List.Mem.tail)) (by simp) (by rw [hql]; omega) (by omega) (by omega) (fun h => absurd h (by rw [hokt]; simp)) fun t sv' w htt hs => ?_
                  rw [hokt] at htt hs ⊢
                  obtain rfl : tM (rootL bs) (nL bs) i = t := by simpa [Nat.mod_one] using htt
                  rw [hleaf, ← hqS] at hs
                  rw [hleaf]
                  refine ⟨hs.sub (by repeat (first | exact List.nil_sublist _ | exact List.Sublist.refl _ | exact List.sublist_append_left _ _ | apply List.Sublist.cons_cons | apply List.Sublist.cons)), hs.sub (by repeat (first | exact List.nil_sublist _ | exact List.Sublist.refl _ | exact List.sublist_append_left _ _ | apply List.Sublist.cons_cons | apply List.Sublist.cons)), ?_⟩
                  refine RdS_y (Yd.ext _ _ _) ?_
                  refine RdS_y (Yd.ext _ _ _) ?_
                  refine RdS_y (Yd.ext _ _ _) ?_
                  refine st_new hs fun b15 w hs => ⟨hs.sub (by repeat (first | exact List.nil_sublist _ | exact List.Sublist.refl _ | exact List.sublist_append_left _ _ | apply List.Sublist.cons_cons | apply List.Sublist.cons)), hs.sub (by repeat (first | exact List.nil_sublist _ | exact List.Sublist.refl _ | exact List.sublist_append_left _ _ | apply List.Sublist.cons_cons | apply List.Sublist.cons)), ?_⟩
                  refine st_ty (y := nM (rootL bs) (nL bs) i) hs .here (fun w hs => ⟨hs.sub (by repeat (first | exact List.nil_sublist _ | exact List.Sublist.refl _ | exact List.sublist_append_left _ _ | apply List.Sublist.cons_cons | apply List.Sublist.cons)), ?_⟩)
                  have hs := hs.pull 5 rfl; have hs := hs.pull 5 rfl; have hs := hs.pull 4 rfl; have hs := hs.pull 4 rfl; have hs := hs.pull 4 rfl; try simp only [List.nil_append, List.cons_append, List.eraseIdx_cons_succ, List.eraseIdx_cons_zero] at hs
                  exact hk'' _ _ ⟨rfl, rfl, rfl, rfl, rfl, rfl, rfl, sv', b15, rfl, rfl, hs.sub (by repeat (first | exact List.nil_sublist _ | exact List.Sublist.refl _ | exact List.sublist_append_left _ _ | apply List.Sublist.cons_cons | apply List.Sublist.cons))⟩
                · refine st_new hs fun b15 w hs => ⟨hs.sub (by repeat (first | exact List.nil_sublist _ | exact List.Sublist.refl _ | exact List.sublist_append_left _ _ | apply List.Sublist.cons_cons | apply List.Sublist.cons)), hs.sub (by repeat (first | exact List.nil_sublist _ | exact List.Sublist.refl _ | exact List.sublist_append_left _ _ | apply List.Sublist.cons_cons | apply List.Sublist.cons)), ?_⟩
                  have hs := hs.pull 5 rfl; have hs := hs.pull 5 rfl; have hs := hs.pull 2 rfl; have hs := hs.pull 5 rfl; have hs := hs.pull 5 rfl; have hs := hs.pull 5 rfl; try simp only [List.nil_append, List.cons_append, List.eraseIdx_cons_succ, List.eraseIdx_cons_zero] at hs
                  refine draw_ok (ts := [tM (rootL bs) (nL bs) i]) (lot := i) (now := i) hs (by repeat (first | assumption | exact List.Mem.head _ | exact List.mem_append_left _ (by assumption) | apply List.Mem.tail)) (by simp) (by rw [hql]; omega) (by omega) (by omega) (fun h => absurd h (by rw [hokt]; simp)) fun t sv' w htt hs => ?_
                  rw [hokt] at htt hs ⊢
                  obtain rfl : tM (rootL bs) (nL bs) i = t := by simpa [Nat.mod_one] using htt
                  rw [hleaf, ← hqS] at hs
                  rw [hleaf]
                  refine ⟨hs.sub (by repeat (first | exact List.nil_sublist _ | exact List.Sublist.refl _ | exact List.sublist_append_left _ _ | apply List.Sublist.cons_cons | apply List.Sublist.cons)), ?_⟩
                  refine RdNow_y hs (Yd.ext _ _ _) ?_
                  refine RdNow_y hs (Yd.ext _ _ _) ?_
                  refine RdS_y (Yd.ext _ _ _) ?_
                  refine st_ty (y := nM (rootL bs) (nL bs) i) hs (by repeat (first | exact Upd.here | apply Upd.there)) (fun w hs => ⟨hs.sub (by repeat (first | exact List.nil_sublist _ | exact List.Sublist.refl _ | exact List.sublist_append_left _ _ | apply List.Sublist.cons_cons | apply List.Sublist.cons)), ?_⟩)
                  have hs := hs.pull 5 rfl; have hs := hs.pull 5 rfl; have hs := hs.pull 3 rfl; have hs := hs.pull 3 rfl; have hs := hs.pull 5 rfl; try simp only [List.nil_append, List.cons_append, List.eraseIdx_cons_succ, List.eraseIdx_cons_zero] at hs
                  exact hk'' _ _ ⟨rfl, rfl, rfl, rfl, rfl, rfl, rfl, sv', b15, rfl, rfl, hs.sub (by repeat (first | exact List.nil_sublist _ | exact List.Sublist.refl _ | exact List.sublist_append_left _ _ | apply List.Sublist.cons_cons | apply List.Sublist.cons))⟩
              · refine st_new hs fun b15 w hs => ⟨hs.sub (by repeat (first | exact List.nil_sublist _ | exact List.Sublist.refl _ | exact List.sublist_append_left _ _ | apply List.Sublist.cons_cons | apply List.Sublist.cons)), hs.sub (by repeat (first | exact List.nil_sublist _ | exact List.Sublist.refl _ | exact List.sublist_append_left _ _ | apply List.Sublist.cons_cons | apply List.Sublist.cons)), ?_⟩
                refine st_row1 (E := ET) (e := 37) (bytes := 48) (x := tM (rootL bs) (nL bs) i) hs fun v57 w hs _ => ⟨hs.sub (by repeat (first | exact List.nil_sublist _ | exact List.Sublist.refl _ | exact List.sublist_append_left _ _ | apply List.Sublist.cons_cons | apply List.Sublist.cons)), ?_⟩
                have hs := hs.fix .here
                have hs := hs.pull 5 rfl; have hs := hs.pull 5 rfl; have hs := hs.pull 3 rfl; have hs := hs.pull 3 rfl; have hs := hs.pull 5 rfl; have hs := hs.pull 5 rfl; try simp only [List.nil_append, List.cons_append, List.eraseIdx_cons_succ, List.eraseIdx_cons_zero] at hs
                refine draw_ok (ts := [tM (rootL bs) (nL bs) i]) (lot := i) (now := i) hs (by repeat (first | assumption | exact List.Mem.head _ | exact List.mem_append_left _ (by assumption) | apply List.Mem.tail)) (by simp) (by rw [hql]; omega) (by omega) (by omega) (fun h => absurd h (by rw [hokt]; simp)) fun t sv' w htt hs => ?_
                rw [hokt] at htt hs ⊢
                obtain rfl : tM (rootL bs) (nL bs) i = t := by simpa [Nat.mod_one] using htt
                rw [hleaf, ← hqS] at hs
                rw [hleaf]
                refine ⟨hs.sub (by repeat (first | exact List.nil_sublist _ | exact List.Sublist.refl _ | exact List.sublist_append_left _ _ | apply List.Sublist.cons_cons | apply List.Sublist.cons)), ?_⟩
                refine RdNow_y hs (Yd.ext _ _ _) ?_
                refine RdNow_y hs (Yd.ext _ _ _) ?_
                refine RdS_y (Yd.ext _ _ _) ?_
                refine st_ty (y := nM (rootL bs) (nL bs) i) hs (by repeat (first | exact Upd.here | apply Upd.there)) (fun w hs => ⟨hs.sub (by repeat (first | exact List.nil_sublist _ | exact List.Sublist.refl _ | exact List.sublist_append_left _ _ | apply List.Sublist.cons_cons | apply List.Sublist.cons)), ?_⟩)
                have hs := hs.pull 5 rfl; have hs := hs.pull 5 rfl; have hs := hs.pull 3 rfl; have hs := hs.pull 3 rfl; have hs := hs.pull 5 rfl; try simp only [List.nil_append, List.cons_append, List.eraseIdx_cons_succ, List.eraseIdx_cons_zero] at hs
                exact hk'' _ _ ⟨rfl, rfl, rfl, rfl, rfl, rfl, rfl, sv', b15, rfl, rfl, hs.sub (by repeat (first | exact List.nil_sublist _ | exact List.Sublist.refl _ | exact List.sublist_append_left _ _ | apply List.Sublist.cons_cons | apply List.Sublist.cons))⟩
            · refine st_new hs fun b15 w hs => ⟨hs.sub (by repeat (first | exact List.nil_sublist _ | exact List.Sublist.refl _ | exact List.sublist_append_left _ _ | apply List.Sublist.cons_cons | apply List.Sublist.cons)), hs.sub (by repeat (first | exact List.nil_sublist _ | exact List.Sublist.refl _ | exact List.sublist_append_left _ _ | apply List.Sublist.cons_cons | apply List.Sublist.cons)), ?_⟩
              refine leaves_ok hs (by repeat (first | assumption | exact List.Mem.head _ | exact List.mem_append_left _ (by assumption) | apply List.Mem.tail)) (by omega) ⟨hs.sub (by repeat (first | exact List.nil_sublist _ | exact List.Sublist.refl _ | exact List.sublist_append_left _ _ | apply List.Sublist.cons_cons | apply List.Sublist.cons)), ?_⟩
              refine RdS_y (Yd.build (x := tM (rootL bs) (nL bs) i) (.cons (i : Int) rfl (.cons (rootL bs) rfl (.cons ((nL bs : Nat) : Int) rfl .nil)))) ?_
              refine st_row1 (E := ET) (e := 37) (bytes := 48) (x := tM (rootL bs) (nL bs) i) hs fun v57 w hs _ => ⟨hs.sub (by repeat (first | exact List.nil_sublist _ | exact List.Sublist.refl _ | exact List.sublist_append_left _ _ | apply List.Sublist.cons_cons | apply List.Sublist.cons)), ?_⟩
              have hs := hs.fix .here
              have hs := hs.pull 5 rfl; have hs := hs.pull 5 rfl; have hs := hs.pull 3 rfl; have hs := hs.pull 3 rfl; have hs := hs.pull 5 rfl; have hs := hs.pull 5 rfl; try simp only [List.nil_append, List.cons_append, List.eraseIdx_cons_succ, List.eraseIdx_cons_zero] at hs
              refine draw_ok (ts := [tM (rootL bs) (nL bs) i]) (lot := i) (now := i) hs (by repeat (first | assumption | exact List.Mem.head _ | exact List.mem_append_left _ (by assumption) | apply List.Mem.tail)) (by simp) (by rw [hql]; omega) (by omega) (by omega) (fun h => absurd h (by rw [hokt]; simp)) fun t sv' w htt hs => ?_
              rw [hokt] at htt hs ⊢
              obtain rfl : tM (rootL bs) (nL bs) i = t := by simpa [Nat.mod_one] using htt
              rw [hleaf, ← hqS] at hs
              rw [hleaf]
              refine ⟨hs.sub (by repeat (first | exact List.nil_sublist _ | exact List.Sublist.refl _ | exact List.sublist_append_left _ _ | apply List.Sublist.cons_cons | apply List.Sublist.cons)), ?_⟩
              refine RdNow_y hs (Yd.ext _ _ _) ?_
              refine RdNow_y hs (Yd.ext _ _ _) ?_
              refine RdS_y (Yd.ext _ _ _) ?_
              refine st_ty (y := nM (rootL bs) (nL bs) i) hs (by repeat (first | exact Upd.here | apply Upd.there)) (fun w hs => ⟨hs.sub (by repeat (first | exact List.nil_sublist _ | exact List.Sublist.refl _ | exact List.sublist_append_left _ _ | apply List.Sublist.cons_cons | apply List.Sublist.cons)), ?_⟩)
              have hs := hs.pull 5 rfl; have hs := hs.pull 5 rfl; have hs := hs.pull 3 rfl; have hs := hs.pull 3 rfl; have hs := hs.pull 5 rfl; try simp only [List.nil_append, List.cons_append, List.eraseIdx_cons_succ, List.eraseIdx_cons_zero] at hs
              exact hk'' _ _ ⟨rfl, rfl, rfl, rfl, rfl, rfl, rfl, sv', b15, rfl, rfl, hs.sub (by repeat (first | exact List.nil_sublist _ | exact List.Sublist.refl _ | exact List.sublist_append_left _ _ | apply List.Sublist.cons_cons | apply List.Sublist.cons))⟩
        · obtain rfl : i = k := by omega
          refine ⟨(rfl : @Eq (List Nat) _ _), ?_⟩
          exact hk' _ _ ⟨rfl, rfl, rfl, rfl, rfl, sv, vn, rfl, hs⟩
  · rw [decide_eq_true q0]
    refine CallN_y hs (Yd.pick true _ _) ?_
    refine Cond_true ?_
    exact hk _ hs
end Go.Px
end
section
set_option linter.unusedVariables false
set_option linter.unusedSimpArgs false
set_option linter.unusedVariables false
set_option maxRecDepth 100000
namespace Go.Px
open Go Go.Proofs Go.ChangeShapes Go.WideShapes Go.ChangeAt Go.RowKit Go.WideMaps Go.WideElems Go.Proofs.YtbndemefjckenaaDoor
theorem gRounds : Tryd.prog.globalNamed "bailee/digest.rounds" = some 0 := by kernel_rfl
theorem tRounds : (Tryd.prog.globals[0]?).map (·.type) = some 112 := by kernel_rfl
theorem cRounds : Tryd.prog.cellsOf 112 = 64 := by kernel_rfl
theorem cU32 : Tryd.prog.cellsOf 110 = 1 := by kernel_rfl
theorem own_knob : ownKnob Tryd.prog.godebug = none := by kernel_rfl
theorem laid_out : laidOutB Tryd.prog = true := by kernel_rfl
theorem door_met (os : Os) (args : Array Value) : laidMetH Tryd.prog [("bailee/digest.rounds", Rows.laid_bailee_digest_rounds)] ((World.doorLaid Tryd.prog 400 os).forCall (fun _ _ => 0) ⟨#[], args, []⟩).memory :=
  laidMetH_of_parts3 (fuel := 8) (laidMet_of_run' 8 (by kernel_rfl) (by kernel_rfl)) (by kernel_rfl) (by kernel_rfl)
theorem of_laid {W : World} (h : laidMetH Tryd.prog [("bailee/digest.rounds", Rows.laid_bailee_digest_rounds)] W) : ∃ e0, Has W 0 e0 (ksL.map U) := by
  rw [MakeChecks.laidMetH_plain _ _ _ (by kernel_rfl)] at h
  obtain ⟨ps, ⟨g, t, cs, fuel, p, q, hg, ht, hv, hd, _, hps⟩, _, hcell⟩ := h
  obtain rfl := Option.some.inj (gRounds.symm.trans hg)
  obtain rfl := Option.some.inj (tRounds.symm.trans ht)
  obtain ⟨xs, m, rfl, hx, hlen, hn, hel⟩ := DataW.trod_array Tryd.underlying112 hd
  rw [cRounds] at hlen
  obtain ⟨⟨c, e0, h0⟩, _⟩ := hcell 0 0 (by
    rw [hps]
    refine List.mem_append_left _ (List.mem_append_left _ ?_)
    unfold MemPlace.row
    rw [← Array.length_toList, hlen]
    simp)
  have hcs : cs = c := by
    simp only [World.var?, gRounds, Option.bind_some, h0, Option.some.injEq] at hv
    exact hv.symm
  subst hcs
  refine ⟨e0, ?_⟩
  have hx1 : xs.map (·.1) = ksL.map fun n : Nat => (DataW.lit (.int .u32 (n : Int)) : DataW Unit) := by
    simp only [Prod.mk.injEq] at hx
    have := hx.1
    unfold Rows.laid_bailee_digest_rounds at this
    exact (DataW.agg.inj this).symm
  have hcl : cs.toList = ksL.map U := by
    refine List.ext_getElem? fun i => ?_
    by_cases hi : i < 64
    · have h1 := hel i hi
      rw [cU32, Nat.mul_one] at h1
      obtain ⟨x, hxi⟩ : ∃ x, xs[i]? = some x := ⟨xs[i]'(by omega), List.getElem?_eq_getElem (by omega)⟩
      rw [hxi] at h1
      obtain ⟨n, e1, e2, _⟩ := DataW.trod_int Tryd.underlying110 h1
      have h2 : (xs.map (·.1))[i]? = some (.lit (.int .u32 n)) := by rw [List.getElem?_map, hxi, e2]; rfl
      rw [hx1, List.getElem?_map, Option.map_eq_some_iff] at h2
      obtain ⟨k, hk1, hk2⟩ := h2
      have hkn : (k : Int) = n := by simpa using hk2
      rw [List.getElem?_map, hk1]
      have h3 : cs.toList[i]? = some (.int .u32 n) := by
        have h4 : ((cs.toList.drop i).take 1)[0]? = some (.int .u32 n) := by rw [e1]; rfl
        rw [List.getElem?_take_of_lt (by decide), List.getElem?_drop] at h4
        simpa using h4
      rw [h3, ← hkn]
      rfl
    · rw [List.getElem?_eq_none (by omega), List.getElem?_eq_none (by rw [List.length_map]; show 64 ≤ i; omega)]
  unfold Has
  rw [h0, ← hcl]
theorem slice_spot {W : World} {base : Nat} {t e : TypeId} {x : Addr} {len cap : Nat} (ht : Tryd.prog.underlying t = some (.slice e)) (h : Value.okWide Tryd.prog W .any base t (.slice (some x) len cap)) : x.spot = none := by
  unfold Value.okWide Cell.okWide Cell.ok World.has at h
  rw [ht] at h
  exact h.2.2.2.1
/-- A slice of bytes that came in. -/
theorem row_in {W : World} {a : Option Addr} {len cap : Nat} {zs : List Int} (h : (a = none ∧ len = 0 ∧ cap = 0 ∧ zs = []) ∨ ∃ x, a = some x ∧ len ≤ cap ∧ cap ≤ maxLen ∧ zs.length = cap ∧ (∀ i, i < zs.length → W.cell? (x.add i) = some (.int .u8 (zs.getD i 0))) ∧ ∀ n ∈ zs, (Lit.int .u8 n).wf = true)
    (hsp : ∀ x, a = some x → x.spot = none) : ∃ bs : List Nat, (rows EY (.slice a len cap) bs).holds W ∧ B8 bs ∧ bs.length = len ∧ len ≤ maxLen := by
  rcases h with ⟨rfl, rfl, rfl, rfl⟩ | ⟨x, rfl, h1, h2, h3, h4, h5⟩
  · exact ⟨[], Sl.nil _ _, .nil, rfl, Nat.zero_le _⟩
  · obtain ⟨b, o, spot⟩ := x
    obtain rfl : spot = none := hsp _ rfl
    have hlen : ((zs.take len).map Int.toNat).length = len := by rw [List.length_map, List.length_take]; omega
    have hget : ∀ j, j < len → ∃ z, zs[j]? = some z ∧ 0 ≤ z ∧ z < 256 := fun j hj => by
      have hz : zs[j]? = some (zs[j]'(by omega)) := List.getElem?_eq_getElem (by omega)
      have hb := bounds_u8 (h5 _ (List.mem_of_getElem? hz))
      exact ⟨_, hz, by omega, by omega⟩
    refine ⟨(zs.take len).map Int.toNat, ?_, ?_, hlen, by omega⟩
    · refine ⟨?_, .inr ⟨b, o, cap, by rw [hlen], by rw [hlen]; exact h1, ?_⟩⟩
      · rw [Enc.length]
      · intro j u hu
        have hfl : ((zs.take len).map Int.toNat).flatMap EY.f = ((zs.take len).map Int.toNat).map Y := flat_one Y _
        rw [hfl, List.getElem?_map, List.getElem?_map] at hu
        have hj : j < len := by
          rcases Nat.lt_or_ge j len with h | h
          · exact h
          · rw [List.getElem?_eq_none (by rw [List.length_take]; omega)] at hu
            cases hu
        obtain ⟨z, hz, z1, z2⟩ := hget j hj
        rw [List.getElem?_take_of_lt hj, hz] at hu
        have h6 := h4 j (by omega)
        rw [List.getD_eq_getElem?_getD, hz] at h6
        simp only [Option.map_some, Option.some.injEq] at hu
        rw [← hu]
        have e1 : ((z.toNat : Nat) : Int) = z := by omega
        show W.cell? ⟨b, o + j, none⟩ = some (.int .u8 ((z.toNat : Nat) : Int))
        rw [e1]
        rw [Go.WideShapes.add_plain] at h6
        simpa using h6
    · intro c hc
      obtain ⟨z, hz, rfl⟩ := List.mem_map.1 hc
      have hb := bounds_u8 (h5 z (List.mem_of_mem_take hz))
      omega
/-- What a call of ours starts with. -/
theorem st_first {W : World} {e0 : TypeId} (h : Has W 0 e0 (ksL.map U)) : St [old W, G0 e0] W := by
  refine St.add (x := old W) ?_ (Ext.refl _ W) ?_
  · refine ⟨fun x hx => ?_, List.pairwise_singleton _ _⟩
    obtain rfl := List.mem_singleton.1 hx
    exact h
  · intro y hy he k h1 h2
    obtain rfl := List.mem_singleton.1 hy
    exact absurd (show (false || false) = true from he) (by decide)
theorem St.came {α : Type} {L : List Item} {w W : World} {E : Enc α} {v : Value} {xs : List α} (hs : St L w) (ho : old W ∈ L) (h : (rows E v xs).holds W) : St (rows E v xs :: L) w := by
  have hold : (old W).holds w := hs.get ho
  have h' : Sl W v E.k xs.length (xs.flatMap E.f) := h
  refine hs.ro ((rows E v xs).stable h hold fun k hk hM => ?_) rfl fun k hk => ⟨old W, ho, rfl, ?_⟩
  · have := (rows E v xs).lt h hk
    omega
  · exact (rows E v xs).lt h hk
theorem below_of {L : List Item} {w W : World} (hs : St L w) (ho : old W ∈ L) : Below W.heap.size W w := by
  have h : Ext (fun k => W.heap.size ≤ k) W w := hs.get ho
  exact ⟨h.os, h.tape, h.output, h.size, fun k hk => h.block k hk (by omega)⟩
end Go.Px
end
