/- The table of keys: what it holds, how it lies on the heap, its functions. Condition where levels are searched: the listed table's variable holds it. -/
import Derived.Test.YticiljgbjdcmlaaDoorSKeyM
import Derived.Test.YticiljgbjdcmlaaDoorSImport
import Derived.Test.YticiljgbjdcmlaaDoorDWalks
namespace Go.Proofs.YticiljgbjdcmlaaDoor
open Go.EG
attribute [local irreducible] CallK QCall Go.Calls
set_option linter.unusedSimpArgs false
set_option linter.unusedVariables false
set_option maxRecDepth 20000
set_option maxHeartbeats 1000000

structure TabG (E : List Entr) where
  rows : List Krow
  ok : TI E rows
  a : Option Addr
  c : Nat
/-- How a table lies on the heap. -/
def fT (bt bs : Nat) (E : List Entr) (x : TabG E) : List Ent :=
  [.box 2000 bt [pS bs, .slice x.a x.rows.length x.c] ty_keys_Table, .own 2001 x.a x.rows.length x.c ty_keys_row 3 (krsC x.rows)]
theorem fT_eq (bt bs : Nat) (E : List Entr) (rows : List Krow) (ok : TI E rows) (a : Option Addr) (c : Nat) : fT bt bs E ⟨rows, ok, a, c⟩ = [.box 2000 bt [pS bs, .slice a rows.length c] ty_keys_Table, .own 2001 a rows.length c ty_keys_row 3 (krsC rows)] := rfl

/-- The listed table, as a callee reads it that is handed blocks. -/
abbrev TabF (w : World) (fp : List Nat) : Prop := In w fp (some ⟨0, 0, none⟩) (ints .u8 tabI)

theorem rdP {w0 : World} {fp0 : List Nat} {L : List Ent} {g : Nat} {xs : List Value} {i : Nat} {v : Value} (hx : In w0 fp0 (some ⟨g, 0, none⟩) xs) (h : xs[i]? = some v) : Rd w0 fp0 L (.v (.pointer (some ((⟨g, 0, none⟩ : Addr).add i)))) [v] :=
  hx.rd h
theorem calls_compute (S : Sto) (hw : WF S) (n : Int) (h1 : 1 ≤ n) (h2 : n ≤ S.E.length) (ht : (atE S.E n).r.t ≤ 9223372036854775807) (bt bs : Nat) (rows : List Krow) (hT : TI S.E rows) (a : Option Addr) (c : Nat)
    (ha : (atE S.E n).r.a < rows.length) (hb : (atE S.E n).r.b < rows.length) (ka : 1 ≤ (atE S.E n).r.a → rows.getD (atE S.E n).r.a.toNat row0 = rowT (tm S.E (atE S.E n).r.a)) (kb : 1 ≤ (atE S.E n).r.b → rows.getD (atE S.E n).r.b.toNat row0 = rowT (tm S.E (atE S.E n).r.b))
    (w : World) (hbox : In w [] (some ⟨bt, 0, none⟩) [pS bs, .slice a rows.length c]) (hrow : In w [] a (krsC rows)) (hG : Tab w) :
    Calls Tryd.prog fn_P_keys_Table_compute #[pS bt, ruV (atE S.E n).r] w fun e w' => e = .returned (.agg (krC (rowT (tm S.E n))).toArray) ∧ Ext w w' := by
  refine pure_call [.v (pS bt), .v (ruV (atE S.E n).r)] w ok_P_keys_Table_compute (by simp) ?_
  obtain ⟨hr, hl, htm, _, _⟩ := hw.at_ h1 h2
  have e0 : ∀ i : Int, i = 0 → (rows.getD i.toNat row0).1 = (tm S.E i).key ∧ (rows.getD i.toNat row0).2.1 = (tm S.E i).level := fun i hi => by
    subst hi
    have := hT.at0 (by rcases hr with h | h | h <;> omega)
    rw [show (0 : Int).toNat = 0 from rfl, this]; exact ⟨rfl, rfl⟩
  have ea : (rows.getD (atE S.E n).r.a.toNat row0).1 = (tm S.E (atE S.E n).r.a).key ∧ (rows.getD (atE S.E n).r.a.toNat row0).2.1 = (tm S.E (atE S.E n).r.a).level := by
    by_cases h : 1 ≤ (atE S.E n).r.a
    · rw [ka h]; exact ⟨rfl, rfl⟩
    · exact e0 _ (by rcases hr with h | h | h <;> omega)
  have eb : (rows.getD (atE S.E n).r.b.toNat row0).1 = (tm S.E (atE S.E n).r.b).key ∧ (rows.getD (atE S.E n).r.b.toNat row0).2.1 = (tm S.E (atE S.E n).r.b).level := by
    by_cases h : 1 ≤ (atE S.E n).r.b
    · rw [kb h]; exact ⟨rfl, rfl⟩
    · exact e0 _ (by rcases hr with h | h | h <;> omega)
  have hinj := fun q1 q2 q3 q4 => hw.inj_iff (i := (atE S.E n).r.a) (j := (atE S.E n).r.b) q1 q2 q3 q4
  have la : 0 ≤ (atE S.E n).r.a ∧ (atE S.E n).r.a < n := by rcases hr with h | h | h <;> omega
  have lb : 0 ≤ (atE S.E n).r.b ∧ (atE S.E n).r.b < n := by rcases hr with h | h | h <;> omega
  have va := hw.lev' la.1 (by omega)
  have vb := hw.lev' lb.1 (by omega)
  have ba := (tm S.E (atE S.E n).r.a).key_lt'
  have bb := (tm S.E (atE S.E n).r.b).key_lt'
  rw [htm]
  unfold mkT
  generalize (atE S.E n).r = r at *
  simp only [okR] at hr
  have hne := hrow.ne' (k := 0) (by rw [krsC_length]; omega)
  have rda := fun {L : List Ent} => hrow.rdn (L := L) (vs := krC (rows.getD r.a.toNat row0)) (k := r.a.toNat * 3) (Nat.succ_pos _) (krsC_at (by omega))
  have rdb := fun {L : List Ent} => hrow.rdn (L := L) (vs := krC (rows.getD r.b.toNat row0)) (k := r.b.toNat * 3) (Nat.succ_pos _) (krsC_at (by omega))
  have rds := fun {L : List Ent} => rdP (L := L) hbox (i := 1) rfl
  obtain ⟨ea1, ea2⟩ := ea
  obtain ⟨eb1, eb2⟩ := eb
  generalize rows.getD r.a.toNat row0 = xa at *
  generalize rows.getD r.b.toNat row0 = xb at *
  generalize tm S.E r.a = ta at *
  generalize tm S.E r.b = tb at *
  rw [← ea1] at ba
  rw [← eb1] at bb
  rw [← ea2] at va
  rw [← eb2] at vb
  rcases hr with ⟨e1, e2, e3, e4, _⟩ | ⟨e1, e2, e3, e4, e5, e6, e7⟩ | ⟨e1, e2, e3, e4, e5, e6⟩
  · rw [if_pos e1]
    have c1 := calls_mMix 1 r.l.toNat 0 (by decide) (by omega) (by decide)
    have q : r.l % 18446744073709551616 = (r.l.toNat : Int) := by omega
    (repeat' ((conv => whnf); first | rw [q] | refine ⟨_, _, _, rds, ?_⟩ | refine ⟨_, ⟨rfl, trivial⟩, ?_⟩ | refine ⟨_, rfl, rda, ?_⟩ | refine ⟨_, rfl, rdb, ?_⟩ | (refine CallK_pure (.v _) (fun w hR => c1 w) ?_) | refine stop_and ?_ ?_ | (refine bcase_prop (fun h => ?_) (fun h => ?_) <;> try (exfalso; omega)) | (refine bcase_nprop (fun h => ?_) (fun h => ?_) <;> try (exfalso; omega)) | (refine bcase_intro (fun h => ?_) (fun h => ?_) <;> (try simp only [Bool.not_eq_true', Bool.not_eq_false', decide_eq_true_eq, decide_eq_false_iff_not, Bool.not_eq_true, Bool.not_eq_false, Decidable.not_not] at h)) | refine And.intro (by first | omega | exact rfl | assumption | exact ⟨rfl, rfl, rfl, rfl, rfl⟩ | exact ⟨rfl, rfl, rfl, rfl⟩ | exact ⟨rfl, by omega⟩ | exact oneAll_of rfl | exact ⟨rfl, oneAll_of rfl⟩ | exact Ref.refl _ | exact Thin.ref (.skip (Thin.refl _)) | exact Thin.ref (.skip (.skip (Thin.refl _))) | exact hne | exact Option.some_ne_none _ | (intro _; exact Thin.ref (by (repeat (first | exact Thin.nil _ | exact Thin.refl _ | refine Thin.keep rfl (fun _ h => h) ?_ | refine Thin.skip ?_)))) | exact ⟨rfl, Nat.le_of_ble_eq_true rfl⟩ | ((try unfold maxLen); (try simp only [List.length_nil, List.length_cons, List.length_append]); omega) | (refine ⟨rfl, ?_⟩; (try simp only [List.length_nil, List.length_cons, List.length_append]); omega)) ?_ | intro _)); (all_goals (conv => whnf))
    all_goals exact ⟨rfl⟩
  · rw [if_neg (by omega), if_pos e1]
    have c1 := calls_mMix 2 xa.1 xb.1 (by decide) ba bb
    have c2 := fun (h1 : 0 ≤ xa.2.1) (h2 : 0 ≤ xb.2.1) => calls_after (max xa.2.1 xb.2.1).toNat xa.1 xb.1 (by omega) ba bb
    have em : 0 ≤ xa.2.1 → ((max xa.2.1 xb.2.1).toNat : Int) = max xa.2.1 xb.2.1 := fun h => by omega
    have hi := hinj e4 (by omega) e6 (by omega)
    have hlv : (Tm.pr ta tb).level = if ta ≠ tb ∧ 0 ≤ ta.level ∧ 0 ≤ tb.level then afterF (max ta.level tb.level) ta.key tb.key else -1 := rfl
    have hky : (Tm.pr ta tb).key = mixN 2 ta.key tb.key := rfl
    unfold rowT
    rw [hlv, hky, ← ea1, ← ea2, ← eb1, ← eb2]
    clear hlv hky
    (repeat' ((conv => whnf); first | refine ⟨_, _, _, rds, ?_⟩ | refine ⟨_, ⟨rfl, trivial⟩, ?_⟩ | refine ⟨_, rfl, rda, ?_⟩ | refine ⟨_, rfl, rdb, ?_⟩ | (refine CallK_pure (.v _) (fun w hR => c1 w) ?_) | (rw [← em (by omega)]; refine CallK_pure (.v _) (fun w hR => c2 (by omega) (by omega) w (hG.cast hR (by simp))) ?_) | refine stop_and ?_ ?_ | (refine bcase_prop (fun h => ?_) (fun h => ?_) <;> try (exfalso; omega)) | (refine bcase_nprop (fun h => ?_) (fun h => ?_) <;> try (exfalso; omega)) | (refine bcase_intro (fun h => ?_) (fun h => ?_) <;> (try simp only [Bool.not_eq_true', Bool.not_eq_false', decide_eq_true_eq, decide_eq_false_iff_not, Bool.not_eq_true, Bool.not_eq_false, Decidable.not_not] at h)) | refine And.intro (by first | omega | exact rfl | assumption | exact ⟨rfl, rfl, rfl, rfl, rfl⟩ | exact ⟨rfl, rfl, rfl, rfl⟩ | exact ⟨rfl, by omega⟩ | exact oneAll_of rfl | exact ⟨rfl, oneAll_of rfl⟩ | exact Ref.refl _ | exact Thin.ref (.skip (Thin.refl _)) | exact Thin.ref (.skip (.skip (Thin.refl _))) | exact hne | exact Option.some_ne_none _ | (intro _; exact Thin.ref (by (repeat (first | exact Thin.nil _ | exact Thin.refl _ | refine Thin.keep rfl (fun _ h => h) ?_ | refine Thin.skip ?_)))) | exact ⟨rfl, Nat.le_of_ble_eq_true rfl⟩ | ((try unfold maxLen); (try simp only [List.length_nil, List.length_cons, List.length_append]); omega) | (refine ⟨rfl, ?_⟩; (try simp only [List.length_nil, List.length_cons, List.length_append]); omega)) ?_ | intro _)); (all_goals (conv => whnf))
    all_goals (refine ⟨?_⟩; first | (rw [if_pos ⟨fun h => absurd (hi.1 h) (by omega), by omega, by omega⟩, em (by omega)]; exact rfl) | (rw [if_neg (fun h => by omega)]; exact rfl) | (rw [if_neg (fun h => h.1 (hi.2 (by omega)))]; exact rfl))
  · rw [if_neg (by omega), if_neg (by omega)]
    have c1 := calls_mMix 3 xa.1 r.t.toNat (by decide) ba (by omega)
    have q : r.t % 18446744073709551616 = (r.t.toNat : Int) := by omega
    have hlv : (Tm.pw ta r.t.toNat).level = if 0 ≤ ta.level ∧ ta.level % 2 = 0 then ta.level + 1 else -1 := rfl
    have hky : (Tm.pw ta r.t.toNat).key = mixN 3 ta.key r.t.toNat := rfl
    unfold rowT
    rw [hlv, hky, ← ea1, ← ea2]
    clear hlv hky
    (repeat' ((conv => whnf); first | rw [q] | refine ⟨_, _, _, rds, ?_⟩ | refine ⟨_, ⟨rfl, trivial⟩, ?_⟩ | refine ⟨_, rfl, rda, ?_⟩ | refine ⟨_, rfl, rdb, ?_⟩ | (refine CallK_pure (.v _) (fun w hR => c1 w) ?_) | refine stop_and ?_ ?_ | (refine bcase_prop (fun h => ?_) (fun h => ?_) <;> try (exfalso; omega)) | (refine bcase_nprop (fun h => ?_) (fun h => ?_) <;> try (exfalso; omega)) | (refine bcase_intro (fun h => ?_) (fun h => ?_) <;> (try simp only [Bool.not_eq_true', Bool.not_eq_false', decide_eq_true_eq, decide_eq_false_iff_not, Bool.not_eq_true, Bool.not_eq_false, Decidable.not_not] at h)) | refine And.intro (by first | omega | exact rfl | assumption | exact ⟨rfl, rfl, rfl, rfl, rfl⟩ | exact ⟨rfl, rfl, rfl, rfl⟩ | exact ⟨rfl, by omega⟩ | exact oneAll_of rfl | exact ⟨rfl, oneAll_of rfl⟩ | exact Ref.refl _ | exact Thin.ref (.skip (Thin.refl _)) | exact Thin.ref (.skip (.skip (Thin.refl _))) | exact hne | exact Option.some_ne_none _ | (intro _; exact Thin.ref (by (repeat (first | exact Thin.nil _ | exact Thin.refl _ | refine Thin.keep rfl (fun _ h => h) ?_ | refine Thin.skip ?_)))) | exact ⟨rfl, Nat.le_of_ble_eq_true rfl⟩ | ((try unfold maxLen); (try simp only [List.length_nil, List.length_cons, List.length_append]); omega) | (refine ⟨rfl, ?_⟩; (try simp only [List.length_nil, List.length_cons, List.length_append]); omega)) ?_ | intro _)); (all_goals (conv => whnf))
    all_goals (refine ⟨?_⟩; first | (rw [if_pos ⟨by omega, by omega⟩]; exact rfl) | (rw [if_neg (fun h => by omega)]; exact rfl))
end Go.Proofs.YticiljgbjdcmlaaDoor
