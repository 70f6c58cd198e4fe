/- Texts of this claim, laid together (part 6): walks of functions, what they compute, and plain laws of it. Own work. -/
import Derived.Test.YtfglhiciagmicaaGreatM5LeasePeeks
/- A drawn region walked in any order that its edges allow: operations that only look at their own operands may come up whenever they like (floaters), others are barriers. Own work. -/
namespace Go.Proofs.YtfglhiciagmicaaGreat
open Go.RowKit
set_option linter.unusedVariables false
set_option linter.unusedSimpArgs false
section
variable {P : Program} {ops : Array Oper} {c : Ctx} {N : Nat} {L : List Item}
def inB (l : List Nat) (i : Nat) : Bool := l.any fun j => Nat.beq j i
theorem inB_iff {l : List Nat} {i : Nat} : inB l i = true ↔ i ∈ l := by
  unfold inB
  rw [List.any_eq_true]
  constructor
  · rintro ⟨j, h1, h2⟩; rw [← Nat.eq_of_beq_eq_true h2]; exact h1
  · intro h; exact ⟨i, h, by simp⟩
/-- What is known of the operations that have been walked: those of dn have come up for sure, those of fr lean on no memory. -/
structure FV (P : Program) (ops : Array Oper) (c : Ctx) (nd : List Nat) (L : List Item) (fr dn ks : List Nat) (m : List Ent) (A0 : Nat → Option Out) : Prop where
  at_ : ∀ x, x ∈ m → ops[x.i]? = some x.o
  dif : m.Pairwise (fun x y => x.i ≠ y.i)
  ord : m.Pairwise (fun x y => y.i < x.i → (ndOf nd x.i).testBit y.i = false)
  op : ∀ m1 x m2, m = m1 ++ x :: m2 → (inB dn x.i = false → LocOp P ops c L x.o (acc (fun _ => true) m1 A0) x.F x.kl ∧ (inB fr x.i = true → ∀ L', LocOp P ops c L' x.o (acc (fun _ => true) m1 A0) x.F x.kl)) ∧ KillOk ops nd x.i x.o (acc (fun _ => true) m1 A0) x.kl
  kls : ∀ x, x ∈ m → ∀ s, x.kl = some s → s ∈ ks
/-- What has come up. -/
structure FS (ops : Array Oper) (nd : List Nat) (dn : List Nat) (m : List Ent) (listed : Array Bool) : Prop where
  cl : Cl ops nd listed
  done : ∀ i, inB dn i = true → listed.getD i false = true
  only : ∀ i, listed.getD i false = true → ∃ x, x ∈ m ∧ x.i = i
@[reducible] def lst (listed : Array Bool) : Nat → Bool := fun i => listed.getD i false
theorem fstep {Q : Exit → Act → World → Prop} {nd : List Nat} {fr dn ks : List Nat} {m : List Ent} {A0 : Nat → Option Out} (hg : Good ops nd) (hN : opsAll (fun _ o => dstB N o.dst) ops.toList 0 = true) (hv : FV P ops c nd L fr dn ks m A0)
    {φ : Fz} {a : Act} {w : World} {listed : Array Bool} (hs : FS ops nd dn m listed) (st : SS c N (acc (lst listed) m A0) L φ a w) {x : Ent} (hxm : x ∈ m) (hi : x.i ∈ Region.ready .any ops listed) {u : Nat}
    (next : ∀ φ' a' w', FS ops nd dn m (listed.setIfInBounds x.i true) → SS c N (acc (lst (listed.setIfInBounds x.i true)) m A0) L φ' a' w' → wpAny P .any ops Q u (listed.setIfInBounds x.i true) a' w') :
    wpOp P ops Q x.i (wpAny P .any ops Q u (listed.setIfInBounds x.i true)) a w := by
  obtain ⟨i, hix⟩ : ∃ i, i = x.i := ⟨_, rfl⟩
  rw [← hix] at hi next ⊢
  have ex1 : x.i = i := hix.symm
  obtain ⟨hiu, oi, hoi, hiall⟩ := mem_ready.1 hi
  have hilt : i < ops.size := (Array.getElem?_eq_some_iff.1 hoi).1
  have hc := hs.cl
  have hox : x.o = oi := by
    have h1 := hv.at_ x hxm
    rw [ex1] at h1
    exact Option.some.inj (h1.symm.trans hoi)
  have hdi : inB dn i = false := by
    cases hv' : inB dn i with
    | false => rfl
    | true => have := hs.done i hv'; rw [getD_tf hiu] at this; cases this
  obtain ⟨m1, m2, hsplit⟩ := List.append_of_mem hxm
  have hiL : i < listed.size := by rw [hc.size]; exact hilt
  have hne : ∀ y, y ∈ m1 ∨ y ∈ m2 → y.i ≠ i := fun y hy => by
    have h1 := hv.dif
    rw [hsplit] at h1
    obtain ⟨h2, h3, h4⟩ := List.pairwise_append.1 h1
    rcases hy with hy | hy
    · rw [← ex1]; exact h4 y hy x (List.mem_cons_self ..)
    · rw [← ex1]; exact fun e => (List.pairwise_cons.1 h3).1 y hy e.symm
  have hord1 : ∀ y, y ∈ m1 → i < y.i → (ndOf nd y.i).testBit i = false := fun y hy hlt => by
    have h1 := hv.ord
    rw [hsplit] at h1
    have := (List.pairwise_append.1 h1).2.2 y hy x (List.mem_cons_self ..)
    rw [ex1] at this
    exact this hlt
  have hord2 : ∀ y, y ∈ m2 → y.i < i → (ndOf nd i).testBit y.i = false := fun y hy hlt => by
    have h1 := hv.ord
    rw [hsplit] at h1
    have := (List.pairwise_cons.1 (List.pairwise_append.1 h1).2.1).1 y hy
    rw [ex1] at this
    exact this hlt
  have hkm : ∀ y, y ∈ m → ∀ s, y.kl = some s → (s ∈ y.o.looksAt ops ∨ wrB y.o = true) ∧ ∀ j x, ops[j]? = some x → s ∈ namesOf ops x ∨ (s ∉ y.o.looksAt ops ∧ wrB y.o = true ∧ wrB x = true) → j ≠ y.i → (y.i < j → (ndOf nd j).testBit y.i = true) ∧ (j < y.i → (ndOf nd y.i).testBit j = true) := fun y hy s hs => by
      obtain ⟨p1, p2, hp12⟩ := List.append_of_mem hy
      have := (hv.op p1 y p2 hp12).2 s hs
      exact ⟨this.1.1, this.2⟩
  have ordd : ∀ y, y ∈ m → y.i ≠ i → ops[y.i]? = some y.o → (∃ t, y.tch t ∧ (t ∈ namesOf ops oi ∨ x.kl = some t)) → (i < y.i → (ndOf nd y.i).testBit i = true) ∧ (y.i < i → (ndOf nd i).testBit y.i = true) := fun y hym hne h2 ⟨t, ht, htn⟩ => by
    rcases htn with htn | htn
    · rcases ht with ht | ht
      · have := hg.ord y.i y.o t i oi h2 ht hoi htn (fun e => hne e)
        exact ⟨this.2, this.1⟩
      · have := (hkm y hym t ht).2 i oi hoi (.inl htn) (fun e => hne e.symm)
        exact ⟨this.2, this.1⟩
    · have hx1 := hkm x hxm t htn
      rw [hox, ex1] at hx1
      rcases ht with ht | ht
      · have := hx1.2 y.i y.o h2 (.inl (List.mem_append_right _ (by rw [ht]; simp))) hne
        exact this
      · by_cases htl : t ∈ namesOf ops y.o
        · exact hx1.2 y.i y.o h2 (.inl htl) hne
        · have hyd : wrB y.o = true := (hkm y hym t ht).1.resolve_left fun e => htl (List.mem_append_left _ e)
          by_cases htx : t ∈ namesOf ops oi
          · have := (hkm y hym t ht).2 i oi hoi (.inl htx) (fun e => hne e.symm)
            exact ⟨this.2, this.1⟩
          · have hxl : t ∉ oi.looksAt ops := fun e => htx (List.mem_append_left _ e)
            have hxd : wrB oi = true := hx1.1.resolve_left hxl
            exact hx1.2 y.i y.o h2 (.inr ⟨hxl, hxd, hyd⟩) hne
  have later : ∀ y, y ∈ m2 → (∃ t, y.tch t ∧ (t ∈ namesOf ops oi ∨ x.kl = some t)) → listed.getD y.i false = false := fun y hy ht => by
    have hym : y ∈ m := by rw [hsplit]; exact List.mem_append_right _ (List.mem_cons_of_mem _ hy)
    have h1 := hne y (.inr hy)
    have h2 := hv.at_ y hym
    cases hvv : listed.getD y.i false with
    | false => rfl
    | true =>
      have h3 := ordd y hym h1 h2 ht
      rcases Nat.lt_or_gt_of_ne h1 with h4 | h4
      · rw [hord2 y hy h4] at h3; exact absurd (h3.2 h4) (by simp)
      · have h5 := hc.cl _ hvv i (h3.1 h4)
        rw [getD_tf hiu] at h5; cases h5
  have earlier : ∀ y, y ∈ m1 → (∃ t, y.tch t ∧ (t ∈ namesOf ops oi ∨ x.kl = some t)) → listed.getD y.i false = true := fun y hy ht => by
    have hym : y ∈ m := by rw [hsplit]; exact List.mem_append_left _ hy
    have h1 := hne y (.inl hy)
    have h2 := hv.at_ y hym
    have h3 := ordd y hym h1 h2 ht
    rcases Nat.lt_or_gt_of_ne h1 with h4 | h4
    · exact ready_need hg hc hi (h3.2 h4)
    · rw [hord1 y hy h4] at h3; exact absurd (h3.1 h4) (by simp)
  have hsame : ∀ t, t ∈ oi.looksAt ops ∨ x.kl = some t → acc (lst listed) m A0 t = acc (fun _ => true) m1 A0 t := fun t ht => by
    have htn : t ∈ namesOf ops oi ∨ x.kl = some t := ht.imp (List.mem_append_left _) id
    rw [hsplit, acc_append]
    have h1 : acc (lst listed) (x :: m2) (acc (lst listed) m1 A0) t = acc (lst listed) m1 A0 t := by
      refine acc_skip fun y hy hyt => ?_
      rcases List.mem_cons.1 hy with rfl | hy
      · show listed.getD y.i false = false
        rw [ex1]; exact getD_tf hiu
      · exact later y hy ⟨t, hyt, htn⟩
    rw [h1]
    exact acc_congr rfl fun y hy hyt => earlier y hy ⟨t, hyt, htn⟩
  have hloc : LocOp P ops c L oi (acc (lst listed) m A0) x.F x.kl := by
    have h0 := ((hv.op m1 x m2 hsplit).1 (by rw [ex1]; exact hdi)).1
    rw [hox] at h0
    exact h0.congr hsame
  have hkok : ∀ s, x.kl = some s → (s ∈ oi.looksAt ops ∨ wrB oi = true) ∧ ∃ (ι : Type) (val : ι → Value) (I : ι → Item), acc (lst listed) m A0 s = some (.own val I) := fun s hs => by
    obtain ⟨⟨h1, ι, val, I, h2⟩, _⟩ := (hv.op m1 x m2 hsplit).2 s hs
    rw [hox] at h1
    exact ⟨h1, ι, val, I, by rw [hsame s (.inr hs)]; exact h2⟩
  have hget : ∀ j, j ≠ i → (listed.setIfInBounds i true).getD j false = listed.getD j false := fun j hj => getD_set_ne false (Ne.symm hj)
  have hiT : (listed.setIfInBounds i true).getD i false = true := by simp [hiL]
  have hacc : ∀ t, putO (killO (acc (lst listed) m A0) x.kl) (tgt oi x.kl) x.F t = acc (lst (listed.setIfInBounds i true)) m A0 t := fun t => by
    have happ : putO (killO (acc (lst listed) m A0) x.kl) (tgt oi x.kl) x.F = x.app (acc (lst listed) m A0) := by unfold Ent.app; rw [hox]
    rw [happ]
    by_cases hd : x.tch t
    · rw [hsplit, acc_append, acc_append]
      simp only [acc]
      rw [ex1, show lst (listed.setIfInBounds i true) i = true from hiT]
      simp only [cond_true]
      have hnm : t ∈ namesOf ops oi ∨ x.kl = some t := by
        rcases hd with hd | hd
        · rw [hox] at hd; exact .inl (by unfold namesOf; rw [hd]; simp)
        · exact .inr hd
      have h2 : acc (lst (listed.setIfInBounds i true)) m2 (x.app (acc (lst (listed.setIfInBounds i true)) m1 A0)) t = x.app (acc (lst (listed.setIfInBounds i true)) m1 A0) t := by
        refine acc_skip fun y hy hyt => ?_
        show (listed.setIfInBounds i true).getD y.i false = false
        rw [hget y.i (hne y (.inr hy))]
        exact later y hy ⟨t, hyt, hnm⟩
      rw [h2]
      exact Ent.app_same (.inl hd)
    · rw [Ent.app_ne hd]
      refine acc_congr rfl fun y hy hyt => (hget y.i fun hyi => ?_).symm
      rw [hsplit] at hy
      rcases List.mem_append.1 hy with hy | hy
      · exact hne y (.inl hy) hyi
      · rcases List.mem_cons.1 hy with rfl | hy
        · exact hd hyt
        · exact hne y (.inr hy) hyi
  have hfs : FS ops nd dn m (listed.setIfInBounds i true) := by
    refine ⟨hc.set hg hi, fun j hj => ?_, fun j hj => ?_⟩
    · by_cases hji : j = i
      · subst hji; exact hiT
      · rw [hget j hji]; exact hs.done j hj
    · by_cases hji : j = i
      · subst hji; exact ⟨x, hxm, ex1⟩
      · rw [hget j hji] at hj; exact hs.only j hj
  obtain ⟨M, hM1, hM2, hM3⟩ := SS.takes (ops := ops) (o := oi) (kl := x.kl) st hkok
  have hnext : ∀ φ' v w', x.F.post M φ w φ' (res oi x.kl a v) w' → wpAny P .any ops Q u (listed.setIfInBounds i true) (a.put oi.dst v) w' := fun φ' v w' hpost => by
    have h9 := (hM3 (tgt oi x.kl) x.F φ' (res oi x.kl a v) w' (fun t ht => ?_) hpost).congr hacc
    · rw [put_res] at h9
      exact next φ' _ w' hfs h9
    · cases hd : oi.dst with
      | some d =>
        rw [tgt_some hd] at ht
        injection ht with ht
        subst ht
        have := opsAll_spec hN i oi (by simpa using hoi)
        exact .inl (dstB_spec this _ hd)
      | none =>
        rw [tgt_kl hd] at ht
        rw [ht, res_kl hd]
        exact .inr rfl
  have hfin := hloc φ a w _ Q M hM1 hM2 (fun t ht B hB => by
    cases hA : acc (lst listed) m A0 t with
    | none => rw [hA] at hB; cases hB
    | some D =>
      rw [hA] at hB
      cases D with
      | v D => obtain rfl : D = B := by simpa [Out.toV] using hB
               exact st.env t D hA
      | own val I => cases hB) hnext
  unfold wpOp
  simp only [hoi]
  split
  · rename_i hw
    rw [hw] at hfin
    exact .inl (by simpa using hfin)
  · rename_i hw
    have hw' : Region.wanted oi (yielded ops a.tmps) = false := by simpa using hw
    rw [hw'] at hfin
    have hidle : x.kl = none ∧ x.F.idle φ := by simpa using hfin
    have hM0 : M = [] := by rw [hidle.1] at hM2; exact hM2
    subst hM0
    refine hnext φ undef w ?_
    rw [hidle.1, res_none]
    cases hF : x.F with
    | v F => rw [hF] at hidle; exact ⟨HP.start (L := []) ⟨st.mem.mem.base, by simp, List.Pairwise.nil⟩, hidle.2⟩
    | own val I => rw [hF] at hidle; exact hidle.2.elim
/-- The walked ones come up in any order; what else may come up is asked for. -/
theorem frun {Q : Exit → Act → World → Prop} {nd : List Nat} {fr dn ks : List Nat} {m : List Ent} {A0 : Nat → Option Out} (hg : Good ops nd) (hN : opsAll (fun _ o => dstB N o.dst) ops.toList 0 = true) (hv : FV P ops c nd L fr dn ks m A0)
    (exit : ∀ φ a w listed, FS ops nd dn m listed → SS c N (acc (lst listed) m A0) L φ a w → wpAny P .any ops Q (unl ops.size listed) listed a w ∨
      ((Region.ready .any ops listed = [] → Q .normal a w) ∧ ∀ i, i ∈ Region.ready .any ops listed → (∀ x, x ∈ m → x.i ≠ i) → wpOp P ops Q i (wpAny P .any ops Q (unl ops.size (listed.setIfInBounds i true)) (listed.setIfInBounds i true)) a w)) :
    ∀ (u : Nat) (φ : Fz) (a : Act) (w : World) (listed : Array Bool), unl ops.size listed = u → FS ops nd dn m listed → SS c N (acc (lst listed) m A0) L φ a w → wpAny P .any ops Q u listed a w := by
  intro u
  induction u with
  | zero =>
    intro φ a w listed hu hs st
    rcases exit φ a w listed hs st with h | ⟨h1, h2⟩
    · rw [hu] at h; exact h
    · have hall := unl_zero hu
      have hr : Region.ready .any ops listed = [] := by
        cases hr : Region.ready .any ops listed with
        | nil => rfl
        | cons i l =>
          exfalso
          have hm : i ∈ Region.ready .any ops listed := by rw [hr]; exact List.mem_cons_self ..
          obtain ⟨h3, o, ho, _⟩ := mem_ready.1 hm
          rw [hall i (Array.getElem?_eq_some_iff.1 ho).1] at h3
          cases h3
      exact ⟨hr, h1 hr⟩
  | succ u ih =>
    intro φ a w listed hu hs st
    rcases exit φ a w listed hs st with h | ⟨h1, h2⟩
    · rw [hu] at h; exact h
    · refine ⟨h1, fun i hi => ?_⟩
      obtain ⟨hiu, oi, hoi, _⟩ := mem_ready.1 hi
      have hilt : i < ops.size := (Array.getElem?_eq_some_iff.1 hoi).1
      have hunl : unl ops.size (listed.setIfInBounds i true) = u := by
        have := unl_set (by rw [hs.cl.size]; exact hilt) hiu hilt; omega
      by_cases hx : ∃ x, x ∈ m ∧ x.i = i
      · obtain ⟨x, hxm, rfl⟩ := hx
        exact fstep hg hN hv hs st hxm hi fun φ' a' w' hs' st' => ih φ' a' w' _ hunl hs' st'
      · have := h2 i hi fun x hxm e => hx ⟨x, hxm, e⟩
        rw [hunl] at this; exact this
theorem SS.bar {A : Nat → Option Out} {φ φ' : Fz} {a : Act} {w w' : World} {L' : List Item} {d : Option Tmp} {F : VP} {v : Value} (h : SS c N A L φ a w) (hd : ∀ t, d = some t → t < N) (hp : HP ⟨w, φ, names L, []⟩ φ' L' w') (hF : F.ok φ' v) : SS c N (putO A d (.v F)) L' φ' (a.put d v) w' := by
  have hle : Fle φ φ' := hp.fle h.mem.mem.base
  have hmem : HP c φ' L' w' := by
    have := HP.call (L := L) (M := []) (by rw [List.append_nil]; exact h.mem) hp
    rwa [List.append_nil] at this
  obtain ⟨β, hβ, hap⟩ := h.own
  have key : ∀ (t : Tmp) (o : Out), putO A d (.v F) t = some o → (d = some t ∧ o = .v F) ∨ (d ≠ some t ∧ A t = some o) := fun t o ht => by
    by_cases e : d = some t
    · rw [e, putO_eq] at ht
      injection ht with ht
      exact .inl ⟨e, ht.symm⟩
    · rw [putO_ne e] at ht
      exact .inr ⟨e, ht⟩
  refine ⟨by rw [Act.put_defs]; exact h.defers, by rw [Act.put_size]; exact h.size, fun t B ht => ?_, hmem, β, fun t ι val I ht => ?_, fun t t' ι ι' val I val' I' hne ht ht' => ?_⟩
  · rcases key t _ ht with ⟨e, e2⟩ | ⟨e, ht⟩
    · injection e2 with e2
      subst e2 e
      rw [put_get_same (.inl (by rw [h.size]; exact hd t rfl))]; exact hF
    · rw [put_get_ne e]; exact B.mono hle (h.env t B ht)
  · rcases key t _ ht with ⟨e, e2⟩ | ⟨e, ht⟩
    · cases e2
    · obtain ⟨h1, ⟨h2, h3⟩, h4⟩ := hβ t ι val I ht
      refine ⟨by rw [put_get_ne e]; exact h1, ⟨?_, fun b hb => ?_⟩, fun b hb => ⟨(h4 b hb).1, fun hn => ?_⟩⟩
      · cases hat : (β t).at_ with
        | none => rw [hat] at h2; exact (β t).mono hle h2
        | some b =>
          have h5 := (h3 b hat).1
          have h6 := (h4 b hat).2
          rw [hat] at h2
          simp only [Option.bind_some] at h2 ⊢
          rw [hp.kept.block b h5 h6]
          exact (β t).mono hle h2
      · refine ⟨Nat.lt_of_lt_of_le (h3 b hb).1 hp.kept.size, fun i => ?_⟩
        rw [hp.old b i (h3 b hb).1]; exact (h3 b hb).2 i
      · rcases hp.mine b hn with h5 | h5
        · exact absurd (h3 b hb).1 (Nat.not_lt.2 h5)
        · exact (h4 b hb).2 h5
  · rcases key t _ ht with ⟨e, e2⟩ | ⟨e, ht⟩
    · cases e2
    · rcases key t' _ ht' with ⟨e', e2'⟩ | ⟨e', ht'⟩
      · cases e2'
      · exact hap t t' _ _ val I val' I' hne ht ht'
/-- The walk: mi have been walked, dn of them have come up for sure, fr of them lean on no memory, ks has been taken. -/
def JF (P : Program) (ops : Array Oper) (Q : Exit → Act → World → Prop) (c : Ctx) (N : Nat) (nd : List Nat) (fr dn ks mi : List Nat) (EO : EnvO) (L : List Item) : Prop :=
  Good ops nd → opsAll (fun _ o => dstB N o.dst) ops.toList 0 = true → ∀ m A0, FV P ops c nd L fr dn ks m A0 → (∀ i, inB mi i = true ↔ ∃ x, x ∈ m ∧ x.i = i) → acc (fun _ => true) m A0 = lookO EO →
    ∀ φ a w listed, FS ops nd dn m listed → SS c N (acc (lst listed) m A0) L φ a w → wpAny P .any ops Q (unl ops.size listed) listed a w
theorem split_snoc {α : Type _} {m m1 m2 : List α} {e x : α} (h : m ++ [e] = m1 ++ x :: m2) : (m1 = m ∧ x = e ∧ m2 = []) ∨ ∃ m3, m2 = m3 ++ [e] ∧ m = m1 ++ x :: m3 := by
  rcases List.eq_nil_or_concat m2 with rfl | ⟨m3, y, rfl⟩
  · have := List.append_inj' h rfl
    obtain ⟨h1, h2⟩ := this
    injection h2 with h2
    exact .inl ⟨h1.symm, h2.symm, rfl⟩
  · have h' : m ++ [e] = (m1 ++ x :: m3) ++ [y] := by rw [h]; simp
    obtain ⟨h1, h2⟩ := List.append_inj' h' rfl
    injection h2 with h2
    exact .inr ⟨m3, by rw [h2]; simp, h1⟩
def newB (nd mi : List Nat) (i : Nat) : Bool := !inB mi i && mi.all fun j => !Nat.blt i j || !(ndOf nd j).testBit i
section
variable {Q : Exit → Act → World → Prop} {nd : List Nat} {fr dn ks mi : List Nat} {EO : EnvO}
theorem FV.snoc {m : List Ent} {A0 : Nat → Option Out} {e : Ent} {fr' dn' ks' : List Nat} {L' : List Item} (hv : FV P ops c nd L fr dn ks m A0) (ha : ops[e.i]? = some e.o) (hd : ∀ x, x ∈ m → x.i ≠ e.i) (ho : ∀ x, x ∈ m → e.i < x.i → (ndOf nd x.i).testBit e.i = false)
    (hL : ∀ x, x ∈ m → ∀ m1, inB dn' x.i = false → inB dn x.i = false ∧ ((LocOp P ops c L x.o (acc (fun _ => true) m1 A0) x.F x.kl ∧ (inB fr x.i = true → ∀ L'', LocOp P ops c L'' x.o (acc (fun _ => true) m1 A0) x.F x.kl)) → (LocOp P ops c L' x.o (acc (fun _ => true) m1 A0) x.F x.kl ∧ (inB fr' x.i = true → ∀ L'', LocOp P ops c L'' x.o (acc (fun _ => true) m1 A0) x.F x.kl))))
    (he : inB dn' e.i = false → LocOp P ops c L' e.o (acc (fun _ => true) m A0) e.F e.kl ∧ (inB fr' e.i = true → ∀ L'', LocOp P ops c L'' e.o (acc (fun _ => true) m A0) e.F e.kl)) (hk : KillOk ops nd e.i e.o (acc (fun _ => true) m A0) e.kl)
    (hks : ∀ s, s ∈ ks → s ∈ ks') (hke : ∀ s, e.kl = some s → s ∈ ks') : FV P ops c nd L' fr' dn' ks' (m ++ [e]) A0 := by
  refine ⟨fun x hx => ?_, List.pairwise_append.2 ⟨hv.dif, List.pairwise_singleton _ _, fun x hx y hy => ?_⟩, List.pairwise_append.2 ⟨hv.ord, List.pairwise_singleton _ _, fun x hx y hy => ?_⟩, fun m1 x m2 hm => ?_, fun x hx s hs => ?_⟩
  · rcases List.mem_append.1 hx with hx | hx
    · exact hv.at_ x hx
    · rw [List.mem_singleton] at hx; subst hx; exact ha
  · rw [List.mem_singleton] at hy; subst hy; exact hd x hx
  · rw [List.mem_singleton] at hy; subst hy; exact ho x hx
  · rcases split_snoc hm with ⟨rfl, rfl, rfl⟩ | ⟨m3, rfl, hm'⟩
    · exact ⟨he, hk⟩
    · have hx : x ∈ m := by rw [hm']; exact List.mem_append_right _ (List.mem_cons_self ..)
      obtain ⟨h1, h2⟩ := hv.op m1 x m3 hm'
      refine ⟨fun hdn => ?_, h2⟩
      obtain ⟨h3, h4⟩ := hL x hx m1 hdn
      exact h4 (h1 h3)
  · rcases List.mem_append.1 hx with hx | hx
    · exact hks _ (hv.kls x hx s hs)
    · rw [List.mem_singleton] at hx; subst hx; exact hke s hs
theorem mi_snoc {m : List Ent} {e : Ent} (h : ∀ i, inB mi i = true ↔ ∃ x, x ∈ m ∧ x.i = i) : ∀ i, inB (e.i :: mi) i = true ↔ ∃ x, x ∈ m ++ [e] ∧ x.i = i := fun i => by
  constructor
  · intro hi
    rcases List.mem_cons.1 (inB_iff.1 hi) with rfl | hi
    · exact ⟨e, List.mem_append_right _ (List.mem_singleton.2 rfl), rfl⟩
    · obtain ⟨x, h1, h2⟩ := (h i).1 (inB_iff.2 hi)
      exact ⟨x, List.mem_append_left _ h1, h2⟩
  · rintro ⟨x, hx, rfl⟩
    refine inB_iff.2 ?_
    rcases List.mem_append.1 hx with hx | hx
    · exact List.mem_cons_of_mem _ (inB_iff.1 ((h x.i).2 ⟨x, hx, rfl⟩))
    · rw [List.mem_singleton] at hx; subst hx; exact List.mem_cons_self ..
theorem JF_add {i : Nat} {o : Oper} {F : Out} {kl : Option Tmp} (fr' : List Nat) (hi : ops[i]? = some o) (hB : newB nd mi i = true) (hk : KillOk ops nd i o (lookO EO) kl) (hl : LocOp P ops c L o (lookO EO) F kl) (hf : fr' = fr ∧ inB fr i = false ∨ fr' = i :: fr ∧ ∀ L', LocOp P ops c L' o (lookO EO) F kl)
    (h : JF P ops Q c N nd fr' dn (kl.toList ++ ks) (i :: mi) (putEO (killE EO kl) (tgt o kl) F) L) : JF P ops Q c N nd fr dn ks mi EO L := by
  intro hg hN m A0 hv hmi hacc φ a w listed hs st
  unfold newB at hB
  simp only [Bool.and_eq_true] at hB
  obtain ⟨hB1, hB2⟩ := hB
  have hnew : ∀ x, x ∈ m → x.i ≠ i := fun x hx e => by
    have := (hmi x.i).2 ⟨x, hx, rfl⟩
    rw [e] at this
    rw [this] at hB1; cases hB1
  have hun : listed.getD i false = false := by
    cases hv' : listed.getD i false with
    | false => rfl
    | true =>
      obtain ⟨x, h1, h2⟩ := hs.only i hv'
      exact absurd h2 (hnew x h1)
  have hfr : ∀ x, x ∈ m → inB fr' x.i = true → inB fr x.i = true := fun x hx hx' => by
    rcases hf with ⟨e, _⟩ | ⟨e, _⟩
    · rw [e] at hx'; exact hx'
    · rw [e] at hx'
      rcases List.mem_cons.1 (inB_iff.1 hx') with h1 | h1
      · exact absurd h1 (hnew x hx)
      · exact inB_iff.2 h1
  refine h hg hN (m ++ [⟨i, o, F, kl⟩]) A0 (hv.snoc hi hnew (fun x hx hlt => ?_) (fun x hx m1 hd => ⟨hd, fun h1 => ⟨h1.1, fun h2 => h1.2 (hfr x hx h2)⟩⟩) (fun _ => ⟨by rw [hacc]; exact hl, fun h1 => ?_⟩) (by rw [hacc]; exact hk) (fun s hs => List.mem_append_right _ hs) (fun s hs => ?_)) (mi_snoc (e := ⟨i, o, F, kl⟩) hmi) ?_ φ a w listed ⟨hs.cl, hs.done, fun j hj => ?_⟩ (st.congr fun t => ?_)
  · have h1 := List.all_eq_true.1 hB2 x.i (inB_iff.1 ((hmi x.i).2 ⟨x, hx, rfl⟩))
    have h2 : Nat.blt i x.i = true := by simpa using hlt
    rw [h2] at h1
    simpa using h1
  · rw [hacc]
    rcases hf with ⟨e, h2⟩ | ⟨e, h2⟩
    · have h1' : inB fr' i = true := h1
      rw [e, h2] at h1'; cases h1'
    · exact h2
  · have hs' : kl = some s := hs
    rw [hs']; exact List.mem_append_left _ (by simp)
  · rw [acc_append, hacc, lookO_put, lookO_kill]; rfl
  · obtain ⟨x, h1, h2⟩ := hs.only j hj
    exact ⟨x, List.mem_append_left _ h1, h2⟩
  · rw [acc_append]
    refine (acc_skip fun x hx _ => ?_).symm
    rw [List.mem_singleton] at hx; subst hx; exact hun
def barB (ops : Array Oper) (nd fr dn dn' mi : List Nat) (i : Nat) : Bool :=
  !inB mi i && (mi.all fun j => !(ndOf nd j).testBit i) && ((List.range ops.size).all fun j => inB mi j || Nat.beq j i || (ndOf nd j).testBit i) &&
    (dn'.all fun j => Nat.beq j i || inB dn j || (ndOf nd i).testBit j) && (mi.all fun j => inB dn' j || inB fr j) && inB dn' i && (dn.all fun j => inB dn' j)
theorem JF_bar {i : Nat} {o : Oper} {ι : Type} {F : ι → VP} {L' : ι → List Item} (dn' : List Nat) (hi : ops[i]? = some o) (hgd : o.guard = none) (hB : barB ops nd fr dn dn' mi i = true) (hs : ∀ c' : Ctx, OpS P c' o (vals EO) L F L')
    (h : ∀ z, JF P ops Q c N nd fr dn' ks (i :: mi) (putEO EO o.dst (.v (F z))) (L' z)) : JF P ops Q c N nd fr dn ks mi EO L := by
  intro hg hN m A0 hv hmi hacc φ a w listed hfs st
  unfold barB at hB
  simp only [Bool.and_eq_true] at hB
  obtain ⟨⟨⟨⟨⟨⟨hB1, hB2⟩, hB3⟩, hB4⟩, hB5⟩, hB6⟩, hB7⟩ := hB
  have hilt : i < ops.size := (Array.getElem?_eq_some_iff.1 hi).1
  have hnew : ∀ x, x ∈ m → x.i ≠ i := fun x hx e => by
    have := (hmi x.i).2 ⟨x, hx, rfl⟩
    rw [e] at this
    rw [this] at hB1; cases hB1
  have hnn : ∀ x, x ∈ m → (ndOf nd x.i).testBit i = false := fun x hx => by
    have := List.all_eq_true.1 hB2 x.i (inB_iff.1 ((hmi x.i).2 ⟨x, hx, rfl⟩))
    simpa using this
  refine frun hg hN hv (fun φ a w listed hfs st => .inr ⟨fun hr => ?_, fun j hj hjm => ?_⟩) _ φ a w listed rfl hfs st
  · have hun : listed.getD i true = false := by
      cases hv' : listed.getD i true with
      | false => rfl
      | true =>
        have h1 : listed.getD i false = true := by
          have : i < listed.size := by rw [hfs.cl.size]; exact hilt
          simp [this] at hv' ⊢; exact hv'
        obtain ⟨x, h2, h3⟩ := hfs.only i h1
        exact absurd h3 (hnew x h2)
    obtain ⟨i0, h1, h2, h3⟩ := exists_least_unl (listed := listed) ops.size ⟨i, hilt, hun⟩
    have := ready_least hg hfs.cl.size h1 h2 h3
    rw [hr] at this; cases this
  · have hun : listed.getD i false = false := by
      cases hv' : listed.getD i false with
      | false => rfl
      | true =>
        obtain ⟨x, h2, h3⟩ := hfs.only i hv'
        exact absurd h3 (hnew x h2)
    have hji : j = i := by
      obtain ⟨_, oj, hoj, _⟩ := mem_ready.1 hj
      have h1 := List.all_eq_true.1 hB3 j (List.mem_range.2 (Array.getElem?_eq_some_iff.1 hoj).1)
      simp only [Bool.or_eq_true] at h1
      rcases h1 with (h1 | h1) | h1
      · obtain ⟨x, h2, h3⟩ := (hmi j).1 h1
        exact absurd h3 (hjm x h2)
      · exact Nat.eq_of_beq_eq_true h1
      · have := ready_need hg hfs.cl hj h1
        rw [hun] at this; cases this
    subst hji
    unfold wpOp
    simp only [hi]
    rw [if_pos (by simp [Region.wanted, hgd])]
    refine .inl (hs ⟨w, φ, names L, []⟩ φ a w _ Q (HP.start st.mem.mem) (evs (ops := ops) st.mem.mem.facts fun t ht B hB => ?_) fun z φ' v w' hle hF hp => ?_)
    · have h1 : acc (lst listed) m A0 t = lookO EO t := by
        rw [← hacc]
        refine acc_congr rfl fun y hy hyt => ?_
        show listed.getD y.i false = true
        have hyo := hv.at_ y hy
        have hne := hnew y hy
        have h2 : (y.i < j → (ndOf nd j).testBit y.i = true) ∧ (j < y.i → (ndOf nd y.i).testBit j = true) := by
          rcases hyt with hyt | hyt
          · exact hg.ord y.i y.o t j o hyo hyt hi (List.mem_append_left _ ht) hne
          · obtain ⟨p1, p2, hp12⟩ := List.append_of_mem hy
            have h3 := ((hv.op p1 y p2 hp12).2 t hyt).2 j o hi (.inl (List.mem_append_left _ ht)) (Ne.symm hne)
            exact h3
        rcases Nat.lt_or_gt_of_ne hne with h3 | h3
        · exact ready_need hg hfs.cl hj (h2.1 h3)
        · have := h2.2 h3
          rw [hnn y hy] at this; cases this
      cases hA : lookO EO t with
      | none => rw [hA] at hB; cases hB
      | some D =>
        rw [hA] at hB h1
        cases D with
        | v D => obtain rfl : D = B := by simpa [Out.toV] using hB
                 exact st.env t D h1
        | own val I => cases hB
    · have hcl := hfs.cl.set hg hj
      have hjl : j < listed.size := by rw [hfs.cl.size]; exact hilt
      have hjT : (listed.setIfInBounds j true).getD j false = true := by simp [hjl]
      have hget : ∀ q, q ≠ j → (listed.setIfInBounds j true).getD q false = listed.getD q false := fun q hq => getD_set_ne false (Ne.symm hq)
      have hdst : ∀ t, o.dst = some t → t < N := by
        have := opsAll_spec hN j o (by simpa using hi)
        exact dstB_spec this
      refine h z hg hN (m ++ [⟨j, o, .v (F z), none⟩]) A0 (hv.snoc hi hnew (fun x hx _ => hnn x hx) (fun x hx m1 hd => ?_) (fun hd => ?_) killOk_none (fun s hs => hs) (fun s hs => by cases hs)) (mi_snoc (e := ⟨j, o, .v (F z), none⟩) hmi) ?_ φ' _ w' _ ⟨hcl, fun q hq => ?_, fun q hq => ?_⟩ ((st.bar hdst hp hF).congr fun t => ?_)
      · have hdx : inB dn x.i = false := by
          cases hv' : inB dn x.i with
          | false => rfl
          | true => have := List.all_eq_true.1 hB7 x.i (inB_iff.1 hv'); rw [hd] at this; cases this
        refine ⟨hdx, fun h1 => ?_⟩
        have h2 := List.all_eq_true.1 hB5 x.i (inB_iff.1 ((hmi x.i).2 ⟨x, hx, rfl⟩))
        rw [hd, Bool.false_or] at h2
        exact ⟨h1.2 h2 _, h1.2⟩
      · have hd' : inB dn' j = false := hd
        rw [hB6] at hd'; cases hd'
      · rw [acc_append, hacc, lookO_put]
        show Ent.app _ _ = _
        unfold Ent.app killO
        dsimp only
        rw [tgt_none]
        simp
      · by_cases hqj : q = j
        · subst hqj; exact hjT
        · rw [hget q hqj]
          have h1 := List.all_eq_true.1 hB4 q (inB_iff.1 hq)
          simp only [Bool.or_eq_true] at h1
          rcases h1 with (h1 | h1) | h1
          · exact absurd (Nat.eq_of_beq_eq_true h1) hqj
          · exact hfs.done q h1
          · exact ready_need hg hfs.cl hj h1
      · by_cases hqj : q = j
        · subst hqj; exact ⟨_, List.mem_append_right _ (List.mem_singleton.2 rfl), rfl⟩
        · rw [hget q hqj] at hq
          obtain ⟨x, h1, h2⟩ := hfs.only q hq
          exact ⟨x, List.mem_append_left _ h1, h2⟩
      · rw [acc_append]
        have h1 : acc (lst (listed.setIfInBounds j true)) [⟨j, o, .v (F z), none⟩] (acc (lst (listed.setIfInBounds j true)) m A0) = (⟨j, o, .v (F z), none⟩ : Ent).app (acc (lst (listed.setIfInBounds j true)) m A0) := by
          show (bif lst (listed.setIfInBounds j true) j then _ else _) = _
          rw [show lst (listed.setIfInBounds j true) j = true from hjT]; rfl
        rw [h1]
        have h2 : ∀ t, acc (lst (listed.setIfInBounds j true)) m A0 t = acc (lst listed) m A0 t := fun t => acc_congr rfl fun x hx _ => hget x.i (hnew x hx)
        unfold Ent.app
        dsimp only
        rw [tgt_none]
        by_cases hdt : o.dst = some t
        · rw [hdt, putO_eq, putO_eq]
        · rw [putO_ne hdt, putO_ne hdt, ← h2 t]
          unfold killO; simp
theorem JF_end (hB : ((List.range ops.size).all fun j => inB mi j) = true) (hb : bareB EO [] = true) (h : opn EO fun E M => JQ c N E (M ++ L) Q .normal) : JF P ops Q c N nd fr dn ks mi EO L := by
  intro hg hN m A0 hv hmi hacc φ a w listed hfs st
  refine frun hg hN hv (fun φ a w listed hfs st => .inr ⟨fun hr => ?_, fun j hj hjm => ?_⟩) _ φ a w listed rfl hfs st
  · have hall : ∀ x, x ∈ m → listed.getD x.i false = true := fun x hx => by
      have hlt := (Array.getElem?_eq_some_iff.1 (hv.at_ x hx)).1
      cases hv' : listed.getD x.i false with
      | true => rfl
      | false =>
        have h1 : listed.getD x.i true = false := by
          have : x.i < listed.size := by rw [hfs.cl.size]; exact hlt
          simp [this] at hv' ⊢; exact hv'
        obtain ⟨i0, h1, h2, h3⟩ := exists_least_unl (listed := listed) ops.size ⟨x.i, hlt, h1⟩
        have := ready_least hg hfs.cl.size h1 h2 h3
        rw [hr] at this; cases this
    have st' := st.congr (B := lookO EO) fun t => by
      rw [← hacc]
      exact acc_congr rfl fun x hx _ => hall x hx
    obtain ⟨E, M, h1, h2⟩ := st'.open_ hb h
    exact h1 φ a w h2
  · exfalso
    obtain ⟨_, oj, hoj, _⟩ := mem_ready.1 hj
    have h1 := List.all_eq_true.1 hB j (List.mem_range.2 (Array.getElem?_eq_some_iff.1 hoj).1)
    obtain ⟨x, h2, h3⟩ := (hmi j).1 h1
    exact hjm x h2 h3
def nameB (ops : Array Oper) (nd ks mi : List Nat) (d t : Nat) : Bool :=
  inB mi d && ((List.range ops.size).all fun j => inB mi j || (ndOf nd j).testBit d) && (mi.all fun j => Nat.beq j d || !(match ops[j]? with | some x => (namesOf ops x).any (fun s => Nat.beq s t) | none => false)) && !inB ks t
theorem JF_name {ι : Type} {val : ι → Value} {I : ι → Item} (t d : Nat) (hB : nameB ops nd ks mi d t = true) (hd : ((ops[d]?).bind (·.dst)) = some t) (hl : lookO EO t = some (.own val I))
    (h : ∀ i, JF P ops Q c N nd fr (d :: dn) ks mi ((t, .v (Is (val i))) :: killE EO (some t)) (I i :: L)) : JF P ops Q c N nd fr dn ks mi EO L := by
  intro hg hN m A0 hv hmi hacc φ a w listed hfs st
  unfold nameB at hB
  simp only [Bool.and_eq_true] at hB
  obtain ⟨⟨⟨hB1, hB2⟩, hB3⟩, hB4⟩ := hB
  obtain ⟨xd, hxd1, hxd2⟩ := (hmi d).1 hB1
  have hdlt : d < ops.size := by rw [← hxd2]; exact (Array.getElem?_eq_some_iff.1 (hv.at_ xd hxd1)).1
  have hto : ∀ x, x ∈ m → x.tch t → x.i = d := fun x hx ht => by
    rcases ht with ht | ht
    · have h1 := List.all_eq_true.1 hB3 x.i (inB_iff.1 ((hmi x.i).2 ⟨x, hx, rfl⟩))
      rw [hv.at_ x hx] at h1
      simp only [Bool.or_eq_true] at h1
      rcases h1 with h1 | h1
      · exact Nat.eq_of_beq_eq_true h1
      · have h2 : ((namesOf ops x.o).any fun s => Nat.beq s t) = true := List.any_eq_true.2 ⟨t, List.mem_append_right _ (by rw [ht]; simp), by simp⟩
        rw [h2] at h1; cases h1
    · have h1 := inB_iff.2 (hv.kls x hx t ht)
      rw [h1] at hB4; cases hB4
  have hnl : ∀ x, x ∈ m → x.i ≠ d → t ∉ namesOf ops x.o := fun x hx hne h2 => by
    have h1 := List.all_eq_true.1 hB3 x.i (inB_iff.1 ((hmi x.i).2 ⟨x, hx, rfl⟩))
    rw [hv.at_ x hx] at h1
    simp only [Bool.or_eq_true] at h1
    rcases h1 with h1 | h1
    · exact hne (Nat.eq_of_beq_eq_true h1)
    · have h2 : ((namesOf ops x.o).any fun s => Nat.beq s t) = true := List.any_eq_true.2 ⟨t, h2, by simp⟩
      rw [h2] at h1; cases h1
  refine frun hg hN hv (fun φ a w listed hfs st => ?_) _ φ a w listed rfl hfs st
  cases hld : listed.getD d false with
  | false =>
    refine .inr ⟨fun hr => ?_, fun j hj hjm => ?_⟩
    · have h1 : listed.getD d true = false := by
        have : d < listed.size := by rw [hfs.cl.size]; exact hdlt
        simp [this] at hld ⊢; exact hld
      obtain ⟨i0, h1, h2, h3⟩ := exists_least_unl (listed := listed) ops.size ⟨d, hdlt, h1⟩
      have := ready_least hg hfs.cl.size h1 h2 h3
      rw [hr] at this; cases this
    · exfalso
      obtain ⟨_, oj, hoj, _⟩ := mem_ready.1 hj
      have h1 := List.all_eq_true.1 hB2 j (List.mem_range.2 (Array.getElem?_eq_some_iff.1 hoj).1)
      simp only [Bool.or_eq_true] at h1
      rcases h1 with h1 | h1
      · obtain ⟨x, h2, h3⟩ := (hmi j).1 h1
        exact hjm x h2 h3
      · have := ready_need hg hfs.cl hj h1
        rw [hld] at this; cases this
  | true =>
    left
    have hAt : acc (lst listed) m A0 t = some (.own val I) := by
      rw [← hl, ← hacc]
      exact acc_congr rfl fun x hx ht => by rw [hto x hx ht]; exact hld
    obtain ⟨i, st2⟩ := st.openT hAt
    let tell : Ent → Ent := fun x => if x.i = d then ⟨x.i, x.o, .v (Is (val i)), x.kl⟩ else x
    have htl : ∀ x : Ent, x.i ≠ d → tell x = x := fun x hx => if_neg hx
    have htd : ∀ x : Ent, x.i = d → tell x = ⟨x.i, x.o, .v (Is (val i)), x.kl⟩ := fun x hx => if_pos hx
    have htio : ∀ x : Ent, (tell x).i = x.i ∧ (tell x).o = x.o := fun x => by
      by_cases hx : x.i = d
      · rw [htd x hx]; exact ⟨rfl, rfl⟩
      · rw [htl x hx]; exact ⟨rfl, rfl⟩
    have htk : ∀ x : Ent, (tell x).kl = x.kl := fun x => by
      by_cases hx : x.i = d
      · rw [htd x hx]
      · rw [htl x hx]
    have hxd : ∀ x, x ∈ m → x.i = d → x.o.dst = some t := fun x hx hi => by
      have h2 := hv.at_ x hx
      rw [hi] at h2
      rw [h2] at hd; exact hd
    have hkt : ∀ x, x ∈ m → x.kl ≠ some t := fun x hx e => by
      have h1 := inB_iff.2 (hv.kls x hx t e)
      rw [h1] at hB4; cases hB4
    have happ : ∀ x, x ∈ m → ∀ s, s ≠ t → ∀ A B : Nat → Option Out, A s = B s → x.app A s = (tell x).app B s := fun x hx s hs A B hAB => by
      by_cases hi : x.i = d
      · rw [htd x hi]
        unfold Ent.app
        dsimp only
        have h1 := tgt_some (hxd x hx hi) x.kl
        rw [h1, putO_ne (fun e => hs (Option.some.inj e).symm), putO_ne (fun e => hs (Option.some.inj e).symm)]
        unfold killO
        split
        · rfl
        · exact hAB
      · rw [htl x hi]
        by_cases ht : x.tch s
        · exact Ent.app_same (.inl ht)
        · exact Ent.app_same (.inr hAB)
    have haway : ∀ (p : Nat → Bool) (m1 : List Ent), (∀ x, x ∈ m1 → x ∈ m) → ∀ s, s ≠ t → acc p m1 A0 s = acc p (m1.map tell) A0 s := fun p m1 hm1 s hs => by
      refine acc_not (by simp) (fun j x x' h1 h2 => ?_) rfl
      rw [List.getElem?_map, h1] at h2
      simp only [Option.map_some, Option.some.injEq] at h2
      rw [← h2]
      exact ⟨(htio x).1, happ x (hm1 x (List.mem_of_getElem? h1)) s hs⟩
    have hat : ∀ p : Nat → Bool, p d = true → acc p (m.map tell) A0 t = some (.v (Is (val i))) := fun p hpd => by
      refine acc_at hpd (fun x hx => ?_) (.inr ⟨tell xd, List.mem_map.2 ⟨xd, hxd1, rfl⟩, by rw [(htio xd).1, hxd2]⟩)
      obtain ⟨y, hy, rfl⟩ := List.mem_map.1 hx
      refine ⟨fun hi A => ?_, fun hi ht => ?_⟩
      · rw [(htio y).1] at hi
        rw [htd y hi]
        unfold Ent.app
        dsimp only
        rw [tgt_some (hxd y hy hi), putO_eq]
      · rw [(htio y).1] at hi
        rw [htl y hi] at ht
        exact hi (hto y hy ht)
    have hv' : FV P ops c nd (I i :: L) fr (d :: dn) ks (m.map tell) A0 := by
      refine ⟨fun x hx => ?_, List.pairwise_map.2 (hv.dif.imp fun {x y} h1 => by rw [(htio x).1, (htio y).1]; exact h1), List.pairwise_map.2 (hv.ord.imp fun {x y} h1 => by rw [(htio x).1, (htio y).1]; exact h1), fun m1 x m2 hm => ?_, fun x hx s hs => ?_⟩
      · obtain ⟨y, hy, rfl⟩ := List.mem_map.1 hx
        rw [(htio y).1, (htio y).2]; exact hv.at_ y hy
      · obtain ⟨l1, l2, h1, rfl, h3⟩ := List.map_eq_append_iff.1 hm
        obtain ⟨y, l3, h4, rfl, rfl⟩ := List.map_eq_cons_iff.1 h3
        rw [h4] at h1
        have hym : y ∈ m := by rw [h1]; exact List.mem_append_right _ (List.mem_cons_self ..)
        have hl1 : ∀ x, x ∈ l1 → x ∈ m := fun x hx => by rw [h1]; exact List.mem_append_left _ hx
        obtain ⟨g1, g2⟩ := hv.op l1 y l3 h1
        refine ⟨fun hdn => ?_, fun s hs => ?_⟩
        · rw [(htio y).1] at hdn
          have hne : y.i ≠ d := fun e => by
            have : inB (d :: dn) y.i = true := inB_iff.2 (by rw [e]; exact List.mem_cons_self ..)
            rw [hdn] at this; cases this
          have hdn' : inB dn y.i = false := by
            cases hv' : inB dn y.i with
            | false => rfl
            | true =>
              have : inB (d :: dn) y.i = true := inB_iff.2 (List.mem_cons_of_mem _ (inB_iff.1 hv'))
              rw [hdn] at this; cases this
          rw [htl y hne]
          obtain ⟨g3, g4⟩ := g1 hdn'
          have hc : ∀ s, s ∈ y.o.looksAt ops ∨ y.kl = some s → acc (fun _ => true) (l1.map tell) A0 s = acc (fun _ => true) l1 A0 s := fun s hs => by
            refine (haway _ l1 hl1 s ?_).symm
            rintro rfl
            rcases hs with hs | hs
            · exact hnl y hym hne (List.mem_append_left _ hs)
            · exact hkt y hym hs
          exact ⟨g3.more.congr hc, fun h5 L'' => (g4 h5 L'').congr hc⟩
        · rw [htk y] at hs
          have hst : s ≠ t := fun e => hkt y hym (by rw [hs, e])
          obtain ⟨⟨g3, ι', val', I', g4⟩, g5⟩ := g2 s hs
          rw [(htio y).1, (htio y).2]
          exact ⟨⟨g3, ι', val', I', by rw [← haway _ l1 hl1 s hst]; exact g4⟩, g5⟩
      · obtain ⟨y, hy, rfl⟩ := List.mem_map.1 hx
        rw [htk y] at hs; exact hv.kls y hy s hs
    refine h i hg hN (m.map tell) A0 hv' (fun j => (hmi j).trans ⟨fun ⟨x, h1, h2⟩ => ⟨tell x, List.mem_map.2 ⟨x, h1, rfl⟩, by rw [(htio x).1]; exact h2⟩, fun ⟨x, h1, h2⟩ => ?_⟩) ?_ φ a w listed ⟨hfs.cl, fun j hj => ?_, fun j hj => ?_⟩ (st2.congr fun s => ?_)
    · obtain ⟨y, hy, rfl⟩ := List.mem_map.1 h1
      exact ⟨y, hy, by rw [← (htio y).1]; exact h2⟩
    · funext s
      by_cases hs : s = t
      · subst hs
        rw [hat _ rfl]
        simp [lookO]
      · rw [← haway _ m (fun x hx => hx) s hs, hacc]
        simp only [lookO, beq_ff (Ne.symm hs), cond_false]
        rw [lookO_kill, killO_ne (fun e => hs (Option.some.inj e).symm)]
    · rcases List.mem_cons.1 (inB_iff.1 hj) with rfl | hj
      · exact hld
      · exact hfs.done j (inB_iff.2 hj)
    · obtain ⟨x, h1, h2⟩ := hfs.only j hj
      exact ⟨tell x, List.mem_map.2 ⟨x, h1, rfl⟩, by rw [(htio x).1]; exact h2⟩
    · by_cases hs : s = t
      · subst hs
        rw [if_pos rfl, hat _ hld]
      · rw [if_neg hs]; exact haway _ m (fun x hx => hx) s hs
theorem JD_fl {its : List Item} {rest : List Oper} {E : Env} (h : JF P ops Q c N nd [] [] [] [] (ghosts N its ++ liftE E) L) : JD P ops Q c N nd 0 rest E (its ++ L) := fun hg hN hk hrest φ a w listed hp st =>
  h hg hN [] (lookO (ghosts N its ++ liftE E)) ⟨fun x hx => (by cases hx), List.Pairwise.nil, List.Pairwise.nil, fun m1 x m2 hm => (by simp at hm), fun x hx => (by cases hx)⟩ (fun i => ⟨fun hi => absurd (inB_iff.1 hi) (by simp), fun ⟨x, hx, _⟩ => (by cases hx)⟩) rfl φ a w listed
    ⟨hp.cl, fun i hi => absurd (inB_iff.1 hi) (by simp), fun i hi => by
      exfalso
      have hlt : i < listed.size := by
        rcases Nat.lt_or_ge i listed.size with h1 | h1
        · exact h1
        · simp [Nat.not_lt.2 h1] at hi
      have h1 : listed.getD i true = true := by simp [hlt] at hi ⊢; exact hi
      have := (hp.pre i (by rw [← hp.cl.size]; exact hlt)).1 h1
      omega⟩ (SS.startG st)
/-! ### The steps -/
section
variable {i : Nat} {t : Tmp} {op : Op} {ty : TypeId} {pos : String} {af : Array Edge}
theorem LocOp.p {o : Oper} {F : VP} (hgd : o.guard = none) (hs : OpP P c o (vals EO) L F) : LocOp P ops c L o (lookO EO) (.v F) none := fun φ a w K Q M hm ht hl hk => by
  rw [if_pos (by simp [Region.wanted, hgd])]
  obtain rfl : M = [] := ht
  exact hs φ a w K Q hm (evs hm.mem.facts hl) fun φ' v w' hp hf => hk φ' v w' (by rw [res_none]; exact ⟨hp, hf⟩)
theorem LocOp.n {o : Oper} {ι : Type} {val : ι → Value} {I : ι → Item} (hgd : o.guard = none) (hs : OpN P c o (vals EO) L val I) : LocOp P ops c L o (lookO EO) (.own val I) none := fun φ a w K Q M hm ht hl hk => by
  rw [if_pos (by simp [Region.wanted, hgd])]
  obtain rfl : M = [] := ht
  exact hs φ a w K Q hm (evs hm.mem.facts hl) fun i φ' w' hp => hk φ' _ w' ⟨i, res_none _ _ _, hp⟩
def newB1 (nd fr mi : List Nat) (i : Nat) : Bool := newB nd mi i && !inB fr i
theorem newB1_spec (h : newB1 nd fr mi i = true) : newB nd mi i = true ∧ inB fr i = false := by
  unfold newB1 at h
  simp only [Bool.and_eq_true, Bool.not_eq_true'] at h
  exact h
theorem JF_1 {F : VP} (i : Nat) (hi : ops[i]? = some ⟨some t, op, ty, pos, af, none⟩) (hB : newB1 nd fr mi i = true) (hs : OpP P c ⟨some t, op, ty, pos, af, none⟩ (vals EO) L F) (h : JF P ops Q c N nd fr dn ks (i :: mi) ((t, .v F) :: EO) L) : JF P ops Q c N nd fr dn ks mi EO L :=
  JF_add fr hi (newB1_spec hB).1 killOk_none (LocOp.p rfl hs) (.inl ⟨rfl, (newB1_spec hB).2⟩) h
theorem JF_1f {F : VP} (i : Nat) (hi : ops[i]? = some ⟨some t, op, ty, pos, af, none⟩) (hB : newB1 nd fr mi i = true) (hs : ∀ L, OpP P c ⟨some t, op, ty, pos, af, none⟩ (vals EO) L F) (h : JF P ops Q c N nd (i :: fr) dn ks (i :: mi) ((t, .v F) :: EO) L) : JF P ops Q c N nd fr dn ks mi EO L :=
  JF_add (i :: fr) hi (newB1_spec hB).1 killOk_none (LocOp.p rfl (hs L)) (.inr ⟨rfl, fun L' => LocOp.p rfl (hs L')⟩) h
theorem JF_n {ι : Type} {val : ι → Value} {I : ι → Item} (i : Nat) (hi : ops[i]? = some ⟨some t, op, ty, pos, af, none⟩) (hB : newB1 nd fr mi i = true) (hs : OpN P c ⟨some t, op, ty, pos, af, none⟩ (vals EO) L val I) (h : JF P ops Q c N nd fr dn ks (i :: mi) ((t, .own val I) :: EO) L) : JF P ops Q c N nd fr dn ks mi EO L :=
  JF_add fr hi (newB1_spec hB).1 killOk_none (LocOp.n rfl hs) (.inl ⟨rfl, (newB1_spec hB).2⟩) h
theorem JF_nf {ι : Type} {val : ι → Value} {I : ι → Item} (i : Nat) (hi : ops[i]? = some ⟨some t, op, ty, pos, af, none⟩) (hB : newB1 nd fr mi i = true) (hs : ∀ L, OpN P c ⟨some t, op, ty, pos, af, none⟩ (vals EO) L val I) (h : JF P ops Q c N nd (i :: fr) dn ks (i :: mi) ((t, .own val I) :: EO) L) : JF P ops Q c N nd fr dn ks mi EO L :=
  JF_add (i :: fr) hi (newB1_spec hB).1 killOk_none (LocOp.n rfl (hs L)) (.inr ⟨rfl, fun L' => LocOp.n rfl (hs L')⟩) h
/-- A barrier with a result; without one. -/
theorem JF_b {ι : Type} {F : ι → VP} {L' : ι → List Item} (i : Nat) (dn' : List Nat) (hi : ops[i]? = some ⟨some t, op, ty, pos, af, none⟩) (hB : barB ops nd fr dn dn' mi i = true) (hs : ∀ c' : Ctx, OpS P c' ⟨some t, op, ty, pos, af, none⟩ (vals EO) L F L')
    (h : ∀ z, JF P ops Q c N nd fr dn' ks (i :: mi) ((t, .v (F z)) :: EO) (L' z)) : JF P ops Q c N nd fr dn ks mi EO L := JF_bar dn' hi rfl hB hs h
theorem JF_b0 {F : Unit → VP} {L' : Unit → List Item} (i : Nat) (dn' : List Nat) (hi : ops[i]? = some ⟨none, op, ty, pos, af, none⟩) (hB : barB ops nd fr dn dn' mi i = true) (hs : ∀ c' : Ctx, OpS P c' ⟨none, op, ty, pos, af, none⟩ (vals EO) L F L')
    (h : JF P ops Q c N nd fr dn' ks (i :: mi) EO (L' ())) : JF P ops Q c N nd fr dn ks mi EO L := JF_bar dn' hi rfl hB hs fun _ => h
end
end
end
end Go.Proofs.YtfglhiciagmicaaGreat

/- Contracts: a fabric takes one step. Own work. -/
namespace Go.Proofs.YtfglhiciagmicaaGreat
open Go.RowKit
set_option linter.unusedVariables false
set_option linter.unusedSimpArgs false
set_option maxRecDepth 100000
/-- The queues of a batch of m verbs under way. -/
structure QInv (n m : Nat) (prs : List Pr) (hs : List Bool) : Prop where
  len : prs.length = n
  hl : hs.length = m
  cl : ∀ (j : Nat) (pr : Pr), prs[j]? = some pr → pr.client = 0 ∧ pr.node = (j : Int) ∧ pr.q.length ≤ 1024
  inq : ∀ (j : Nat) (pr : Pr) (x : Pd), prs[j]? = some pr → x ∈ pr.q → InQ x ∧ 0 ≤ x.slot ∧ x.slot < (m : Int)
  all : ∀ s : Nat, hs[s]? = some false → ∃ (j : Nat) (pr : Pr) (x : Pd), prs[j]? = some pr ∧ x ∈ pr.q ∧ x.slot = (s : Int)
theorem PInv.toQ {n m : Nat} {prs : List Pr} (h : PInv n m prs) (hm : m ≤ 1024) : QInv n m prs (List.replicate m false) :=
  ⟨h.len, by simp, fun j pr hj => ⟨(h.cl j pr hj).1, (h.cl j pr hj).2.1, by have := (h.cl j pr hj).2.2; omega⟩, h.inq, fun s hs => h.all s (by have := (List.getElem?_eq_some_iff.1 hs).1; simpa using this)⟩
/-- How many pieces are left. -/
def leftP (x : Pd) : Nat := (piecesV x.v).length - x.ex.toNat
def leftQ (pr : Pr) : Nat := (pr.q.map leftP).sum
def leftF (prs : List Pr) : Nat := (prs.map leftQ).sum
theorem sum_set {α : Type} {g : α → Nat} : ∀ {l : List α} {k : Nat} {a b : α}, l[k]? = some a → ((l.set k b).map g).sum + g a = (l.map g).sum + g b
  | [], k, a, b, h => by simp at h
  | x :: l, 0, a, b, h => by
    simp at h; subst h
    simp; omega
  | x :: l, k + 1, a, b, h => by
    have := sum_set (g := g) (b := b) (l := l) (k := k) (by simpa using h)
    simp only [List.set_cons_succ, List.map_cons, List.sum_cons]; omega
theorem QInv.put {n m k : Nat} {prs : List Pr} {hs hs' : List Bool} {pr : Pr} {q : List Pd} (h : QInv n m prs hs) (hz : prs[k]? = some pr) (hl : q.length ≤ pr.q.length) (hl' : hs'.length = m)
    (hin : ∀ x, x ∈ q → InQ x ∧ 0 ≤ x.slot ∧ x.slot < (m : Int)) (hall : ∀ s : Nat, hs'[s]? = some false → hs[s]? = some false ∧ ∀ x, x ∈ pr.q → x.slot = (s : Int) → ∃ y, y ∈ q ∧ y.slot = (s : Int)) : QInv n m (prs.set k (pr.withQ q)) hs' := by
  have hk := (List.getElem?_eq_some_iff.1 hz).1
  have key : ∀ (j : Nat) (p : Pr), (prs.set k (pr.withQ q))[j]? = some p → (j = k ∧ p = pr.withQ q) ∨ (j ≠ k ∧ prs[j]? = some p) := fun j p hj => by
    by_cases e : j = k
    · subst e
      rw [List.getElem?_set_self hk] at hj
      injection hj with hj
      exact .inl ⟨rfl, hj.symm⟩
    · rw [List.getElem?_set_ne (Ne.symm e)] at hj
      exact .inr ⟨e, hj⟩
  refine ⟨by simp [h.len], hl', fun j p hj => ?_, fun j p x hj hx => ?_, fun s hs => ?_⟩
  · rcases key j p hj with ⟨rfl, rfl⟩ | ⟨e, hj⟩
    · obtain ⟨h1, h2, h3⟩ := h.cl j pr hz
      exact ⟨h1, h2, Nat.le_trans hl h3⟩
    · exact h.cl j p hj
  · rcases key j p hj with ⟨rfl, rfl⟩ | ⟨e, hj⟩
    · exact hin x hx
    · exact h.inq j p x hj hx
  · obtain ⟨h1, h2⟩ := hall s hs
    obtain ⟨j, p, x, h3, h4, h5⟩ := h.all s h1
    by_cases e : j = k
    · subst e
      rw [hz] at h3
      injection h3 with h3
      subst h3
      obtain ⟨y, h6, h7⟩ := h2 x h4 h5
      exact ⟨j, _, y, by rw [List.getElem?_set_self hk], h6, h7⟩
    · exact ⟨j, p, x, by rw [List.getElem?_set_ne (Ne.symm e)]; exact h3, h4, h5⟩
theorem QInv.fin {n m k : Nat} {prs : List Pr} {hs : List Bool} {pr : Pr} {x : Pd} {rest : List Pd} (h : QInv n m prs hs) (hz : prs[k]? = some pr) (hq : pr.q = x :: rest) : QInv n m (prs.set k (pr.withQ rest)) (hs.set x.slot.toNat true) ∧ leftF (prs.set k (pr.withQ rest)) < leftF prs := by
  have hx := h.inq k pr x hz (by rw [hq]; exact List.mem_cons_self ..)
  refine ⟨h.put hz (by rw [hq]; simp) (by simp [h.hl]) (fun y hy => h.inq k pr y hz (by rw [hq]; exact List.mem_cons_of_mem _ hy)) (fun s hs' => ?_), ?_⟩
  · have hne : s ≠ x.slot.toNat := fun e => by
      subst e
      rw [List.getElem?_set_self (by rw [h.hl]; omega)] at hs'
      cases hs'
    rw [List.getElem?_set_ne (Ne.symm hne)] at hs'
    refine ⟨hs', fun y hy hys => ?_⟩
    rw [hq] at hy
    rcases List.mem_cons.1 hy with rfl | hy
    · exact absurd (by omega) hne
    · exact ⟨y, hy, hys⟩
  · have h1 := sum_set (g := leftQ) (b := pr.withQ rest) hz
    have h2 : leftQ pr = leftP x + leftQ (pr.withQ rest) := by unfold leftQ Pr.withQ; rw [hq]; simp
    have h3 : 1 ≤ leftP x := by have := hx.1.hi; have := hx.1.lo; unfold leftP; omega
    unfold leftF; omega
theorem QInv.on {n m k : Nat} {prs : List Pr} {hs : List Bool} {pr : Pr} {x y : Pd} {rest : List Pd} (h : QInv n m prs hs) (hz : prs[k]? = some pr) (hq : pr.q = x :: rest) (hy : InQ y) (hs' : y.slot = x.slot) (hv : y.v = x.v) (he : y.ex = x.ex + 1) : QInv n m (prs.set k (pr.withQ (y :: rest))) hs ∧ leftF (prs.set k (pr.withQ (y :: rest))) < leftF prs := by
  have hx := h.inq k pr x hz (by rw [hq]; exact List.mem_cons_self ..)
  refine ⟨h.put hz (by rw [hq]; simp) h.hl (fun u hu => ?_) (fun s hs1 => ⟨hs1, fun u hu hus => ?_⟩), ?_⟩
  · rcases List.mem_cons.1 hu with rfl | hu
    · rw [hs']; exact ⟨hy, hx.2⟩
    · exact h.inq k pr u hz (by rw [hq]; exact List.mem_cons_of_mem _ hu)
  · rw [hq] at hu
    rcases List.mem_cons.1 hu with rfl | hu
    · exact ⟨y, List.mem_cons_self .., by rw [hs', hus]⟩
    · exact ⟨u, List.mem_cons_of_mem _ hu, hus⟩
  · have h1 := sum_set (g := leftQ) (b := pr.withQ (y :: rest)) hz
    have h2 : leftQ pr + leftP y = leftP x + leftQ (pr.withQ (y :: rest)) := by unfold leftQ Pr.withQ; rw [hq]; simp; omega
    have h3 : leftP y < leftP x := by have := hx.1.hi; have := hx.1.lo; unfold leftP; rw [hv, he]; omega
    unfold leftF; omega
theorem QInv.step {n m k : Nat} {prs : List Pr} {hs : List Bool} {pr : Pr} {x : Pd} {rest : List Pd} {z : StO} (h : QInv n m prs hs) (hz : prs[k]? = some pr) (hq : pr.q = x :: rest) (hr : StepR x rest z) : QInv n m (prs.set k (pr.withQ z.q)) (if z.fin then hs.set x.slot.toNat true else hs) ∧ leftF (prs.set k (pr.withQ z.q)) < leftF prs := by
  have hx := h.inq k pr x hz (by rw [hq]; exact List.mem_cons_self ..)
  rcases hr.2 with ⟨h1, h2, h3⟩ | ⟨h1, ws, h2, h3, h4⟩
  · rw [h1, h3, if_pos rfl]; exact h.fin hz hq
  · rw [h1, h2, if_neg (by decide)]
    refine h.on hz hq ⟨hx.1.v, by have := hx.1.lo; dsimp only; omega, h3, hx.1.w, h4⟩ rfl rfl rfl
-- (*bodegaref6.Fabric).Step: function 77
set_option maxHeartbeats 4000000 in
theorem FStep_ok (f n m : Nat) (hn : n ≤ 5) (nb cb lb pb da ha : WA) (nds : List FN) (hl : nds.length = n) (prs : List Pr) (ds : List Dn) (hs : List Bool) (hqi : QInv n m prs hs) (hdl : ds.length = m) (hdw : ∀ d, d ∈ ds → d.words.length ≤ 802816) (k : Nat) (pr : Pr) (x : Pd) (rest : List Pd) (hzp : prs[k]? = some pr) (hpq : pr.q = x :: rest) :
    Fn Tryz.prog 77 [Is (.pointer (some ⟨f, 0, none⟩)), IsCh ⟨-1, 0, (k : Nat)⟩] (fabB f n m nb cb lb pb da ha nds prs ds hs)
    (fun _ : {z : List Pr × List Dn × List Bool // QInv n m z.1 z.2.2 ∧ z.2.1.length = m ∧ (∀ d, d ∈ z.2.1 → d.words.length ≤ 802816) ∧ leftF z.1 < leftF prs} => Is (.bool true))
    (fun z => fabB f n m nb cb lb pb da ha nds z.1.1 z.1.2.1 z.1.2.2) := by
  have hzl : [slV n pb][0]? = some (slV n pb) := rfl
  have hzc : [cnOn m da ha 1 m][0]? = some (cnOn m da ha 1 m) := rfl
  have hpl := hqi.len
  have hhl := hqi.hl
  have hkp := (List.getElem?_eq_some_iff.1 hzp).1
  obtain ⟨d, hzn⟩ : ∃ d, nds[k]? = some d := ⟨_, List.getElem?_eq_getElem (by omega)⟩
  obtain ⟨hc1, hc2, hc3⟩ := hqi.cl k pr hzp
  obtain ⟨hx1, hx2, hx3⟩ := hqi.inq k pr x hzp (by rw [hpq]; exact List.mem_cons_self ..)
  have hdr : Drop1 (nds.map wbF) (wbF d) ((nds.eraseIdx k).map wbF) := drop_map hzn
  have hps := PairStep_ok n n pb nb prs k pr hzp nds k d hzn (by omega) x rest hpq hx1 hc3
  obtain ⟨s, hs0⟩ : ∃ s : Nat, (s : Int) = x.slot := ⟨x.slot.toNat, by omega⟩
  obtain ⟨d0, hzd⟩ : ∃ d0, ds[s]? = some d0 := ⟨_, List.getElem?_eq_getElem (by omega)⟩
  obtain ⟨b0, hzh⟩ : ∃ b0, hs[s]? = some b0 := ⟨_, List.getElem?_eq_getElem (by omega)⟩
  have hst : ∀ z : StO, StepR x rest z → _ := fun z hr => hqi.step hzp hpq hr
  refine Fn.enterN Tryz.func77 Tryz.ntmps77 rfl rfl ?_
  intro c hX
  refine JC_seq ?_
  refine JC_region ?_
  (refine JL_n rfl (op_box (Ev.rfl' rfl) cellsT) ?_; intro i3)
  refine JL_1 rfl (op_assign rfl) ?_
  refine JL_nil ?_
  refine JQ_then (JC_seq (JC_seq ?_))
  refine JC_region ?_
  refine JL_1 rfl (by exact op_fieldPtr (k := 0) (Ev.rfl' rfl) rfl rfl rfl rfl) ?_
  refine JL_1 rfl (by exact op_loadPtr (Ev.rfl' rfl) memT (by rfl) (by rfl) (by rfl)) ?_
  refine JL_1 rfl (op_geq (Ev.rfl' rfl) (Ev.rfl' rfl)) ?_
  refine JL_nil ?_
  refine JQ_then ?_
  refine JC_cond (Ev.rfl' rfl) (fun h1 => ?_) (fun h1 => ?_)
  · exact absurd (of_decide_eq_true h1) (by dsimp only; omega)
  refine JC_skip (JQ_then (JC_seq (JC_seq ?_)))
  refine JC_dr rfl (by kernel_rfl) ?_
  refine JD_stretch 33 (by kernel_rfl) ?_
  refine JW_1 (by exact op_fieldPtr (k := 0) (Ev.rfl' rfl) rfl rfl rfl rfl) ?_
  refine JW_1 (by exact op_loadPtr (Ev.rfl' rfl) memT (by rfl) (by rfl) (by rfl)) ?_
  refine JW_1 (op_neq (Ev.rfl' rfl) (Ev.rfl' rfl)) ?_
  refine JW_1 (op_move rfl) ?_
  (refine JW_i0 rfl rfl (fun hg => (by have hg0 := hg; (try simp at hg); exact op_fieldPtr (k := 1) evG rfl rfl rfl rfl)) ?_)
  (refine JW_i0 rfl rfl (fun hg => (by have hg0 := hg; (try simp at hg); exact op_loadPtr evG memT (by rfl) (by rfl) (by rfl))) ?_)
  (refine JW_i0 rfl rfl (fun hg => (by have hg0 := hg; (try simp at hg); exact op_lss evG evG)) ?_)
  refine JW_1 (op_or (Ev.rfl' rfl) rfl (fun h => by exact SubL.rfl')) ?_
  refine JW_1 (op_move rfl) ?_
  (refine JW_i0 rfl rfl (fun hg => (by have hg0 := hg; (try simp at hg); exact op_fieldPtr (k := 1) evG rfl rfl rfl rfl)) ?_)
  (refine JW_i0 rfl rfl (fun hg => (by have hg0 := hg; (try simp at hg); exact op_loadPtr evG memT (by rfl) (by rfl) (by rfl))) ?_)
  (refine JW_i0 rfl rfl (fun hg => (by have hg0 := hg; (try simp at hg); exact op_moveE (Ev.rfl' rfl))) ?_)
  (refine JW_i0 rfl rfl (fun hg => (by have hg0 := hg; (try simp at hg); exact op_nilCheck evG)) ?_)
  (refine JW_i0 rfl rfl (fun hg => (by have hg0 := hg; (try simp at hg); exact op_fieldPtr (k := 3) evG rfl rfl rfl rfl)) ?_)
  (refine JW_i0 rfl rfl (fun hg => (by have hg0 := hg; (try simp at hg); exact op_loadPtr evG memT (by rfl) (by rfl) (by rfl))) ?_)
  (refine JW_i0 rfl rfl (fun hg => (by have hg0 := hg; (try simp at hg); exact op_lenLit evG rfl)) ?_)
  (refine JW_i0 rfl rfl (fun hg => (by have hg0 := hg; (try simp at hg); exact op_geq evG evG)) ?_)
  refine JW_1 (op_or (Ev.rfl' rfl) rfl (fun h => by exact SubL.rfl')) ?_
  refine JW_1 (op_move rfl) ?_
  (refine JW_i0 rfl rfl (fun hg => (by have hg0 := hg; (try simp at hg); exact op_fieldPtr (k := 2) evG rfl rfl rfl rfl)) ?_)
  (refine JW_i0 rfl rfl (fun hg => (by have hg0 := hg; (try simp at hg); exact op_loadPtr evG memT (by rfl) (by rfl) (by rfl))) ?_)
  (refine JW_i0 rfl rfl (fun hg => (by have hg0 := hg; (try simp at hg); exact op_lss evG evG)) ?_)
  refine JW_1 (op_or (Ev.rfl' rfl) rfl (fun h => by exact SubL.rfl')) ?_
  refine JW_1 (op_move rfl) ?_
  (refine JW_i0 rfl rfl (fun hg => (by have hg0 := hg; (try simp at hg); exact op_fieldPtr (k := 2) evG rfl rfl rfl rfl)) ?_)
  (refine JW_i0 rfl rfl (fun hg => (by have hg0 := hg; (try simp at hg); exact op_loadPtr evG memT (by rfl) (by rfl) (by rfl))) ?_)
  (refine JW_i0 rfl rfl (fun hg => (by have hg0 := hg; (try simp at hg); exact op_moveE (Ev.rfl' rfl))) ?_)
  (refine JW_i0 rfl rfl (fun hg => (by have hg0 := hg; (try simp at hg); exact op_nilCheck evG)) ?_)
  (refine JW_i0 rfl rfl (fun hg => (by have hg0 := hg; (try simp at hg); exact op_fieldPtr (k := 1) evG rfl rfl rfl rfl)) ?_)
  (refine JW_i0 rfl rfl (fun hg => (by have hg0 := hg; (try simp at hg); exact op_loadPtr evG memT (by rfl) (by rfl) (by rfl))) ?_)
  (refine JW_i0 rfl rfl (fun hg => (by have hg0 := hg; (try simp at hg); exact op_lenLit evG rfl)) ?_)
  (refine JW_i0 rfl rfl (fun hg => (by have hg0 := hg; (try simp at hg); exact op_geq evG evG)) ?_)
  refine JW_1 (op_or (Ev.rfl' rfl) rfl (fun h => by exact SubL.rfl')) ?_
  refine ⟨rfl, ?_⟩
  refine JD_end ?_
  refine JQ_then ?_
  refine JC_cond (Ev.rfl' rfl) (fun h9 => ?_) (fun h9 => ?_)
  · exact absurd h9 (by simp; omega)
  refine JC_skip (JQ_then (JC_seq ?_))
  refine JC_dr rfl (by kernel_rfl) ?_
  refine JD_fl (its := []) ?_
  refine JF_1 0 rfl (by kernel_rfl) (op_move rfl) ?_
  refine JF_1 1 rfl (by kernel_rfl) (by exact op_nilCheck (Ev.rfl' rfl)) ?_
  refine JF_1 2 rfl (by kernel_rfl) (by exact op_fieldPtr (k := 3) (Ev.rfl' rfl) rfl rfl rfl rfl) ?_
  refine JF_1 3 rfl (by kernel_rfl) (by exact op_loadPtr (Ev.rfl' rfl) memT (by rfl) (by rfl) (by rfl)) ?_
  refine JF_1 4 rfl (by kernel_rfl) (by exact op_fieldPtr (k := 1) (Ev.rfl' rfl) rfl rfl rfl rfl) ?_
  refine JF_1 5 rfl (by kernel_rfl) (by exact op_loadPtr (Ev.rfl' rfl) memT (by rfl) (by rfl) (by rfl)) ?_
  refine JF_1 6 rfl (by kernel_rfl) (by exact op_indexBuf (k := 0) (Ev.rfl' rfl) memT (Ev.rfl' rfl) rfl rfl idxT lenT) ?_
  refine JF_1 7 rfl (by kernel_rfl) (by exact op_loadBuf0 (Ev.rfl' rfl) memT hzl rfl rfl (by rfl)) ?_
  refine JF_1 8 rfl (by kernel_rfl) (by exact op_fieldPtr (k := 2) (Ev.rfl' rfl) rfl rfl rfl rfl) ?_
  refine JF_1 9 rfl (by kernel_rfl) (by exact op_loadPtr (Ev.rfl' rfl) memT (by rfl) (by rfl) (by rfl)) ?_
  refine JF_1 10 rfl (by kernel_rfl) (by exact op_indexBuf (k := k) (Ev.rfl' rfl) memT (Ev.rfl' rfl) rfl rfl idxT lenT) ?_
  refine JF_1 11 rfl (by kernel_rfl) (op_move rfl) ?_
  refine JF_1 12 rfl (by kernel_rfl) (by exact op_nilCheck (Ev.rfl' rfl)) ?_
  refine JF_1 13 rfl (by kernel_rfl) (by exact op_fieldPtr (k := 1) (Ev.rfl' rfl) rfl rfl rfl rfl) ?_
  refine JF_1 14 rfl (by kernel_rfl) (by exact op_loadPtr (Ev.rfl' rfl) memT (by rfl) (by rfl) (by rfl)) ?_
  refine JF_1 15 rfl (by kernel_rfl) (by exact op_fieldPtr (k := 2) (Ev.rfl' rfl) rfl rfl rfl rfl) ?_
  refine JF_1 16 rfl (by kernel_rfl) (by exact op_loadPtr (Ev.rfl' rfl) memT (by rfl) (by rfl) (by rfl)) ?_
  refine JF_1 17 rfl (by kernel_rfl) (by exact op_indexBuf (k := k) (Ev.rfl' rfl) memT (Ev.rfl' rfl) rfl rfl idxT lenT) ?_
  refine JF_nf 24 rfl (by kernel_rfl) (fun _ => (op_allocN rfl nrmT rfl)) ?_
  (refine JF_b 18 [0, 1, 2, 3, 4, 5, 6, 7, 8, 9, 10, 11, 12, 13, 14, 15, 16, 17, 18] rfl (by kernel_rfl) (fun c' => by exact op_callM (Drops.cons drop1A (Drops.cons drop1A (Drops.cons drop1A (Drops.nil _)))) Tryz.call93 (hps) ⟨evS, ⟨evS, trivial⟩⟩) ?_; intro i101)
  refine JF_1 19 rfl (by kernel_rfl) (op_move rfl) ?_
  refine JF_1 20 rfl (by kernel_rfl) (op_extract (Ev.rfl' rfl) rfl) ?_
  refine JF_1f 21 rfl (by kernel_rfl) (fun _ => (op_extract (Ev.rfl' rfl) rfl)) ?_
  refine JF_1f 22 rfl (by kernel_rfl) (fun _ => (op_extract (Ev.rfl' rfl) rfl)) ?_
  refine JF_1f 23 rfl (by kernel_rfl) (fun _ => (op_extract (Ev.rfl' rfl) rfl)) ?_
  (refine JF_name 6 24 (by kernel_rfl) rfl rfl ?_; intro i6)
  refine JF_b0 25 [0, 1, 2, 3, 4, 5, 6, 7, 8, 9, 10, 11, 12, 13, 14, 15, 16, 17, 18, 19, 20, 24, 25] rfl (by kernel_rfl) (fun c' => by exact op_store (Ev.rfl' rfl) (Ev.rfl' rfl) cellsT replT (by rfl) (by rfl) (by rfl)) ?_
  refine JF_1 26 rfl (by kernel_rfl) (op_assign rfl) ?_
  refine JF_1 27 rfl (by kernel_rfl) (op_assign rfl) ?_
  refine JF_1 28 rfl (by kernel_rfl) (op_assign rfl) ?_
  refine JF_end (by kernel_rfl) rfl ?_
  refine JQ_then (JC_seq (JC_seq ?_))
  obtain ⟨z, hz⟩ := i101
  dsimp only
  have hzz := hst z hz
  refine JC_region ?_
  refine JL_1 rfl (op_move rfl) ?_
  refine JL_nil ?_
  refine JQ_then ?_
  refine JC_cond (Ev.rfl' rfl) (fun h12 => ?_) (fun h12 => ?_)
  · have hfin : z.fin = true := by simpa using h12
    have hslot : z.slot = x.slot := by rcases hz.2 with ⟨_, h, _⟩ | ⟨h, _⟩; exact h; rw [hfin] at h; cases h
    rw [hfin, if_pos rfl] at hzz
    refine JC_dr rfl (by kernel_rfl) ?_
    refine JD_fl (its := []) ?_
    refine JF_1 0 rfl (by kernel_rfl) (op_move rfl) ?_
    refine JF_1 1 rfl (by kernel_rfl) (by exact op_nilCheck (Ev.rfl' rfl)) ?_
    refine JF_1 2 rfl (by kernel_rfl) (by exact op_fieldPtr (k := 2) (Ev.rfl' rfl) rfl rfl rfl rfl) ?_
    refine JF_1 3 rfl (by kernel_rfl) (by exact op_loadPtr (Ev.rfl' rfl) memT (by rfl) (by rfl) (by rfl)) ?_
    refine JF_1 4 rfl (by kernel_rfl) (by exact op_fieldPtr (k := 1) (Ev.rfl' rfl) rfl rfl rfl rfl) ?_
    refine JF_1 5 rfl (by kernel_rfl) (by exact op_loadPtr (Ev.rfl' rfl) memT (by rfl) (by rfl) (by rfl)) ?_
    refine JF_1 6 rfl (by kernel_rfl) (by exact op_indexBuf (k := 0) (Ev.rfl' rfl) memT (Ev.rfl' rfl) rfl rfl idxT lenT) ?_
    refine JF_1 7 rfl (by kernel_rfl) (by exact op_fieldBuf (k := 3) (Ev.rfl' rfl) memT lenT rfl rfl rfl rfl) ?_
    refine JF_1 8 rfl (by kernel_rfl) (by exact op_loadBuf (Ev.rfl' rfl) memT hzc rfl rfl (by rfl)) ?_
    refine JF_1 9 rfl (by kernel_rfl) (op_move rfl) ?_
    refine JF_1 10 rfl (by kernel_rfl) (op_move rfl) ?_
    refine JF_1 11 rfl (by kernel_rfl) (by exact op_nilCheck (Ev.rfl' rfl)) ?_
    refine JF_1 12 rfl (by kernel_rfl) (by exact op_fieldPtr (k := 2) (Ev.rfl' rfl) rfl rfl rfl rfl) ?_
    refine JF_1 13 rfl (by kernel_rfl) (by exact op_loadPtr (Ev.rfl' rfl) memT (by rfl) (by rfl) (by rfl)) ?_
    refine JF_1 14 rfl (by kernel_rfl) (by exact op_fieldPtr (k := 1) (Ev.rfl' rfl) rfl rfl rfl rfl) ?_
    refine JF_1 15 rfl (by kernel_rfl) (by exact op_loadPtr (Ev.rfl' rfl) memT (by rfl) (by rfl) (by rfl)) ?_
    refine JF_1 16 rfl (by kernel_rfl) (by exact op_indexBuf (k := 0) (Ev.rfl' rfl) memT (Ev.rfl' rfl) rfl rfl idxT lenT) ?_
    refine JF_1 17 rfl (by kernel_rfl) (by exact op_fieldBuf (k := 4) (Ev.rfl' rfl) memT lenT rfl rfl rfl rfl) ?_
    refine JF_1 18 rfl (by kernel_rfl) (by exact op_loadBuf (Ev.rfl' rfl) memT hzc rfl rfl (by rfl)) ?_
    refine JF_1f 19 rfl (by kernel_rfl) (fun _ => (op_move rfl)) ?_
    refine JF_1 20 rfl (by kernel_rfl) (by exact op_loadPtrsN (n := 2) (Ev.rfl' rfl) memT (by rfl) (by rfl) (by rfl) (by rfl) nrmT) ?_
    refine JF_1 21 rfl (by kernel_rfl) (by exact op_indexBuf (k := s) (Ev.rfl' rfl) memT (Ev.rfl' rfl) rfl rfl idxT lenT) ?_
    refine JF_b0 22 [0, 1, 2, 3, 4, 5, 6, 7, 8, 9, 10, 11, 12, 13, 14, 15, 16, 17, 18, 20, 21, 22] rfl (by kernel_rfl) (fun c' => by exact op_storeBuf0 (z' := z.dn) (Ev.rfl' rfl) (Ev.rfl' rfl) cellsT replT hzd rfl (by rfl) (by rfl)) ?_
    refine JF_1 23 rfl (by kernel_rfl) (by exact op_indexBuf (k := s) (Ev.rfl' rfl) memT (Ev.rfl' rfl) rfl rfl idxT lenT) ?_
    refine JF_b0 24 [0, 1, 2, 3, 4, 5, 6, 7, 8, 9, 10, 11, 12, 13, 14, 15, 16, 17, 18, 19, 20, 21, 22, 23, 24] rfl (by kernel_rfl) (fun c' => by exact op_storeBuf0 (z' := true) (Ev.rfl' rfl) (Ev.rfl' rfl) cellsT replT hzh rfl (by rfl) (by rfl)) ?_
    refine JF_end (by kernel_rfl) rfl ?_
    refine JQ_then (JC_seq ?_)
    refine JC_region ?_
    refine JL_1 rfl (op_move rfl) ?_
    refine JL_1 rfl (op_assign rfl) ?_
    refine JL_nil ?_
    refine JQ_then (JC_ret ?_)
    first
      | (have hT : z.fin = true := hfin
         refine JQ_retP (Bs := [Is (.bool true)]) Tryz.results77 ⟨⟨_, rfl, subT⟩, trivial⟩ ⟨(prs.set k (pr.withQ z.q), ds.set s z.dn, hs.set s true), by rw [show s = x.slot.toNat by omega]; exact hzz.1, by simpa using hdl, fun d hd => (by rcases List.mem_or_eq_of_mem_set hd with hd | rfl; exact hdw d hd; exact hz.1), hzz.2⟩ SubL.rfl' ?_)
      | refine JQ_retP (Bs := [Is (.bool true)]) Tryz.results77 ⟨⟨_, rfl, subT⟩, trivial⟩ ⟨(prs.set k (pr.withQ z.q), ds, hs), hzz.1, hdl, hdw, hzz.2⟩ SubL.rfl' ?_
    iterate 7 (refine SubP.cons (by repeat (first | exact Drop1.here _ _ | apply Drop1.next)) ?_)
    exact SubP.dropI (Drop1.here _ _) (SubP.dropI (Drop1.next _ (Drop1.here _ _)) (fab_unsub hzn))
  have hfin : z.fin = false := by simpa using h12
  rw [hfin, if_neg (by decide)] at hzz
  refine JC_skip (JQ_then (JC_seq ?_))
  refine JC_region ?_
  refine JL_1 rfl (op_move rfl) ?_
  refine JL_1 rfl (op_assign rfl) ?_
  refine JL_nil ?_
  refine JQ_then (JC_ret ?_)
  first
    | (have hT : z.fin = true := hfin
       refine JQ_retP (Bs := [Is (.bool true)]) Tryz.results77 ⟨⟨_, rfl, subT⟩, trivial⟩ ⟨(prs.set k (pr.withQ z.q), ds.set s z.dn, hs.set s true), by rw [show s = x.slot.toNat by omega]; exact hzz.1, by simpa using hdl, fun d hd => (by rcases List.mem_or_eq_of_mem_set hd with hd | rfl; exact hdw d hd; exact hz.1), hzz.2⟩ SubL.rfl' ?_)
    | refine JQ_retP (Bs := [Is (.bool true)]) Tryz.results77 ⟨⟨_, rfl, subT⟩, trivial⟩ ⟨(prs.set k (pr.withQ z.q), ds, hs), hzz.1, hdl, hdw, hzz.2⟩ SubL.rfl' ?_
  iterate 7 (refine SubP.cons (by repeat (first | exact Drop1.here _ _ | apply Drop1.next)) ?_)
  exact SubP.dropI (Drop1.here _ _) (SubP.dropI (Drop1.next _ (Drop1.here _ _)) (fab_unsub hzn))
end Go.Proofs.YtfglhiciagmicaaGreat

/- Contracts: a batch is played on a fabric. Own work. -/
namespace Go.Proofs.YtfglhiciagmicaaGreat
open Go.RowKit
set_option linter.unusedVariables false
set_option linter.unusedSimpArgs false
set_option maxRecDepth 100000
theorem cntF_pos {hs : List Bool} (h : 0 < cntF hs) : ∃ s : Nat, hs[s]? = some false := by
  obtain ⟨b, hb⟩ := List.exists_mem_of_length_pos h
  obtain ⟨h1, h2⟩ := List.mem_filter.1 hb
  obtain ⟨s, hs'⟩ := List.mem_iff_getElem?.1 h1
  have : b = false := by simpa using h2
  exact ⟨s, by rw [hs', this]⟩
theorem fab_names {f n : Nat} {nb cb lb pb : WA} {nds : List FN} {prs prs' : List Pr} {cn cn' : Cn} {L : List Item} {X : List Nat} (hX : X = names (fabL f n nb cb lb pb nds cn prs))
    (hL : SubP (fabL f n nb cb lb pb nds cn' prs') L) : ∀ b, b ∈ X → b ∈ names L := by
  rw [hX]
  have key : ∀ {M L : List Item}, SubP M L → ∀ it, it ∈ M → it ∈ L := fun {M L} h => by
    induction h with
    | nil => intro it h; cases h
    | cons hd _ ih =>
      intro it h
      have hm : ∀ {A B : List Item} {x : Item}, Drop1 A x B → x ∈ A ∧ ∀ y, y ∈ B → y ∈ A := fun {A B x} h => by
        induction h with
        | here => exact ⟨List.mem_cons_self .., fun y hy => List.mem_cons_of_mem _ hy⟩
        | next z _ ih => exact ⟨List.mem_cons_of_mem _ ih.1, fun y hy => by
            rcases List.mem_cons.1 hy with rfl | hy
            · exact List.mem_cons_self ..
            · exact List.mem_cons_of_mem _ (ih.2 y hy)⟩
      rcases List.mem_cons.1 h with rfl | h
      · exact (hm hd).1
      · exact (hm hd).2 _ (ih it h)
  refine names_sub fun it hit => .inr ?_
  unfold fabL at hit
  rcases List.mem_cons.1 hit with rfl | hit
  · exact ⟨_, key hL _ (List.mem_cons_self ..), rfl⟩
  rcases List.mem_cons.1 hit with rfl | hit
  · exact ⟨_, key hL _ (List.mem_cons_of_mem _ (List.mem_cons_self ..)), rfl⟩
  rcases List.mem_cons.1 hit with rfl | hit
  · exact ⟨_, key hL _ (List.mem_cons_of_mem _ (List.mem_cons_of_mem _ (List.mem_cons_self ..))), rfl⟩
  rcases List.mem_cons.1 hit with rfl | hit
  · exact ⟨_, key hL _ (List.mem_cons_of_mem _ (List.mem_cons_of_mem _ (List.mem_cons_of_mem _ (List.mem_cons_self ..)))), rfl⟩
  rcases List.mem_cons.1 hit with rfl | hit
  · exact ⟨_, key hL _ (List.mem_cons_of_mem _ (List.mem_cons_of_mem _ (List.mem_cons_of_mem _ (List.mem_cons_of_mem _ (List.mem_cons_self ..))))), rfl⟩
  · exact ⟨it, key hL _ (List.mem_cons_of_mem _ (List.mem_cons_of_mem _ (List.mem_cons_of_mem _ (List.mem_cons_of_mem _ (List.mem_cons_of_mem _ hit))))), rfl⟩
theorem dns_start {m : Nat} : (List.replicate m dn0).length = m := by simp
-- bodegahand.Play: function 42
set_option maxHeartbeats 2000000 in
theorem Play_ok (f n : Nat) (hn1 : 1 ≤ n) (hn : n ≤ 5) (nb cb lb pb : WA) (nds : List FN) (hl : nds.length = n) (l : List GVerb) (hlw : ∀ v, v ∈ l → v.words.length ≤ 1024) :
    Fn Tryz.prog 42 [Is (.pointer (some ⟨f, 0, none⟩)), Is (.int .i64 0), IsSl tGVerb l] (fabL f n nb cb lb pb nds cn0 (pairsV 1 n))
    (fun z : {ds : List Dn // ds.length ≤ 1024 ∧ ∀ d, d ∈ ds → d.words.length ≤ 802816} => IsSl tDn z.1) (fun _ => []) := by
  refine Fn.enterN Tryz.func42 Tryz.ntmps42 rfl rfl ?_
  intro c hX
  refine JC_seq ?_
  refine JC_region ?_
  refine JL_1 rfl (op_assign rfl) ?_
  refine JL_nil ?_
  refine JQ_then (JC_seq (JC_seq ?_))
  refine JC_region ?_
  refine JL_1 rfl (op_move rfl) ?_
  refine JL_1 rfl (op_move rfl) ?_
  refine JL_1 rfl (op_move rfl) ?_
  (refine JL_s rfl (op_callA Tryz.call75 (Post_ok f n hn1 hn nb cb lb pb nds hl l hlw) ⟨evS, ⟨evS, ⟨evS, trivial⟩⟩⟩) ?_; intro i12)
  refine JL_1 rfl (op_neq (Ev.rfl' rfl) (Ev.rfl' rfl)) ?_
  refine JL_nil ?_
  refine JQ_then ?_
  obtain ⟨⟨code, da, ha, prs0⟩, hz⟩ := i12
  dsimp only at hz ⊢
  refine JC_cond (Ev.rfl' rfl) (fun h1 => ?_) (fun h1 => ?_)
  · refine JC_seq ?_
    refine JC_region ?_
    refine JL_1 rfl (op_assign rfl) ?_
    refine JL_nil ?_
    refine JQ_then (JC_ret (JQ_then_ret ?_))
    exact JQ_retP (Bs := [IsSl tDn []]) Tryz.results42 ⟨⟨_, rfl, subT⟩, trivial⟩ ⟨[], by simp, fun d hd => (by cases hd)⟩ SubL.rfl' (SubP.nil _)
  have hc0 : code = 0 := by simpa using h1
  subst hc0
  clear h1
  obtain ⟨hpi, hl0, hl1⟩ := hz rfl
  rw [if_pos rfl]
  have hq0 := hpi.toQ hl1
  obtain ⟨m, hm⟩ : ∃ m, m = l.length := ⟨_, rfl⟩
  rw [← hm] at hpi hl0 hl1 hq0 ⊢
  refine JC_skip (JQ_then (JC_seq (JC_block ?_)))
  refine JC_loopP (fun u : List Pr × List Dn × List Bool => QInv n m u.1 u.2.2 ∧ u.2.1.length = m ∧ ∀ d, d ∈ u.2.1 → d.words.length ≤ 802816) (fun u => [(0, Is (.pointer (some ⟨f, 0, none⟩))), (1, Is (.int .i64 0))]) (fun u => fabB f n m nb cb lb pb da ha nds u.1 u.2.1 u.2.2) (fun u => leftF u.1) (prs0, List.replicate m dn0, List.replicate m false) ⟨hq0, dns_start, fun d hd => (by rw [(List.mem_replicate.1 hd).2]; exact Nat.zero_le _)⟩ esubT lessM ?_
  rintro ⟨prs, ds, hs⟩ ⟨hq, hdl, hdw⟩
  dsimp only at hq hdl hdw ⊢
  have hW := Waiting_ok f n m hl1 nb cb lb da ha 1 m hs hq.hl
  have hC := Choices_ok f n hn nb cb lb pb prs hq.len
  refine JC_seq (JC_seq ?_)
  refine JC_region ?_
  refine JL_1 rfl (op_move rfl) ?_
  refine JL_1 rfl (op_move rfl) ?_
  (refine JL_s rfl (op_callM (Drops.cons drop1A (Drops.cons drop1A (Drops.cons drop1A (Drops.nil _)))) Tryz.call76 (hW) ⟨evS, ⟨evS, trivial⟩⟩) ?_; intro i16)
  refine JL_1 rfl (op_gtr (Ev.rfl' rfl) (Ev.rfl' rfl)) ?_
  refine JL_nil ?_
  refine JQ_then ?_
  refine JC_cond (Ev.rfl' rfl) (fun h3 => ?_) (fun h3 => ?_)
  · have hw : 0 < cntF hs := by have := of_decide_eq_true h3; omega
    clear h3
    obtain ⟨s, hs0⟩ := cntF_pos hw
    obtain ⟨j0, pr0, x0, hz0, hx0, _⟩ := hq.all s hs0
    refine JC_skip (JQ_then (JC_block ?_))
    refine JC_region ?_
    refine JL_1 rfl (op_move rfl) ?_
    refine JL_1 rfl (op_move rfl) ?_
    (refine JL_s rfl (op_callM (Drops.cons drop1A (Drops.cons drop1A (Drops.cons drop1A (Drops.nil _)))) Tryz.call78 (hC) ⟨evS, trivial⟩) ?_; intro i20)
    (obtain ⟨⟨cs, ca⟩, hch⟩ := i20; dsimp only; obtain ⟨c0, cs0, rfl⟩ : ∃ c0 cs0, cs = c0 :: cs0 := List.exists_cons_of_ne_nil (hch.some_ j0 pr0 (by have := (List.getElem?_eq_some_iff.1 hz0).1; rw [hq.len] at this; exact this) hz0 (List.ne_nil_of_mem hx0)); have hcz : (c0 :: cs0)[0]? = some c0 := rfl)
    refine JL_1 rfl (by exact op_indexBuf (k := 0) (Ev.rfl' rfl) memT (Ev.rfl' rfl) rfl rfl idxT lenT) ?_
    refine JL_1 rfl (by exact op_loadBufs (Ev.rfl' rfl) memT hcz rfl rfl rfl) ?_
    (obtain ⟨j, pr, x, rest, rfl, hz1, hq1⟩ := hch.all c0 (List.mem_cons_self ..); refine JL_sub (L' := fabB f n m nb cb lb pb da ha nds prs ds hs) lessM ?_)
    (refine JL_s rfl (op_callA Tryz.call77 (FStep_ok f n m hn nb cb lb pb da ha nds hl prs ds hs hq hdl hdw j pr x rest hz1 hq1) ⟨evS, ⟨evS, trivial⟩⟩) ?_; intro i23)
    refine JL_nil ?_
    refine JQ_block ?_
    exact JQ_roundP i23.1 ⟨i23.2.1, i23.2.2.1, i23.2.2.2.1⟩ i23.2.2.2.2 esubT lessM
  have hw : cntF hs = 0 := by have := of_decide_eq_false h3; omega
  clear h3
  have hT := Take_ok f n m hl1 nb cb lb da ha 1 m hs hq.hl hw
  refine JC_exit (JQ_then_exit (JQ_then_exit (JQ_hit (JQ_then (JC_seq ?_)))))
  refine JC_region ?_
  refine JL_1 rfl (op_move rfl) ?_
  refine JL_1 rfl (op_move rfl) ?_
  (refine JL_s rfl (op_callM (Drops.cons drop1A (Drops.cons drop1A (Drops.cons drop1A (Drops.nil _)))) Tryz.call79 (hT) ⟨evS, ⟨evS, trivial⟩⟩) ?_; intro i27)
  refine JL_1 rfl (op_move rfl) ?_
  refine JL_1 rfl (op_extract (Ev.rfl' rfl) rfl) ?_
  refine JL_1 rfl (op_extract (Ev.rfl' rfl) rfl) ?_
  refine JL_1 rfl (op_assign rfl) ?_
  refine JL_1 rfl (op_assign rfl) ?_
  refine JL_nil ?_
  refine JQ_then (JC_seq ?_)
  refine JC_region ?_
  refine JL_1 rfl (op_move rfl) ?_
  refine JL_1 rfl (op_assign rfl) ?_
  refine JL_nil ?_
  refine JQ_then (JC_ret ?_)
  refine JQ_freezeX (T := tDn) (xs := ds) (v := slV m da) (e := 110) replT (fab_names (cn' := cnOff 1 m) (prs' := prs) hX.1 lessM) ?_
  exact JQ_retP (Bs := [IsSl tDn ds]) Tryz.results42 ⟨⟨_, rfl, subT⟩, trivial⟩ ⟨ds, by omega, hdw⟩ SubL.rfl' (SubP.nil _)
end Go.Proofs.YtfglhiciagmicaaGreat

/- Contracts: changed replies. Own work. -/
namespace Go.Proofs.YtfglhiciagmicaaGreat
open Go.RowKit
set_option linter.unusedVariables false
set_option linter.unusedSimpArgs false
set_option maxRecDepth 100000
-- bodegahand.Altered: function 41
set_option maxHeartbeats 4000000 in
theorem Altered_ok (ds : List Dn) (hds : ds.length ≤ 1024) (hdw : ∀ d, d ∈ ds → d.words.length ≤ 802816) (l : List GAlter) (hl6 : l.length ≤ 6) (hwf : ∀ a, a ∈ l → a.wf) : Fn Tryz.prog 41 [IsSl tDn ds, Is (.int .i64 0), IsSl tGAlter l] []
    (fun z : {ds : List Dn // ds.length ≤ 1024} => IsSl tDn z.1) (fun _ => []) := by
  refine Fn.enterN Tryz.func41 Tryz.ntmps41 rfl rfl ?_
  intro c hX
  refine JC_seq ?_
  refine JC_region ?_
  refine JL_1 rfl (op_assign rfl) ?_
  refine JL_nil ?_
  refine JQ_then (JC_seq ?_)
  refine JC_region ?_
  refine JL_1 rfl (op_move rfl) ?_
  (refine JL_n rfl (op_appNil (T := tDn) (Ev.rfl' rfl) evS (by exact appT rfl rfl rfl) lenT) ?_; intro i13)
  refine JL_1 rfl (op_assign rfl) ?_
  refine JL_nil ?_
  refine JQ_then (JC_seq (JC_seq ?_))
  refine JC_region ?_
  refine JL_1 rfl (op_assign rfl) ?_
  refine JL_nil ?_
  refine JQ_then (JC_block ?_)
  refine JC_loopP (fun z : Nat × List Dn × WA => z.1 ≤ l.length ∧ z.2.1.length ≤ 1024 ∧ ∀ d, d ∈ z.2.1 → d.words.length ≤ 802816 + z.1) (fun z => [(1, Is (.int .i64 0)), (2, IsSl tGAlter l), (7, Is (slV z.2.1.length z.2.2)), (8, Is (.int .i64 (z.1 : Nat)))]) (fun z => [buf (slV z.2.1.length z.2.2) 110 tDn z.2.1]) (fun z => l.length - z.1) (0, ds, i13) ⟨Nat.zero_le _, hds, fun d hd => Nat.le_trans (hdw d hd) (Nat.le_add_right _ _)⟩ esubT lessT ?_
  rintro ⟨i, xs, xa⟩ ⟨hi, hxl, hxw⟩
  dsimp only at hi hxl hxw ⊢
  refine JC_seq (JC_seq ?_)
  refine JC_region ?_
  refine JL_1 rfl (op_move rfl) ?_
  refine JL_1 rfl (op_move rfl) ?_
  refine JL_1 rfl (by exact op_len (Ev.rfl' rfl) rfl) ?_
  refine JL_1 rfl (op_lss (Ev.rfl' rfl) (Ev.rfl' rfl)) ?_
  refine JL_nil ?_
  refine JQ_then ?_
  refine JC_cond (Ev.rfl' rfl) (fun h3 => ?_) (fun h3 => ?_)
  · have hlt : i < l.length := by have := of_decide_eq_true h3; omega
    clear h3
    obtain ⟨a, hx⟩ : ∃ a, l[i]? = some a := ⟨_, List.getElem?_eq_getElem hlt⟩
    obtain ⟨a1, a2, a3, _⟩ := hwf a (List.mem_of_getElem? hx)
    have hxp : xs.length = xs.length := rfl
    refine JC_skip (JQ_then (JC_seq (JC_block (JC_seq ?_))))
    refine JC_region ?_
    refine JL_1 rfl (op_move rfl) ?_
    refine JL_1 rfl (op_move rfl) ?_
    refine JL_1 rfl (by exact op_index (j := i) (Ev.rfl' rfl) (Ev.rfl' rfl) rfl rfl (by rfl) hx) ?_
    refine JL_1 rfl (by exact op_loadRefsN (n := 4) (Ev.rfl' rfl) rfl rfl rfl (by rfl) nrmT) ?_
    (refine JL_n rfl (op_allocN rfl nrmT rfl) ?_; intro i9)
    refine JL_s0 (op_storeN (Ev.rfl' rfl) (Ev.rfl' rfl) cellsT replT nrmT (by rfl) (by rfl) (by rfl)) ?_
    refine JL_nil ?_
    refine JQ_then (JC_seq (JC_seq ?_))
    refine JC_region ?_
    refine JL_1 rfl (by exact op_fieldPtr (k := 0) (Ev.rfl' rfl) rfl rfl rfl rfl) ?_
    refine JL_1 rfl (by exact op_loadPtr (Ev.rfl' rfl) memT (by rfl) (by rfl) (by rfl)) ?_
    refine JL_1 rfl (by ((refine op_call Tryz.call7 (PickH_ok _ _ ?_ ?_) ⟨evS, ⟨evS, trivial⟩⟩); all_goals (omega))) ?_
    refine JL_1 rfl (op_move rfl) ?_
    refine JL_1 rfl (op_neq (Ev.rfl' rfl) (Ev.rfl' rfl)) ?_
    refine JL_1 rfl (op_move rfl) ?_
    (refine JL_i0 rfl rfl rfl (fun hg => (by have hg0 := hg; (try simp at hg); exact op_moveE (Ev.rfl' rfl))) ?_)
    (refine JL_i0 rfl rfl rfl (fun hg => (by have hg0 := hg; (try simp at hg); exact op_lenLit evG rfl)) ?_)
    (refine JL_i0 rfl rfl rfl (fun hg => (by have hg0 := hg; (try simp at hg); exact op_eql evG evG)) ?_)
    refine JL_1 rfl (op_or (Ev.rfl' rfl) rfl (fun h => by exact SubL.iteT (by (rw [h]; rfl)) SubL.rfl')) ?_
    refine JL_nil ?_
    refine JQ_then ?_
    refine JC_cond (Ev.rfl' rfl) (fun h6 => ?_) (fun h6 => ?_)
    · refine JC_exit (JQ_then_exit (JQ_hit (JQ_then ?_)))
      refine JC_region ?_
      refine JL_1 rfl (op_move rfl) ?_
      refine JL_1 rfl (op_add (Ev.rfl' rfl) (Ev.rfl' rfl) wrapT) ?_
      refine JL_1 rfl (op_assign rfl) ?_
      refine JL_nil ?_
      first
        | (have := hC; exact JQ_roundP (i + 1, xs.set k ⟨code, ws⟩, xa) ⟨by dsimp only; omega, by simpa using hxl, fun e he => (by rcases List.mem_or_eq_of_mem_set he with he | rfl; exact Nat.le_trans (hxw e he) (by omega); exact hws)⟩ (by dsimp only; omega) (by (try simp only [List.length_set]); exact esubT) (by (try simp only [List.length_set]); exact lessT))
        | (have := hB; exact JQ_roundP (i + 1, xs.take (xs.length - 1), xa) ⟨by dsimp only; omega, by dsimp only; omega, fun e he => Nat.le_trans (hxw e (List.mem_of_mem_take he)) (by omega)⟩ (by dsimp only; omega) (by simp only [htl]; exact esubT) (by simp only [htl]; exact lessT))
        | exact JQ_roundP (i + 1, xs, xa) ⟨by dsimp only; omega, hxl, fun e he => Nat.le_trans (hxw e he) (by omega)⟩ (by dsimp only; omega) esubT lessT
    have hxp : 0 < xs.length := by
      simp only [Bool.or_eq_false_iff, bne_eq_false_iff_eq, beq_eq_false_iff_ne, ne_eq] at h6
      have := h6.2
      omega
    clear h6
    obtain ⟨k, hk⟩ : ∃ k : Nat, (k : Int) = a.verb % (xs.length : Nat) := ⟨(a.verb % (xs.length : Nat)).toNat, Int.toNat_of_nonneg (Int.emod_nonneg _ (by omega))⟩
    have hkn : k < xs.length := by have := Int.emod_lt_of_pos a.verb (show (0 : Int) < (xs.length : Nat) by omega); omega
    obtain ⟨d, hz⟩ : ∃ d, xs[k]? = some d := ⟨_, List.getElem?_eq_getElem hkn⟩
    have hdwl := hxw d (List.mem_of_getElem? hz)
    refine JC_skip (JQ_then (JC_seq ?_))
    refine JC_region ?_
    refine JL_1 rfl (by exact op_fieldPtr (k := 1) (Ev.rfl' rfl) rfl rfl rfl rfl) ?_
    refine JL_1 rfl (by exact op_loadPtr (Ev.rfl' rfl) memT (by rfl) (by rfl) (by rfl)) ?_
    refine JL_1 rfl (op_move rfl) ?_
    refine JL_1 rfl (by exact op_lenLit (Ev.rfl' rfl) rfl) ?_
    refine JL_1 rfl (by ((refine op_call Tryz.call7 (PickH_ok _ _ ?_ ?_) ⟨evS, ⟨evS, trivial⟩⟩); all_goals (omega))) ?_
    refine JL_1 rfl (op_assign rfl) ?_
    refine JL_nil ?_
    refine JQ_then (JC_seq ?_)
    refine JC_dr rfl (by kernel_rfl) ?_
    refine JD_fl (its := []) ?_
    refine JF_1 0 rfl (by kernel_rfl) (op_move rfl) ?_
    refine JF_1 1 rfl (by kernel_rfl) (op_move rfl) ?_
    refine JF_1 2 rfl (by kernel_rfl) (by exact op_indexBuf (k := k) (Ev.rfl' rfl) memT (Ev.rfl' rfl) rfl rfl idxT lenT) ?_
    refine JF_1 3 rfl (by kernel_rfl) (by exact op_fieldBuf (k := 0) (Ev.rfl' rfl) memT lenT rfl rfl rfl rfl) ?_
    refine JF_1 4 rfl (by kernel_rfl) (by exact op_loadBuf (Ev.rfl' rfl) memT hz rfl rfl (by rfl)) ?_
    refine JF_1 5 rfl (by kernel_rfl) (op_move rfl) ?_
    refine JF_1 6 rfl (by kernel_rfl) (op_move rfl) ?_
    refine JF_1 7 rfl (by kernel_rfl) (by exact op_indexBuf (k := k) (Ev.rfl' rfl) memT (Ev.rfl' rfl) rfl rfl idxT lenT) ?_
    refine JF_1 8 rfl (by kernel_rfl) (by exact op_fieldBuf (k := 1) (Ev.rfl' rfl) memT lenT rfl rfl rfl rfl) ?_
    refine JF_1 9 rfl (by kernel_rfl) (by exact op_loadBuf (Ev.rfl' rfl) memT hz rfl rfl (by rfl)) ?_
    refine JF_n 10 rfl (by kernel_rfl) (op_appNil (T := tU64) (Ev.rfl' rfl) evS (by exact appT rfl rfl rfl) lenT) ?_
    refine JF_n 12 rfl (by kernel_rfl) (op_allocN rfl nrmT rfl) ?_
    (refine JF_name 49 10 (by kernel_rfl) rfl rfl ?_; intro i49)
    refine JF_1 11 rfl (by kernel_rfl) (op_buildN (qs := [(0, _), (1, _)]) rfl rfl rfl rfl ⟨⟨rfl, _, (Ev.rfl' rfl), cellsT⟩, ⟨⟨rfl, _, (Ev.rfl' rfl), cellsT⟩, trivial⟩⟩ (by rfl) nrmT) ?_
    (refine JF_name 11 12 (by kernel_rfl) rfl rfl ?_; intro i11)
    refine JF_b0 13 [0, 1, 2, 3, 4, 5, 6, 7, 8, 9, 10, 11, 12, 13] rfl (by kernel_rfl) (fun c' => by exact op_store (Ev.rfl' rfl) (Ev.rfl' rfl) cellsT replT (by rfl) (by rfl) (by rfl)) ?_
    refine JF_end (by kernel_rfl) rfl ?_
    refine JQ_then (JC_seq (JC_seq ?_))
    refine JC_region ?_
    refine JL_1 rfl (by exact op_fieldPtr (k := 2) (Ev.rfl' rfl) rfl rfl rfl rfl) ?_
    refine JL_1 rfl (by exact op_loadPtr (Ev.rfl' rfl) memT (by rfl) (by rfl) (by rfl)) ?_
    refine JL_1 rfl (by ((refine op_call Tryz.call7 (PickH_ok _ _ ?_ ?_) ⟨evS, ⟨evS, trivial⟩⟩); all_goals (omega))) ?_
    refine JL_nil ?_
    refine JQ_then ?_
    refine JC_cutT (fun z : Int × List (BitVec 64) × WA => z.2.1.length ≤ 802816 + i + 1) (fun _ => [(1, Is (.int .i64 0)), (2, IsSl tGAlter l), (7, Is (slV xs.length xa)), (8, Is (.int .i64 (i : Nat))), (10, Is (.int .i64 (a.verb % (xs.length : Nat)))), (11, Is (.pointer (some ⟨i11, 0, none⟩)))]) (fun z => [blk i11 110 [Is (.int .i64 z.1), Is (slV z.2.1.length z.2.2)], buf (slV z.2.1.length z.2.2) 83 tU64 z.2.1, buf (slV xs.length xa) 110 tDn xs]) ?_ ?_
    rotate_left
    focus
      refine JC_block (JC_seq ?_)
      refine JC_region ?_
      refine JL_1 rfl (op_eql (Ev.rfl' rfl) (Ev.rfl' rfl)) ?_
      refine JL_1 rfl (op_assign rfl) ?_
      refine JL_nil ?_
      refine JQ_then ?_
      refine JC_cond (Ev.rfl' rfl) (fun h12 => ?_) (fun h12 => ?_)
      · refine JC_region ?_
        refine JL_1 rfl (op_buildN (qs := [(0, _)]) rfl rfl rfl rfl ⟨⟨rfl, _, (Ev.rfl' rfl), cellsT⟩, trivial⟩ (by rfl) nrmT) ?_
        refine JL_s0 (op_storeN (Ev.rfl' rfl) (Ev.rfl' rfl) cellsT replT nrmT (by rfl) (by rfl) (by rfl)) ?_
        refine JL_nil ?_
        refine JQ_block ?_
        refine JQ_buf0 83 tU64 ?_
        exact JQ_meetP (4, [], (none, 0)) (Nat.zero_le _) esubT lessT
      refine JC_seq ?_
      refine JC_region ?_
      refine JL_1 rfl (op_eql (Ev.rfl' rfl) (Ev.rfl' rfl)) ?_
      refine JL_1 rfl (op_assign rfl) ?_
      refine JL_nil ?_
      refine JQ_then ?_
      refine JC_cond (Ev.rfl' rfl) (fun h14 => ?_) (fun h14 => ?_)
      · refine JC_region ?_
        refine JL_1 rfl (op_buildN (qs := [(0, _)]) rfl rfl rfl rfl ⟨⟨rfl, _, (Ev.rfl' rfl), cellsT⟩, trivial⟩ (by rfl) nrmT) ?_
        refine JL_s0 (op_storeN (Ev.rfl' rfl) (Ev.rfl' rfl) cellsT replT nrmT (by rfl) (by rfl) (by rfl)) ?_
        refine JL_nil ?_
        refine JQ_block ?_
        refine JQ_buf0 83 tU64 ?_
        exact JQ_meetP (5, [], (none, 0)) (Nat.zero_le _) esubT lessT
      refine JC_seq ?_
      refine JC_region ?_
      refine JL_1 rfl (op_eql (Ev.rfl' rfl) (Ev.rfl' rfl)) ?_
      refine JL_1 rfl (op_assign rfl) ?_
      refine JL_nil ?_
      refine JQ_then ?_
      refine JC_cond (Ev.rfl' rfl) (fun h16 => ?_) (fun h16 => ?_)
      · refine JC_region ?_
        refine JL_1 rfl (by exact op_fieldPtr (k := 1) (Ev.rfl' rfl) rfl rfl rfl rfl) ?_
        refine JL_1 rfl (by exact op_loadPtr (Ev.rfl' rfl) memT (by rfl) (by rfl) (by rfl)) ?_
        refine JL_1 rfl (by exact op_fieldPtr (k := 3) (Ev.rfl' rfl) rfl rfl rfl rfl) ?_
        refine JL_1 rfl (by exact op_loadPtr (Ev.rfl' rfl) memT (by rfl) (by rfl) (by rfl)) ?_
        refine JL_1 rfl (op_buildSlice (size := 1) (qs := [(0, _)]) rfl rfl rfl ⟨⟨rfl, _, (Ev.rfl' rfl), cellsT⟩, trivial⟩ (by rfl) (by rfl)) ?_
        (refine JL_s rfl (op_app (Ev.rfl' rfl) (fun _ => replT) (by exact Ev.sub rfl (by exact SubL.row (xs := [a.w]) (by rfl) (by rfl) subsT)) (by exact appT rfl rfl rfl) lenT) ?_; intro i84)
        refine JL_1 rfl (by exact op_fieldPtr (k := 1) (Ev.rfl' rfl) rfl rfl rfl rfl) ?_
        refine JL_s0 (op_storeN (Ev.rfl' rfl) (Ev.rfl' rfl) cellsT replT nrmT (by rfl) (by rfl) (by rfl)) ?_
        refine JL_nil ?_
        refine JQ_block ?_
        exact JQ_meetP (d.code, d.words ++ [a.w], i84) (by simp; omega) esubT lessT
      refine JC_seq ?_
      refine JC_region ?_
      refine JL_1 rfl (op_eql (Ev.rfl' rfl) (Ev.rfl' rfl)) ?_
      refine JL_1 rfl (op_assign rfl) ?_
      refine JL_nil ?_
      refine JQ_then ?_
      refine JC_cond (Ev.rfl' rfl) (fun h18 => ?_) (fun h18 => ?_)
      · refine JC_seq ?_
        refine JC_region ?_
        refine JL_1 rfl (op_move rfl) ?_
        refine JL_1 rfl (op_move rfl) ?_
        refine JL_1 rfl (by exact op_lenLit (Ev.rfl' rfl) rfl) ?_
        refine JL_1 rfl (op_sub (Ev.rfl' rfl) (Ev.rfl' rfl) wrapT) ?_
        refine JL_1 rfl (op_sliceLo (h := xs.length - 1) (Ev.rfl' rfl) memT rfl rfl rfl ⟨_, _, (Ev.rfl' rfl), (show _ = ((xs.length - 1 : Nat) : Int) by omega)⟩ lenT) ?_
        refine JL_1 rfl (op_assign rfl) ?_
        refine JL_nil ?_
        refine JQ_then (JC_exit (JQ_block_miss rfl (JQ_then_exit (JQ_hit (JQ_then ?_)))))
        refine JC_cutBuf (n := xs.length) (i := xa) (h := xs.length - 1) (T := tDn) (xs := xs) replT (by omega) ?_
        have hB := h18
        have htl : (xs.take (xs.length - 1)).length = xs.length - 1 := by rw [List.length_take]; omega
        refine JC_region ?_
        refine JL_1 rfl (op_move rfl) ?_
        refine JL_1 rfl (op_add (Ev.rfl' rfl) (Ev.rfl' rfl) wrapT) ?_
        refine JL_1 rfl (op_assign rfl) ?_
        refine JL_nil ?_
        first
          | (have := hC; exact JQ_roundP (i + 1, xs.set k ⟨code, ws⟩, xa) ⟨by dsimp only; omega, by simpa using hxl, fun e he => (by rcases List.mem_or_eq_of_mem_set he with he | rfl; exact Nat.le_trans (hxw e he) (by omega); exact hws)⟩ (by dsimp only; omega) (by (try simp only [List.length_set]); exact esubT) (by (try simp only [List.length_set]); exact lessT))
          | (have := hB; exact JQ_roundP (i + 1, xs.take (xs.length - 1), xa) ⟨by dsimp only; omega, by dsimp only; omega, fun e he => Nat.le_trans (hxw e (List.mem_of_mem_take he)) (by omega)⟩ (by dsimp only; omega) (by simp only [htl]; exact esubT) (by simp only [htl]; exact lessT))
          | exact JQ_roundP (i + 1, xs, xa) ⟨by dsimp only; omega, hxl, fun e he => Nat.le_trans (hxw e he) (by omega)⟩ (by dsimp only; omega) esubT lessT
      refine JC_seq ?_
      refine JC_region ?_
      refine JL_1 rfl (op_eql (Ev.rfl' rfl) (Ev.rfl' rfl)) ?_
      refine JL_1 rfl (op_assign rfl) ?_
      refine JL_nil ?_
      refine JQ_then ?_
      refine JC_cond (Ev.rfl' rfl) (fun h20 => ?_) (fun h20 => ?_)
      · refine JC_region ?_
        refine JL_1 rfl (by exact op_fieldPtr (k := 0) (Ev.rfl' rfl) rfl rfl rfl rfl) ?_
        refine JL_s0 (op_storeN (Ev.rfl' rfl) (Ev.rfl' rfl) cellsT replT nrmT (by rfl) (by rfl) (by rfl)) ?_
        refine JL_nil ?_
        refine JQ_block ?_
        exact JQ_meetP (12, d.words, i49) (by dsimp only; omega) esubT lessT
      refine JC_seq ?_
      refine JC_region ?_
      refine JL_1 rfl (by exact op_fieldPtr (k := 1) (Ev.rfl' rfl) rfl rfl rfl rfl) ?_
      refine JL_1 rfl (by exact op_loadPtr (Ev.rfl' rfl) memT (by rfl) (by rfl) (by rfl)) ?_
      refine JL_1 rfl (by exact op_lenLit (Ev.rfl' rfl) rfl) ?_
      refine JL_1 rfl (op_gtr (Ev.rfl' rfl) (Ev.rfl' rfl)) ?_
      refine JL_nil ?_
      refine JQ_then ?_
      refine JC_cond (Ev.rfl' rfl) (fun h10 => ?_) (fun h10 => ?_)
      · have hwp : 0 < d.words.length := by have := of_decide_eq_true h10; omega
        obtain ⟨r, hr⟩ : ∃ r : Int, (UV a.w).tmod 4096 = r := ⟨_, rfl⟩
        have hr0 : 0 ≤ r ∧ r < 4096 := by rw [← hr]; exact ⟨Int.tmod_nonneg _ (UV_nonneg _), Int.tmod_lt_of_pos _ (by decide)⟩
        obtain ⟨k2, hk2⟩ : ∃ k2 : Nat, (k2 : Int) = r % (d.words.length : Nat) := ⟨(r % (d.words.length : Nat)).toNat, Int.toNat_of_nonneg (Int.emod_nonneg _ (by omega))⟩
        have hk2n : k2 < d.words.length := by have := Int.emod_lt_of_pos r (show (0 : Int) < (d.words.length : Nat) by omega); omega
        obtain ⟨u, hz2⟩ : ∃ u, d.words[k2]? = some u := ⟨_, List.getElem?_eq_getElem hk2n⟩
        have hxp0 := hxp
        have hxp := hwp
        refine JC_dr rfl (by kernel_rfl) ?_
        refine JD_fl (its := []) ?_
        refine JF_1 0 rfl (by kernel_rfl) (by exact op_fieldPtr (k := 1) (Ev.rfl' rfl) rfl rfl rfl rfl) ?_
        refine JF_1 1 rfl (by kernel_rfl) (by exact op_loadPtr (Ev.rfl' rfl) memT (by rfl) (by rfl) (by rfl)) ?_
        refine JF_1 2 rfl (by kernel_rfl) (by exact op_fieldPtr (k := 3) (Ev.rfl' rfl) rfl rfl rfl rfl) ?_
        refine JF_1 3 rfl (by kernel_rfl) (by exact op_loadPtr (Ev.rfl' rfl) memT (by rfl) (by rfl) (by rfl)) ?_
        refine JF_1 4 rfl (by kernel_rfl) (op_rem (Ev.rfl' rfl) (Ev.rfl' rfl) (by decide) hr) ?_
        refine JF_1 5 rfl (by kernel_rfl) (op_conv (Ev.rfl' rfl) rfl rfl (wI64 (by omega))) ?_
        refine JF_1 6 rfl (by kernel_rfl) (by exact op_fieldPtr (k := 1) (Ev.rfl' rfl) rfl rfl rfl rfl) ?_
        refine JF_1 7 rfl (by kernel_rfl) (by exact op_loadPtr (Ev.rfl' rfl) memT (by rfl) (by rfl) (by rfl)) ?_
        refine JF_1 8 rfl (by kernel_rfl) (by exact op_lenLit (Ev.rfl' rfl) rfl) ?_
        refine JF_1 9 rfl (by kernel_rfl) (by ((refine op_call Tryz.call7 (PickH_ok _ _ ?_ ?_) ⟨evS, ⟨evS, trivial⟩⟩); all_goals (omega))) ?_
        refine JF_1 10 rfl (by kernel_rfl) (by exact op_fieldPtr (k := 3) (Ev.rfl' rfl) rfl rfl rfl rfl) ?_
        refine JF_1 11 rfl (by kernel_rfl) (by exact op_loadPtr (Ev.rfl' rfl) memT (by rfl) (by rfl) (by rfl)) ?_
        refine JF_1 12 rfl (by kernel_rfl) (by exact op_indexBuf (k := k2) (Ev.rfl' rfl) memT (Ev.rfl' rfl) rfl rfl idxT lenT) ?_
        refine JF_b0 13 [0, 1, 2, 3, 4, 5, 6, 7, 8, 9, 10, 11, 12, 13] rfl (by kernel_rfl) (fun c' => by exact op_storeBuf0 (z' := a.w) (Ev.rfl' rfl) (Ev.rfl' rfl) cellsT replT hz2 rfl (by rfl) (by rfl)) ?_
        refine JF_end (by kernel_rfl) rfl ?_
        refine JQ_block ?_
        exact JQ_meetP (d.code, d.words.set k2 a.w, i49) (by simp; omega) (by (try simp only [List.length_set]); exact esubT) (by (try simp only [List.length_set]); exact lessT)
      refine JC_skip (JQ_block ?_)
      exact JQ_meetP (d.code, d.words, i49) (by dsimp only; omega) esubT lessT
    rintro ⟨code, ws, wa⟩ hws
    dsimp only at hws ⊢
    refine JC_freezeX (T := tU64) (xs := ws) replT (namesT hX) ?_
    refine JC_blkSub (b := i11) (As' := [Is (.int .i64 code), IsSl tU64 ws]) replT subsT ?_
    have hC := hws
    refine JC_region ?_
    refine JL_1 rfl (op_move rfl) ?_
    refine JL_1 rfl (op_move rfl) ?_
    refine JL_1 rfl (by exact op_loadPtrsN (n := 2) (Ev.rfl' rfl) memT (by rfl) (by rfl) (by rfl) (by rfl) nrmT) ?_
    refine JL_1 rfl (by exact op_indexBuf (k := k) (Ev.rfl' rfl) memT (Ev.rfl' rfl) rfl rfl idxT lenT) ?_
    refine JL_s0 (by exact op_storeBuf0 (z' := (⟨code, ws⟩ : Dn)) (Ev.rfl' rfl) (Ev.rfl' rfl) cellsT replT hz rfl (by rfl) (by rfl)) ?_
    refine JL_nil ?_
    refine JQ_block (JQ_then ?_)
    refine JC_region ?_
    refine JL_1 rfl (op_move rfl) ?_
    refine JL_1 rfl (op_add (Ev.rfl' rfl) (Ev.rfl' rfl) wrapT) ?_
    refine JL_1 rfl (op_assign rfl) ?_
    refine JL_nil ?_
    first
      | (have := hC; exact JQ_roundP (i + 1, xs.set k ⟨code, ws⟩, xa) ⟨by dsimp only; omega, by simpa using hxl, fun e he => (by rcases List.mem_or_eq_of_mem_set he with he | rfl; exact Nat.le_trans (hxw e he) (by omega); exact hws)⟩ (by dsimp only; omega) (by (try simp only [List.length_set]); exact esubT) (by (try simp only [List.length_set]); exact lessT))
      | (have := hB; exact JQ_roundP (i + 1, xs.take (xs.length - 1), xa) ⟨by dsimp only; omega, by dsimp only; omega, fun e he => Nat.le_trans (hxw e (List.mem_of_mem_take he)) (by omega)⟩ (by dsimp only; omega) (by simp only [htl]; exact esubT) (by simp only [htl]; exact lessT))
      | exact JQ_roundP (i + 1, xs, xa) ⟨by dsimp only; omega, hxl, fun e he => Nat.le_trans (hxw e he) (by omega)⟩ (by dsimp only; omega) esubT lessT
  clear h3
  refine JC_exit (JQ_then_exit (JQ_then_exit (JQ_hit (JQ_then (JC_seq ?_)))))
  refine JC_region ?_
  refine JL_1 rfl (op_move rfl) ?_
  refine JL_1 rfl (op_assign rfl) ?_
  refine JL_nil ?_
  refine JQ_then (JC_ret ?_)
  refine JQ_freezeX (T := tDn) (xs := xs) replT (namesT hX) ?_
  exact JQ_retP (Bs := [IsSl tDn xs]) Tryz.results41 ⟨⟨_, rfl, subT⟩, trivial⟩ ⟨xs, hxl⟩ SubL.rfl' lessT
end Go.Proofs.YtfglhiciagmicaaGreat

/- Contracts: the replies of the statements; the check that the seat is awake. Own work. -/
namespace Go.Proofs.YtfglhiciagmicaaGreat
open Go.RowKit
set_option linter.unusedVariables false
set_option linter.unusedSimpArgs false
set_option maxRecDepth 100000
-- bodegalaw15.replies: function 13
set_option maxHeartbeats 1000000 in
theorem repliesN_ok (n : Nat) (hn1 : 1 ≤ n) (hn : n ≤ 5) (l : List GVerb) (hlw : ∀ v, v ∈ l → v.words.length ≤ 1024) (ps : List GPoke) (hps : ∀ p, p ∈ ps → p.wf) (al : List GAlter) (hal : al.length ≤ 6) (hwf : ∀ a, a ∈ al → a.wf) (more : Bool) :
    Fn Tryz.prog 13 [Is (.int .i64 (n : Nat)), IsSl tGVerb l, IsSl tGPoke ps, IsSl tGAlter al, Is (.bool more)] [] (fun g : {g : List (List Dn) // g ≠ []} => IsSl tDs g.1) (fun _ => []) := by
  refine Fn.enterN Tryz.func13 Tryz.ntmps13 rfl rfl ?_
  intro c hX
  refine JC_seq ?_
  refine JC_region ?_
  refine JL_1 rfl (op_assign rfl) ?_
  refine JL_nil ?_
  refine JQ_then (JC_seq ?_)
  refine JC_region ?_
  refine JL_1 rfl (op_move rfl) ?_
  refine JL_1 rfl (op_move rfl) ?_
  (refine JL_s rfl (op_callN Tryz.call43 (Prepare_ok n hn1 hn ps hps) ⟨evS, ⟨evS, ⟨evS, ⟨evS, trivial⟩⟩⟩⟩) ?_; intro i14)
  refine JL_1 rfl (op_move rfl) ?_
  (obtain ⟨z, hz⟩ : ∃ z, z = i14 := ⟨_, rfl⟩; rw [← hz]; refine JL_sub (L' := fabL z.1.1.f n z.1.1.nb z.1.1.cb z.1.1.lb z.1.1.pb z.1.2 cn0 (pairsV 1 n)) (by exact SubP.left _ _) ?_)
  (refine JL_s rfl (op_callA Tryz.call42 (Play_ok z.1.1.f n hn1 hn z.1.1.nb z.1.1.cb z.1.1.lb z.1.1.pb z.1.2 z.2 l hlw) ⟨evS, ⟨evS, ⟨evS, trivial⟩⟩⟩) ?_; intro i16)
  refine JL_1 rfl (op_move rfl) ?_
  (refine JL_s rfl (op_callN Tryz.call41 (Altered_ok i16.1 i16.2.1 i16.2.2 al hal hwf) ⟨evS, ⟨evS, ⟨evS, trivial⟩⟩⟩) ?_; intro i18)
  (refine JL_n rfl (op_buildSliceO (T := tDs) ([i18.1]) (size := 1) (qs := [(0, _)]) rfl rfl rfl ⟨⟨rfl, _, (Ev.rfl' rfl), cellsT⟩, trivial⟩ (by rfl) (by rfl) subzT) ?_; intro i19)
  refine JL_1 rfl (op_assign rfl) ?_
  refine JL_nil ?_
  refine JQ_then (JC_seq (JC_seq ?_))
  refine JC_region ?_
  refine JL_1 rfl (op_move rfl) ?_
  refine JL_nil ?_
  refine JQ_then ?_
  refine JC_cond (Ev.rfl' rfl) (fun h2 => ?_) (fun h2 => ?_)
  · have hm := h2
    refine JC_region ?_
    refine JL_1 rfl (op_move rfl) ?_
    refine JL_1 rfl (op_buildSlice (size := 1) (qs := [(0, _)]) rfl rfl rfl ⟨⟨rfl, _, (Ev.rfl' rfl), cellsT⟩, trivial⟩ (by rfl) (by rfl)) ?_
    (refine JL_s rfl (op_app (Ev.rfl' rfl) (fun _ => replT) (by exact Ev.sub rfl (by exact SubL.row (xs := [([] : List Dn)]) (by rfl) (by rfl) subsT)) (by exact appT rfl rfl rfl) lenT) ?_; intro i23)
    refine JL_1 rfl (op_assign rfl) ?_
    refine JL_nil ?_
    refine JQ_then (JC_seq ?_)
    first
      | (have := hm; refine JC_freezeX (T := tDs) (xs := [i18.1] ++ [([] : List Dn)]) replT (namesT hX) ?_)
      | refine JC_freezeX (T := tDs) (xs := [i18.1]) replT (namesT hX) ?_
    refine JC_region ?_
    refine JL_1 rfl (op_move rfl) ?_
    refine JL_1 rfl (op_assign rfl) ?_
    refine JL_nil ?_
    refine JQ_then (JC_ret ?_)
    first
      | (have := hm; exact JQ_retP (Bs := [IsSl tDs ([i18.1] ++ [([] : List Dn)])]) Tryz.results13 ⟨⟨_, rfl, subT⟩, trivial⟩ ⟨[i18.1] ++ [([] : List Dn)], by simp⟩ SubL.rfl' lessT)
      | exact JQ_retP (Bs := [IsSl tDs [i18.1]]) Tryz.results13 ⟨⟨_, rfl, subT⟩, trivial⟩ ⟨[i18.1], by simp⟩ SubL.rfl' lessT
  refine JC_skip (JQ_then (JC_seq ?_))
  first
    | (have := hm; refine JC_freezeX (T := tDs) (xs := [i18.1] ++ [([] : List Dn)]) replT (namesT hX) ?_)
    | refine JC_freezeX (T := tDs) (xs := [i18.1]) replT (namesT hX) ?_
  refine JC_region ?_
  refine JL_1 rfl (op_move rfl) ?_
  refine JL_1 rfl (op_assign rfl) ?_
  refine JL_nil ?_
  refine JQ_then (JC_ret ?_)
  first
    | (have := hm; exact JQ_retP (Bs := [IsSl tDs ([i18.1] ++ [([] : List Dn)])]) Tryz.results13 ⟨⟨_, rfl, subT⟩, trivial⟩ ⟨[i18.1] ++ [([] : List Dn)], by simp⟩ SubL.rfl' lessT)
    | exact JQ_retP (Bs := [IsSl tDs [i18.1]]) Tryz.results13 ⟨⟨_, rfl, subT⟩, trivial⟩ ⟨[i18.1], by simp⟩ SubL.rfl' lessT
theorem replies_ok (n : Nat) (hn1 : 1 ≤ n) (hn : n ≤ 5) (l : List GVerb) (hlw : ∀ v, v ∈ l → v.words.length ≤ 1024) (ps : List GPoke) (hps : ∀ p, p ∈ ps → p.wf) (al : List GAlter) (hal : al.length ≤ 6) (hwf : ∀ a, a ∈ al → a.wf) (more : Bool) :
    FnP Tryz.prog 13 [Is (.int .i64 (n : Nat)), IsSl tGVerb l, IsSl tGPoke ps, IsSl tGAlter al, Is (.bool more)] (VEx fun g : {g : List (List Dn) // g ≠ []} => IsSl tDs g.1) := (repliesN_ok n hn1 hn l hlw ps hps al hal hwf more).ex
end Go.Proofs.YtfglhiciagmicaaGreat

/- Contracts: the seat is awake. Own work. -/
namespace Go.Proofs.YtfglhiciagmicaaGreat
open Go.RowKit
set_option linter.unusedVariables false
set_option linter.unusedSimpArgs false
set_option maxRecDepth 100000
def awV : GVerb := ⟨2, 0, 41, 0, 0#64, 0#64, [4294967305#64], 1#64, 1⟩
theorem aw_ren : renV 1 1 9 0 (initMs 1) [] = ([awV], 0, false) := by rfl
-- bodegalaw15.awake: function 12
set_option maxHeartbeats 2000000 in
theorem awakeL_ok : FnP Tryz.prog 12 [] (Is (.bool true)) := by
  refine FnP.enter Tryz.func12 Tryz.ntmps12 rfl rfl ?_
  intro c hX
  refine JC_seq ?_
  refine JC_region ?_
  refine JL_1 rfl (op_assign rfl) ?_
  refine JL_nil ?_
  refine JQ_then (JC_seq ?_)
  refine JC_region ?_
  refine JL_1 rfl (op_call Tryz.call40 (Start_ok _) ⟨evS, trivial⟩) ?_
  refine JL_1 rfl (op_buildN (qs := [(0, _), (1, _), (2, _), (3, _)]) rfl rfl rfl rfl ⟨⟨rfl, _, (Ev.rfl' rfl), cellsT⟩, ⟨⟨rfl, _, (Ev.rfl' rfl), cellsT⟩, ⟨⟨rfl, _, (Ev.rfl' rfl), cellsT⟩, ⟨⟨rfl, _, (Ev.rfl' rfl), cellsT⟩, trivial⟩⟩⟩⟩ (by rfl) nrmT) ?_
  refine JL_1 rfl (by ((refine op_call Tryz.call9 (Renew_ok 1 1 9 0 (initMs 1) [] ?_) ⟨evS, ⟨evS, trivial⟩⟩); all_goals (decide))) ?_
  (rw [aw_ren]; have hz : [awV][0]? = some awV := rfl; have hz2 : awV.words[0]? = some 4294967305#64 := rfl)
  refine JL_1 rfl (op_move rfl) ?_
  refine JL_1 rfl (op_extract (Ev.rfl' rfl) rfl) ?_
  refine JL_1 rfl (op_extract (Ev.rfl' rfl) rfl) ?_
  refine JL_1 rfl (op_extract (Ev.rfl' rfl) rfl) ?_
  (refine JL_n rfl (op_allocN rfl nrmT rfl) ?_; intro i2)
  refine JL_1 rfl (op_assign rfl) ?_
  refine JL_s0 (op_storeN (Ev.rfl' rfl) (Ev.rfl' rfl) cellsT replT nrmT (by rfl) (by rfl) (by rfl)) ?_
  refine JL_1 rfl (op_assign rfl) ?_
  refine JL_nil ?_
  refine JQ_then (JC_seq ?_)
  refine JC_region ?_
  refine JL_1 rfl (op_move rfl) ?_
  refine JL_1 rfl (op_not (Ev.rfl' rfl)) ?_
  refine JL_1 rfl (op_move rfl) ?_
  (refine JL_i0 rfl rfl rfl (fun hg => (by have hg0 := hg; (try simp at hg); exact op_moveE (Ev.rfl' rfl))) ?_)
  (refine JL_i0 rfl rfl rfl (fun hg => (by have hg0 := hg; (try simp at hg); exact op_len evG rfl)) ?_)
  (refine JL_i0 rfl rfl rfl (fun hg => (by have hg0 := hg; (try simp at hg); exact op_eql evG evG)) ?_)
  refine JL_1 rfl (op_and (Ev.rfl' rfl) rfl (fun h => by exact SubL.rfl')) ?_
  refine JL_1 rfl (op_move rfl) ?_
  (refine JL_i0 rfl rfl rfl (fun hg => (by have hg0 := hg; (try simp at hg); exact op_moveE (Ev.rfl' rfl))) ?_)
  (refine JL_i0 rfl rfl rfl (fun hg => (by have hg0 := hg; (try simp at hg); exact op_index (j := 0) evG evG rfl rfl (by rfl) hz)) ?_)
  (refine JL_i0 rfl rfl rfl (fun hg => (by have hg0 := hg; (try simp at hg); exact op_fieldRefN (k := 0) evG rfl rfl rfl rfl nrmT)) ?_)
  (refine JL_i0 rfl rfl rfl (fun hg => (by have hg0 := hg; (try simp at hg); exact op_loadRef evG rfl rfl rfl)) ?_)
  (refine JL_i0 rfl rfl rfl (fun hg => (by have hg0 := hg; (try simp at hg); exact op_eql evG evG)) ?_)
  refine JL_1 rfl (op_and (Ev.rfl' rfl) rfl (fun h => by exact SubL.rfl')) ?_
  refine JL_1 rfl (op_move rfl) ?_
  (refine JL_i0 rfl rfl rfl (fun hg => (by have hg0 := hg; (try simp at hg); exact op_moveE (Ev.rfl' rfl))) ?_)
  (refine JL_i0 rfl rfl rfl (fun hg => (by have hg0 := hg; (try simp at hg); exact op_index (j := 0) evG evG rfl rfl (by rfl) hz)) ?_)
  (refine JL_i0 rfl rfl rfl (fun hg => (by have hg0 := hg; (try simp at hg); exact op_fieldRefN (k := 2) evG rfl rfl rfl rfl nrmT)) ?_)
  (refine JL_i0 rfl rfl rfl (fun hg => (by have hg0 := hg; (try simp at hg); exact op_loadRef evG rfl rfl rfl)) ?_)
  (refine JL_i0 rfl rfl rfl (fun hg => (by have hg0 := hg; (try simp at hg); exact op_eql evG evG)) ?_)
  refine JL_1 rfl (op_and (Ev.rfl' rfl) rfl (fun h => by exact SubL.rfl')) ?_
  refine JL_1 rfl (op_move rfl) ?_
  (refine JL_i0 rfl rfl rfl (fun hg => (by have hg0 := hg; (try simp at hg); exact op_moveE (Ev.rfl' rfl))) ?_)
  (refine JL_i0 rfl rfl rfl (fun hg => (by have hg0 := hg; (try simp at hg); exact op_index (j := 0) evG evG rfl rfl (by rfl) hz)) ?_)
  (refine JL_i0 rfl rfl rfl (fun hg => (by have hg0 := hg; (try simp at hg); exact op_fieldRefN (k := 6) evG rfl rfl rfl rfl nrmT)) ?_)
  (refine JL_i0 rfl rfl rfl (fun hg => (by have hg0 := hg; (try simp at hg); exact op_loadRef evG rfl rfl rfl)) ?_)
  (refine JL_i0 rfl rfl rfl (fun hg => (by have hg0 := hg; (try simp at hg); exact op_len evG rfl)) ?_)
  (refine JL_i0 rfl rfl rfl (fun hg => (by have hg0 := hg; (try simp at hg); exact op_eql evG evG)) ?_)
  refine JL_1 rfl (op_and (Ev.rfl' rfl) rfl (fun h => by exact SubL.rfl')) ?_
  refine JL_1 rfl (op_move rfl) ?_
  (refine JL_i0 rfl rfl rfl (fun hg => (by have hg0 := hg; (try simp at hg); exact op_moveE (Ev.rfl' rfl))) ?_)
  (refine JL_i0 rfl rfl rfl (fun hg => (by have hg0 := hg; (try simp at hg); exact op_index (j := 0) evG evG rfl rfl (by rfl) hz)) ?_)
  (refine JL_i0 rfl rfl rfl (fun hg => (by have hg0 := hg; (try simp at hg); exact op_fieldRefN (k := 6) evG rfl rfl rfl rfl nrmT)) ?_)
  (refine JL_i0 rfl rfl rfl (fun hg => (by have hg0 := hg; (try simp at hg); exact op_loadRef evG rfl rfl rfl)) ?_)
  (refine JL_i0 rfl rfl rfl (fun hg => (by have hg0 := hg; (try simp at hg); exact op_index (j := 0) evG evG rfl rfl (by rfl) hz2)) ?_)
  (refine JL_i0 rfl rfl rfl (fun hg => (by have hg0 := hg; (try simp at hg); exact op_loadRef evG rfl rfl rfl)) ?_)
  (refine JL_i0 rfl rfl rfl (fun hg => (by have hg0 := hg; (try simp at hg); exact op_eql evG evG)) ?_)
  refine JL_1 rfl (op_and (Ev.rfl' rfl) rfl (fun h => by exact SubL.rfl')) ?_
  refine JL_1 rfl (op_move rfl) ?_
  (refine JL_i0 rfl rfl rfl (fun hg => (by have hg0 := hg; (try simp at hg); exact op_moveE (Ev.rfl' rfl))) ?_)
  (refine JL_i0 rfl rfl rfl (fun hg => (by have hg0 := hg; (try simp at hg); exact op_index (j := 0) evG evG rfl rfl (by rfl) hz)) ?_)
  (refine JL_i0 rfl rfl rfl (fun hg => (by have hg0 := hg; (try simp at hg); exact op_fieldRefN (k := 7) evG rfl rfl rfl rfl nrmT)) ?_)
  (refine JL_i0 rfl rfl rfl (fun hg => (by have hg0 := hg; (try simp at hg); exact op_loadRef evG rfl rfl rfl)) ?_)
  (refine JL_i0 rfl rfl rfl (fun hg => (by have hg0 := hg; (try simp at hg); exact op_eql evG evG)) ?_)
  refine JL_1 rfl (op_and (Ev.rfl' rfl) rfl (fun h => by exact SubL.rfl')) ?_
  refine JL_1 rfl (op_move rfl) ?_
  (refine JL_i0 rfl rfl rfl (fun hg => (by have hg0 := hg; (try simp at hg); exact op_moveE (Ev.rfl' rfl))) ?_)
  (refine JL_i0 rfl rfl rfl (fun hg => (by have hg0 := hg; (try simp at hg); exact op_index (j := 0) evG evG rfl rfl (by rfl) hz)) ?_)
  (refine JL_i0 rfl rfl rfl (fun hg => (by have hg0 := hg; (try simp at hg); exact op_fieldRefN (k := 8) evG rfl rfl rfl rfl nrmT)) ?_)
  (refine JL_i0 rfl rfl rfl (fun hg => (by have hg0 := hg; (try simp at hg); exact op_loadRef evG rfl rfl rfl)) ?_)
  (refine JL_i0 rfl rfl rfl (fun hg => (by have hg0 := hg; (try simp at hg); exact op_eql evG evG)) ?_)
  refine JL_1 rfl (op_and (Ev.rfl' rfl) rfl (fun h => by exact SubL.rfl')) ?_
  refine JL_1 rfl (op_move rfl) ?_
  (refine JL_i0 rfl rfl rfl (fun hg => (by have hg0 := hg; (try simp at hg); exact op_buildN (qs := [(0, _), (1, _)]) rfl rfl rfl rfl ⟨⟨rfl, _, evG2, cellsT⟩, ⟨⟨rfl, _, evG2, cellsT⟩, trivial⟩⟩ (by rfl) nrmT)) ?_)
  (refine JL_i0 rfl rfl rfl (fun hg => (by have hg0 := hg; (try simp at hg); exact op_call Tryz.call24 (Expired_ok ⟨1, 5⟩ _) ⟨evS, ⟨evS, trivial⟩⟩)) ?_)
  refine JL_1 rfl (op_and (Ev.rfl' rfl) rfl (fun h => by exact SubL.rfl')) ?_
  refine JL_1 rfl (op_move rfl) ?_
  (refine JL_i0 rfl rfl rfl (fun hg => (by have hg0 := hg; (try simp at hg); exact op_buildN (qs := [(0, _), (1, _)]) rfl rfl rfl rfl ⟨⟨rfl, _, evG2, cellsT⟩, ⟨⟨rfl, _, evG2, cellsT⟩, trivial⟩⟩ (by rfl) nrmT)) ?_)
  (refine JL_i0 rfl rfl rfl (fun hg => (by have hg0 := hg; (try simp at hg); exact op_call Tryz.call24 (Expired_ok ⟨1, 5⟩ _) ⟨evS, ⟨evS, trivial⟩⟩)) ?_)
  (refine JL_i0 rfl rfl rfl (fun hg => (by have hg0 := hg; (try simp at hg); exact op_not evG)) ?_)
  refine JL_1 rfl (op_and (Ev.rfl' rfl) rfl (fun h => by exact SubL.rfl')) ?_
  refine JL_1 rfl (op_assign rfl) ?_
  refine JL_nil ?_
  refine JQ_then (JC_ret ?_)
  refine JQ_ret1 Tryz.results12 rfl () (SubL.eq ?_) (List.nil_sublist _)
  rfl
end Go.Proofs.YtfglhiciagmicaaGreat

/- The walk of LeaseRenews. Own work. -/
namespace Go.Proofs.YtfglhiciagmicaaGreat
open Go.RowKit
set_option linter.unusedVariables false
set_option linter.unusedSimpArgs false
set_option maxRecDepth 100000
theorem tk_more {vs : List GVerb} {got : List (List Dn)} (h : got ≠ []) : (tkV vs got).1 = [] ∧ (tkV vs got).2.2.2 = true := by
  match got, h with
  | d :: rest, _ =>
    unfold tkV
    dsimp only
    split <;> exact ⟨rfl, rfl⟩
theorem picked (nodes : Int) : ∃ n : Nat, (n : Int) = nodes % 5 + 1 ∧ 1 ≤ n ∧ n ≤ 5 := ⟨(nodes % 5 + 1).toNat, by omega, by omega, by omega⟩
-- bodegalaw15.LeaseRenews: function 3
end Go.Proofs.YtfglhiciagmicaaGreat

/- The walk of LeasePeeks. Own work. -/
namespace Go.Proofs.YtfglhiciagmicaaGreat
open Go.RowKit
set_option linter.unusedVariables false
set_option linter.unusedSimpArgs false
set_option maxRecDepth 100000
theorem pk_more {num : Int} {ms : List Mb} {got : List (List Dn)} (h : got ≠ []) : (pkV num ms got).1 = [] ∧ (pkV num ms got).2.2 = true := by
  unfold pkV
  split
  · exact ⟨rfl, rfl⟩
  · exact tk_more h
theorem pk_none {num : Int} {ms : List Mb} : (pkV num ms []).2.1.2 = [] := by
  unfold pkV
  split
  · rfl
  · rfl
theorem pk_words {num : Int} {ms : List Mb} : ∀ v, v ∈ (pkV num ms []).1 → v.words.length ≤ 1024 := fun v hv => by
  unfold pkV at hv
  split at hv
  · cases hv
  · have h1 := List.mem_singleton.1 hv
    subst h1
    unfold getV addrV
    simp
-- bodegalaw15.LeasePeeks: function 6
set_option maxHeartbeats 4000000 in
theorem LeasePeeks_ok (r : GRaw) (nodes : Int) (ps : List GPoke) (hps : ∀ p, p ∈ ps → p.wf) (al : List GAlter) (hwf : ∀ a, a ∈ al → a.wf) (more : Bool) (now : Int) : FnP Tryz.prog 6 [IsGRaw r, Is (.int .i64 nodes), IsSl tGPoke ps, IsSl tGAlter al, Is (.bool more), Is (.int .i64 now)] (Is (.bool true)) := by
  obtain ⟨n, hn, hn1, hn5⟩ := picked nodes
  refine FnP.enter Tryz.func6 Tryz.ntmps6 rfl rfl ?_
  intro c hX
  refine JC_len (t := 2) rfl (fun hlen2 => ?_)
  refine JC_len (t := 3) rfl (fun hlen3 => ?_)
  refine JC_seq ?_
  refine JC_region ?_
  (refine JL_n rfl (op_box (Ev.rfl' rfl) cellsT) ?_; intro i6)
  refine JL_1 rfl (op_assign rfl) ?_
  refine JL_nil ?_
  refine JQ_then (JC_seq (JC_seq ?_))
  refine JC_region ?_
  refine JL_1 rfl (op_move rfl) ?_
  refine JL_1 rfl (by exact op_len (Ev.rfl' rfl) rfl) ?_
  refine JL_1 rfl (op_gtr (Ev.rfl' rfl) (Ev.rfl' rfl)) ?_
  refine JL_1 rfl (op_move rfl) ?_
  (refine JL_i0 rfl rfl rfl (fun hg => (by have hg0 := hg; (try simp at hg); exact op_moveE (Ev.rfl' rfl))) ?_)
  (refine JL_i0 rfl rfl rfl (fun hg => (by have hg0 := hg; (try simp at hg); exact op_len evG rfl)) ?_)
  (refine JL_i0 rfl rfl rfl (fun hg => (by have hg0 := hg; (try simp at hg); exact op_gtr evG evG)) ?_)
  refine JL_1 rfl (op_or (Ev.rfl' rfl) rfl (fun h => by exact SubL.iteT (by (rw [h]; rfl)) SubL.rfl')) ?_
  refine JL_nil ?_
  refine JQ_then ?_
  refine JC_cond (Ev.rfl' rfl) (fun h1 => ?_) (fun h1 => ?_)
  · refine JC_seq ?_
    refine JC_region ?_
    refine JL_1 rfl (op_assign rfl) ?_
    refine JL_nil ?_
    refine JQ_then (JC_ret (JQ_then_ret ?_))
    refine JQ_ret1 Tryz.results6 rfl () (SubL.eq ?_) (List.nil_sublist _)
    rfl
  have hal : al.length ≤ 6 := by
    simp only [Bool.or_eq_false_iff, decide_eq_false_iff_not] at h1
    omega
  clear h1
  refine JC_skip (JQ_then (JC_seq ?_))
  refine JC_region ?_
  refine JL_1 rfl (op_move rfl) ?_
  refine JL_1 rfl (by ((refine op_call Tryz.call7 (PickH_ok _ _ ?_ ?_) ⟨evS, ⟨evS, trivial⟩⟩); all_goals (omega))) ?_
  refine JL_1 rfl (op_add (Ev.rfl' rfl) (Ev.rfl' rfl) wrapT) ?_
  refine JL_set 33 (Is (.int .i64 (n : Nat))) rfl (SubL.eq (ieq hn.symm)) ?_
  refine JL_1 rfl (op_assign rfl) ?_
  refine JL_nil ?_
  refine JQ_then (JC_seq ?_)
  obtain ⟨num, hnum⟩ : ∃ num, num = vwN r := ⟨_, rfl⟩
  obtain ⟨ms, hmse⟩ : ∃ ms, ms = vwM r n := ⟨_, rfl⟩
  have hm9 : ms.length ≤ 1000 := by rw [hmse]; have := vwM_len r n hn5; omega
  refine JC_region ?_
  refine JL_1 rfl (by exact op_loadPtrsN (n := 6) (Ev.rfl' rfl) memT (by rfl) (by rfl) (by rfl) (by rfl) nrmT) ?_
  refine JL_1 rfl (op_move rfl) ?_
  refine JL_1 rfl (op_call Tryz.call14 (view_ok r n hn5) ⟨evS, ⟨evS, trivial⟩⟩) ?_
  rw [← hnum, ← hmse]
  refine JL_1 rfl (op_buildN (qs := [(0, _)]) rfl rfl rfl rfl ⟨⟨rfl, _, (Ev.rfl' rfl), cellsT⟩, trivial⟩ (by rfl) nrmT) ?_
  (refine JL_n rfl (op_allocN rfl nrmT rfl) ?_; intro i13)
  refine JL_s0 (op_storeN (Ev.rfl' rfl) (Ev.rfl' rfl) cellsT replT nrmT (by rfl) (by rfl) (by rfl)) ?_
  refine JL_nil ?_
  refine JQ_then (JC_seq ?_)
  refine JC_region ?_
  refine JL_1 rfl (by exact op_loadPtrsN (n := 2) (Ev.rfl' rfl) memT (by rfl) (by rfl) (by rfl) (by rfl) nrmT) ?_
  refine JL_1 rfl (op_call Tryz.call21 (Peek_ok num ms [] ) ⟨evS, ⟨evS, trivial⟩⟩) ?_
  refine JL_1 rfl (op_move rfl) ?_
  refine JL_1 rfl (op_extract (Ev.rfl' rfl) rfl) ?_
  refine JL_1 rfl (op_extract (Ev.rfl' rfl) rfl) ?_
  refine JL_1 rfl (op_extract (Ev.rfl' rfl) rfl) ?_
  (refine JL_n rfl (op_allocN rfl nrmT rfl) ?_; intro i15)
  refine JL_1 rfl (op_assign rfl) ?_
  refine JL_s0 (op_storeN (Ev.rfl' rfl) (Ev.rfl' rfl) cellsT replT nrmT (by rfl) (by rfl) (by rfl)) ?_
  refine JL_1 rfl (op_assign rfl) ?_
  refine JL_nil ?_
  refine JQ_then (JC_seq ?_)
  refine JC_region ?_
  refine JL_1 rfl (by exact op_fieldPtr (k := 0) (Ev.rfl' rfl) rfl rfl rfl rfl) ?_
  refine JL_1 rfl (by exact op_loadPtrsN (n := 2) (Ev.rfl' rfl) memT (by rfl) (by rfl) (by rfl) (by rfl) nrmT) ?_
  refine JL_1 rfl (op_call Tryz.call22 (PeekR_ok num ms [] hm9) ⟨evS, ⟨evS, trivial⟩⟩) ?_
  refine JL_1 rfl (op_move rfl) ?_
  refine JL_1 rfl (op_extract (Ev.rfl' rfl) rfl) ?_
  refine JL_1 rfl (op_extract (Ev.rfl' rfl) rfl) ?_
  refine JL_1 rfl (op_extract (Ev.rfl' rfl) rfl) ?_
  refine JL_1 rfl (op_extract (Ev.rfl' rfl) rfl) ?_
  refine JL_1 rfl (op_assign rfl) ?_
  refine JL_1 rfl (op_assign rfl) ?_
  refine JL_1 rfl (op_assign rfl) ?_
  refine JL_1 rfl (op_assign rfl) ?_
  refine JL_nil ?_
  refine JQ_then (JC_seq (JC_seq ?_))
  obtain ⟨V, hV⟩ : ∃ V, V = pkV num ms [] := ⟨_, rfl⟩
  have hVw : ∀ v, v ∈ V.1 → v.words.length ≤ 1024 := by rw [hV]; exact pk_words
  have hV0 := pk_none (num := num) (ms := ms)
  rw [← hV] at hV0
  rw [← hV]
  refine JC_region ?_
  refine JL_1 rfl (op_move rfl) ?_
  refine JL_1 rfl (op_move rfl) ?_
  refine JL_1 rfl (op_bne rfl (Ev.rfl' rfl) (Ev.rfl' rfl)) ?_
  refine JL_1 rfl (op_move rfl) ?_
  (refine JL_i0 rfl rfl rfl (fun hg => (by have hg0 := hg; (try simp at hg); exact op_moveE (Ev.rfl' rfl))) ?_)
  (refine JL_i0 rfl rfl rfl (fun hg => (by have hg0 := hg; (try simp at hg); exact op_moveE (Ev.rfl' rfl))) ?_)
  (refine JL_i0 rfl rfl rfl (fun hg => (by have hg0 := hg; (try simp at hg); exact op_call Tryz.call11 (SameAll_ok _) ⟨evS, ⟨evS, trivial⟩⟩)) ?_)
  (refine JL_i0 rfl rfl rfl (fun hg => (by have hg0 := hg; (try simp at hg); exact op_not evG)) ?_)
  refine JL_1 rfl (op_or (Ev.rfl' rfl) rfl (fun h => by exact SubL.iteT (by (rw [h]; rfl)) SubL.rfl')) ?_
  refine JL_1 rfl (op_move rfl) ?_
  (refine JL_i0 rfl rfl rfl (fun hg => (by have hg0 := hg; (try simp at hg); exact op_fieldPtr (k := 0) evG rfl rfl rfl rfl)) ?_)
  (refine JL_i0 rfl rfl rfl (fun hg => (by have hg0 := hg; (try simp at hg); exact op_loadPtr evG memT (by rfl) (by rfl) (by rfl))) ?_)
  (refine JL_i0 rfl rfl rfl (fun hg => (by have hg0 := hg; (try simp at hg); exact op_moveE (Ev.rfl' rfl))) ?_)
  (refine JL_i0 rfl rfl rfl (fun hg => (by have hg0 := hg; (try simp at hg); exact op_neq evG evG)) ?_)
  refine JL_1 rfl (op_or (Ev.rfl' rfl) rfl (fun h => by exact SubL.iteT (by (rw [h]; rfl)) SubL.rfl')) ?_
  refine JL_1 rfl (op_move rfl) ?_
  (refine JL_i0 rfl rfl rfl (fun hg => (by have hg0 := hg; (try simp at hg); exact op_fieldPtr (k := 1) evG rfl rfl rfl rfl)) ?_)
  (refine JL_i0 rfl rfl rfl (fun hg => (by have hg0 := hg; (try simp at hg); exact op_loadPtr evG memT (by rfl) (by rfl) (by rfl))) ?_)
  (refine JL_i0 rfl rfl rfl (fun hg => (by have hg0 := hg; (try simp at hg); exact op_len evG rfl)) ?_)
  (refine JL_i0 rfl rfl rfl (fun hg => (by have hg0 := hg; (try simp at hg); exact op_neq evG evG)) ?_)
  refine JL_1 rfl (op_or (Ev.rfl' rfl) rfl (fun h => by exact SubL.iteT (by (rw [h]; rfl)) SubL.rfl')) ?_
  refine JL_1 rfl (op_move rfl) ?_
  (refine JL_i0 rfl rfl rfl (fun hg => (by have hg0 := hg; (try simp at hg); exact op_moveE (Ev.rfl' rfl))) ?_)
  (refine JL_i0 rfl rfl rfl (fun hg => (by have hg0 := hg; (try simp at hg); exact op_len evG rfl)) ?_)
  (refine JL_i0 rfl rfl rfl (fun hg => (by have hg0 := hg; (try simp at hg); exact op_neq evG evG)) ?_)
  refine JL_1 rfl (op_or (Ev.rfl' rfl) rfl (fun h => by exact SubL.iteT (by (rw [h]; rfl)) SubL.rfl')) ?_
  refine JL_1 rfl (op_move rfl) ?_
  (refine JL_i0 rfl rfl rfl (fun hg => (by have hg0 := hg; (try simp at hg); exact op_call Tryz.call12 (awakeL_ok) trivial)) ?_)
  (refine JL_i0 rfl rfl rfl (fun hg => (by have hg0 := hg; (try simp at hg); exact op_not evG)) ?_)
  refine JL_1 rfl (op_or (Ev.rfl' rfl) rfl (fun h => by exact SubL.iteT (by (rw [h]; rfl)) SubL.rfl')) ?_
  refine JL_nil ?_
  refine JQ_then ?_
  refine JC_cond (Ev.rfl' rfl) (fun h7 => ?_) (fun h7 => ?_)
  · exact absurd h7 (by simp [hV0])
  refine JC_skip (JQ_then (JC_seq ?_))
  refine JC_region ?_
  refine JL_1 rfl (op_move rfl) ?_
  refine JL_1 rfl (op_move rfl) ?_
  refine JL_1 rfl (op_move rfl) ?_
  refine JL_1 rfl (op_move rfl) ?_
  refine JL_1 rfl (op_move rfl) ?_
  refine JL_1 rfl (op_call Tryz.call13 (replies_ok n hn1 hn5 V.1 hVw ps hps al hal hwf more) ⟨evS, ⟨evS, ⟨evS, ⟨evS, ⟨evS, trivial⟩⟩⟩⟩⟩) ?_
  refine JL_1 rfl (op_assign rfl) ?_
  refine JL_nil ?_
  refine JQ_then (JC_seq ?_)
  refine JC_ex (R := fun g : {g : List (List Dn) // g ≠ []} => IsSl tDs g.1) 21 rfl ?_
  rintro ⟨g, hg⟩
  obtain ⟨e1, e2⟩ := pk_more (num := num) (ms := ms) hg
  refine JC_region ?_
  refine JL_1 rfl (by exact op_loadPtrsN (n := 2) (Ev.rfl' rfl) memT (by rfl) (by rfl) (by rfl) (by rfl) nrmT) ?_
  refine JL_1 rfl (op_move rfl) ?_
  refine JL_1 rfl (op_call Tryz.call21 (Peek_ok num ms g ) ⟨evS, ⟨evS, trivial⟩⟩) ?_
  refine JL_1 rfl (op_move rfl) ?_
  refine JL_1 rfl (op_extract (Ev.rfl' rfl) rfl) ?_
  refine JL_1 rfl (op_extract (Ev.rfl' rfl) rfl) ?_
  refine JL_1 rfl (op_extract (Ev.rfl' rfl) rfl) ?_
  refine JL_1 rfl (op_assign rfl) ?_
  refine JL_s0 (op_storeN (Ev.rfl' rfl) (Ev.rfl' rfl) cellsT replT nrmT (by rfl) (by rfl) (by rfl)) ?_
  refine JL_1 rfl (op_assign rfl) ?_
  refine JL_nil ?_
  refine JQ_then (JC_seq ?_)
  refine JC_region ?_
  refine JL_1 rfl (by exact op_fieldPtr (k := 0) (Ev.rfl' rfl) rfl rfl rfl rfl) ?_
  refine JL_1 rfl (by exact op_loadPtrsN (n := 2) (Ev.rfl' rfl) memT (by rfl) (by rfl) (by rfl) (by rfl) nrmT) ?_
  refine JL_1 rfl (op_move rfl) ?_
  refine JL_1 rfl (op_call Tryz.call22 (PeekR_ok num ms g hm9) ⟨evS, ⟨evS, trivial⟩⟩) ?_
  refine JL_1 rfl (op_move rfl) ?_
  refine JL_1 rfl (op_extract (Ev.rfl' rfl) rfl) ?_
  refine JL_1 rfl (op_extract (Ev.rfl' rfl) rfl) ?_
  refine JL_1 rfl (op_extract (Ev.rfl' rfl) rfl) ?_
  refine JL_1 rfl (op_extract (Ev.rfl' rfl) rfl) ?_
  refine JL_1 rfl (op_assign rfl) ?_
  refine JL_1 rfl (op_assign rfl) ?_
  refine JL_1 rfl (op_assign rfl) ?_
  refine JL_nil ?_
  refine JQ_then (JC_seq (JC_seq ?_))
  refine JC_region ?_
  refine JL_1 rfl (op_move rfl) ?_
  refine JL_1 rfl (op_not (Ev.rfl' rfl)) ?_
  refine JL_1 rfl (op_move rfl) ?_
  (refine JL_i0 rfl rfl rfl (fun hg => (by have hg0 := hg; (try simp at hg); exact op_moveE (Ev.rfl' rfl))) ?_)
  (refine JL_i0 rfl rfl rfl (fun hg => (by have hg0 := hg; (try simp at hg); exact op_not evG)) ?_)
  refine JL_1 rfl (op_or (Ev.rfl' rfl) rfl (fun h => by exact SubL.iteT (by (rw [h]; rfl)) SubL.rfl')) ?_
  refine JL_1 rfl (op_move rfl) ?_
  (refine JL_i0 rfl rfl rfl (fun hg => (by have hg0 := hg; (try simp at hg); exact op_moveE (Ev.rfl' rfl))) ?_)
  (refine JL_i0 rfl rfl rfl (fun hg => (by have hg0 := hg; (try simp at hg); exact op_len evG rfl)) ?_)
  (refine JL_i0 rfl rfl rfl (fun hg => (by have hg0 := hg; (try simp at hg); exact op_neq evG evG)) ?_)
  refine JL_1 rfl (op_or (Ev.rfl' rfl) rfl (fun h => by exact SubL.iteT (by (rw [h]; rfl)) SubL.rfl')) ?_
  refine JL_1 rfl (op_move rfl) ?_
  (refine JL_i0 rfl rfl rfl (fun hg => (by have hg0 := hg; (try simp at hg); exact op_fieldPtr (k := 0) evG rfl rfl rfl rfl)) ?_)
  (refine JL_i0 rfl rfl rfl (fun hg => (by have hg0 := hg; (try simp at hg); exact op_loadPtr evG memT (by rfl) (by rfl) (by rfl))) ?_)
  (refine JL_i0 rfl rfl rfl (fun hg => (by have hg0 := hg; (try simp at hg); exact op_moveE (Ev.rfl' rfl))) ?_)
  (refine JL_i0 rfl rfl rfl (fun hg => (by have hg0 := hg; (try simp at hg); exact op_neq evG evG)) ?_)
  refine JL_1 rfl (op_or (Ev.rfl' rfl) rfl (fun h => by exact SubL.iteT (by (rw [h]; rfl)) SubL.rfl')) ?_
  refine JL_1 rfl (op_move rfl) ?_
  (refine JL_i0 rfl rfl rfl (fun hg => (by have hg0 := hg; (try simp at hg); exact op_fieldPtr (k := 1) evG rfl rfl rfl rfl)) ?_)
  (refine JL_i0 rfl rfl rfl (fun hg => (by have hg0 := hg; (try simp at hg); exact op_loadPtr evG memT (by rfl) (by rfl) (by rfl))) ?_)
  (refine JL_i0 rfl rfl rfl (fun hg => (by have hg0 := hg; (try simp at hg); exact op_moveE (Ev.rfl' rfl))) ?_)
  (refine JL_i0 rfl rfl rfl (fun hg => (by have hg0 := hg; (try simp at hg); exact op_call Tryz.call23 (sameLeases_ok _) ⟨evS, ⟨evS, trivial⟩⟩)) ?_)
  (refine JL_i0 rfl rfl rfl (fun hg => (by have hg0 := hg; (try simp at hg); exact op_not evG)) ?_)
  refine JL_1 rfl (op_or (Ev.rfl' rfl) rfl (fun h => by exact SubL.iteT (by (rw [h]; rfl)) SubL.rfl')) ?_
  refine JL_nil ?_
  refine JQ_then ?_
  refine JC_cond (Ev.rfl' rfl) (fun h12 => ?_) (fun h12 => ?_)
  · exact absurd h12 (by simp [e1, e2])
  refine JC_skip (JQ_then (JC_seq ?_))
  refine JC_region ?_
  refine JL_1 rfl (by exact op_fieldPtr (k := 1) (Ev.rfl' rfl) rfl rfl rfl rfl) ?_
  refine JL_1 rfl (by exact op_loadPtr (Ev.rfl' rfl) memT (by rfl) (by rfl) (by rfl)) ?_
  refine JL_1 rfl (by exact op_fieldPtr (k := 2) (Ev.rfl' rfl) rfl rfl rfl rfl) ?_
  refine JL_1 rfl (by exact op_loadPtr (Ev.rfl' rfl) memT (by rfl) (by rfl) (by rfl)) ?_
  refine JL_1 rfl (op_buildN (qs := [(0, _), (1, _)]) rfl rfl rfl rfl ⟨⟨rfl, _, (Ev.rfl' rfl), cellsT⟩, ⟨⟨rfl, _, (Ev.rfl' rfl), cellsT⟩, trivial⟩⟩ (by rfl) nrmT) ?_
  (refine JL_n rfl (op_allocN rfl nrmT rfl) ?_; intro i22)
  refine JL_s0 (op_storeN (Ev.rfl' rfl) (Ev.rfl' rfl) cellsT replT nrmT (by rfl) (by rfl) (by rfl)) ?_
  refine JL_nil ?_
  refine JQ_then (JC_seq ?_)
  refine JC_dr rfl (by kernel_rfl) ?_
  refine JD_stretch 12 (by kernel_rfl) ?_
  refine JW_1 (by exact op_fieldPtr (k := 1) (Ev.rfl' rfl) rfl rfl rfl rfl) ?_
  refine JW_1 (by exact op_loadPtr (Ev.rfl' rfl) memT (by rfl) (by rfl) (by rfl)) ?_
  refine JW_1 (by exact op_fieldPtr (k := 2) (Ev.rfl' rfl) rfl rfl rfl rfl) ?_
  refine JW_1 (by exact op_loadPtr (Ev.rfl' rfl) memT (by rfl) (by rfl) (by rfl)) ?_
  refine JW_1 (op_buildN (qs := [(0, _), (1, _)]) rfl rfl rfl rfl ⟨⟨rfl, _, (Ev.rfl' rfl), cellsT⟩, ⟨⟨rfl, _, (Ev.rfl' rfl), cellsT⟩, trivial⟩⟩ (by rfl) nrmT) ?_
  refine JW_1 (op_move rfl) ?_
  refine JW_1 (op_call Tryz.call24 (Expired_ok ⟨r.inc, r.until_⟩ now) ⟨evS, ⟨evS, trivial⟩⟩) ?_
  refine JW_1 (by exact op_loadPtrsN (n := 2) (Ev.rfl' rfl) memT (by rfl) (by rfl) (by rfl) (by rfl) nrmT) ?_
  refine JW_1 (op_move rfl) ?_
  refine JW_1 (op_call Tryz.call25 (ExpiredR_ok ⟨r.inc, r.until_⟩ now) ⟨evS, ⟨evS, trivial⟩⟩) ?_
  refine JW_1 (op_beq rfl (Ev.rfl' rfl) (Ev.rfl' rfl)) ?_
  refine JW_1 (op_assign rfl) ?_
  refine ⟨rfl, ?_⟩
  refine JD_end ?_
  refine JQ_then (JC_ret ?_)
  exact JQ_ret (Bs := [Is (.bool true)]) Tryz.results6 ⟨⟨_, rfl, SubL.eq (by simp)⟩, trivial⟩ () SubL.rfl' (List.nil_sublist _)
end Go.Proofs.YtfglhiciagmicaaGreat
