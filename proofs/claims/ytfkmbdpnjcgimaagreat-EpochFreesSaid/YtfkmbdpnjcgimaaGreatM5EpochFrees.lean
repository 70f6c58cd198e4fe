/- Texts of this claim, laid together (part 5): walks of functions, what they compute, and plain laws of it. Own work. -/
import Derived.Test.YtfkmbdpnjcgimaaGreatM4EpochFrees
/- A drawn region walked in any order that its edges allow: operations that only look at their own operands may come up whenever they like (floaters), others are barriers. Own work. -/
namespace Go.Proofs.YtfkmbdpnjcgimaaGreat
open Go.RowKit
set_option linter.unusedVariables false
set_option linter.unusedSimpArgs false
section
variable {P : Program} {ops : Array Oper} {c : Ctx} {N : Nat} {L : List Item}
def inB (l : List Nat) (i : Nat) : Bool := l.any fun j => Nat.beq j i
theorem inB_iff {l : List Nat} {i : Nat} : inB l i = true ↔ i ∈ l := by
  unfold inB
  rw [List.any_eq_true]
  constructor
  · rintro ⟨j, h1, h2⟩; rw [← Nat.eq_of_beq_eq_true h2]; exact h1
  · intro h; exact ⟨i, h, by simp⟩
/-- What is known of the operations that have been walked: those of dn have come up for sure, those of fr lean on no memory. -/
structure FV (P : Program) (ops : Array Oper) (c : Ctx) (nd : List Nat) (L : List Item) (fr dn ks : List Nat) (m : List Ent) (A0 : Nat → Option Out) : Prop where
  at_ : ∀ x, x ∈ m → ops[x.i]? = some x.o
  dif : m.Pairwise (fun x y => x.i ≠ y.i)
  ord : m.Pairwise (fun x y => y.i < x.i → (ndOf nd x.i).testBit y.i = false)
  op : ∀ m1 x m2, m = m1 ++ x :: m2 → (inB dn x.i = false → LocOp P ops c L x.o (acc (fun _ => true) m1 A0) x.F x.kl ∧ (inB fr x.i = true → ∀ L', LocOp P ops c L' x.o (acc (fun _ => true) m1 A0) x.F x.kl)) ∧ KillOk ops nd x.i x.o (acc (fun _ => true) m1 A0) x.kl
  kls : ∀ x, x ∈ m → ∀ s, x.kl = some s → s ∈ ks
/-- What has come up. -/
structure FS (ops : Array Oper) (nd : List Nat) (dn : List Nat) (m : List Ent) (listed : Array Bool) : Prop where
  cl : Cl ops nd listed
  done : ∀ i, inB dn i = true → listed.getD i false = true
  only : ∀ i, listed.getD i false = true → ∃ x, x ∈ m ∧ x.i = i
@[reducible] def lst (listed : Array Bool) : Nat → Bool := fun i => listed.getD i false
theorem fstep {Q : Exit → Act → World → Prop} {nd : List Nat} {fr dn ks : List Nat} {m : List Ent} {A0 : Nat → Option Out} (hg : Good ops nd) (hN : opsAll (fun _ o => dstB N o.dst) ops.toList 0 = true) (hv : FV P ops c nd L fr dn ks m A0)
    {φ : Fz} {a : Act} {w : World} {listed : Array Bool} (hs : FS ops nd dn m listed) (st : SS c N (acc (lst listed) m A0) L φ a w) {x : Ent} (hxm : x ∈ m) (hi : x.i ∈ Region.ready .any ops listed) {u : Nat}
    (next : ∀ φ' a' w', FS ops nd dn m (listed.setIfInBounds x.i true) → SS c N (acc (lst (listed.setIfInBounds x.i true)) m A0) L φ' a' w' → wpAny P .any ops Q u (listed.setIfInBounds x.i true) a' w') :
    wpOp P ops Q x.i (wpAny P .any ops Q u (listed.setIfInBounds x.i true)) a w := by
  obtain ⟨i, hix⟩ : ∃ i, i = x.i := ⟨_, rfl⟩
  rw [← hix] at hi next ⊢
  have ex1 : x.i = i := hix.symm
  obtain ⟨hiu, oi, hoi, hiall⟩ := mem_ready.1 hi
  have hilt : i < ops.size := (Array.getElem?_eq_some_iff.1 hoi).1
  have hc := hs.cl
  have hox : x.o = oi := by
    have h1 := hv.at_ x hxm
    rw [ex1] at h1
    exact Option.some.inj (h1.symm.trans hoi)
  have hdi : inB dn i = false := by
    cases hv' : inB dn i with
    | false => rfl
    | true => have := hs.done i hv'; rw [getD_tf hiu] at this; cases this
  obtain ⟨m1, m2, hsplit⟩ := List.append_of_mem hxm
  have hiL : i < listed.size := by rw [hc.size]; exact hilt
  have hne : ∀ y, y ∈ m1 ∨ y ∈ m2 → y.i ≠ i := fun y hy => by
    have h1 := hv.dif
    rw [hsplit] at h1
    obtain ⟨h2, h3, h4⟩ := List.pairwise_append.1 h1
    rcases hy with hy | hy
    · rw [← ex1]; exact h4 y hy x (List.mem_cons_self ..)
    · rw [← ex1]; exact fun e => (List.pairwise_cons.1 h3).1 y hy e.symm
  have hord1 : ∀ y, y ∈ m1 → i < y.i → (ndOf nd y.i).testBit i = false := fun y hy hlt => by
    have h1 := hv.ord
    rw [hsplit] at h1
    have := (List.pairwise_append.1 h1).2.2 y hy x (List.mem_cons_self ..)
    rw [ex1] at this
    exact this hlt
  have hord2 : ∀ y, y ∈ m2 → y.i < i → (ndOf nd i).testBit y.i = false := fun y hy hlt => by
    have h1 := hv.ord
    rw [hsplit] at h1
    have := (List.pairwise_cons.1 (List.pairwise_append.1 h1).2.1).1 y hy
    rw [ex1] at this
    exact this hlt
  have hkm : ∀ y, y ∈ m → ∀ s, y.kl = some s → (s ∈ y.o.looksAt ops ∨ wrB y.o = true) ∧ ∀ j x, ops[j]? = some x → s ∈ namesOf ops x ∨ (s ∉ y.o.looksAt ops ∧ wrB y.o = true ∧ wrB x = true) → j ≠ y.i → (y.i < j → (ndOf nd j).testBit y.i = true) ∧ (j < y.i → (ndOf nd y.i).testBit j = true) := fun y hy s hs => by
      obtain ⟨p1, p2, hp12⟩ := List.append_of_mem hy
      have := (hv.op p1 y p2 hp12).2 s hs
      exact ⟨this.1.1, this.2⟩
  have ordd : ∀ y, y ∈ m → y.i ≠ i → ops[y.i]? = some y.o → (∃ t, y.tch t ∧ (t ∈ namesOf ops oi ∨ x.kl = some t)) → (i < y.i → (ndOf nd y.i).testBit i = true) ∧ (y.i < i → (ndOf nd i).testBit y.i = true) := fun y hym hne h2 ⟨t, ht, htn⟩ => by
    rcases htn with htn | htn
    · rcases ht with ht | ht
      · have := hg.ord y.i y.o t i oi h2 ht hoi htn (fun e => hne e)
        exact ⟨this.2, this.1⟩
      · have := (hkm y hym t ht).2 i oi hoi (.inl htn) (fun e => hne e.symm)
        exact ⟨this.2, this.1⟩
    · have hx1 := hkm x hxm t htn
      rw [hox, ex1] at hx1
      rcases ht with ht | ht
      · have := hx1.2 y.i y.o h2 (.inl (List.mem_append_right _ (by rw [ht]; simp))) hne
        exact this
      · by_cases htl : t ∈ namesOf ops y.o
        · exact hx1.2 y.i y.o h2 (.inl htl) hne
        · have hyd : wrB y.o = true := (hkm y hym t ht).1.resolve_left fun e => htl (List.mem_append_left _ e)
          by_cases htx : t ∈ namesOf ops oi
          · have := (hkm y hym t ht).2 i oi hoi (.inl htx) (fun e => hne e.symm)
            exact ⟨this.2, this.1⟩
          · have hxl : t ∉ oi.looksAt ops := fun e => htx (List.mem_append_left _ e)
            have hxd : wrB oi = true := hx1.1.resolve_left hxl
            exact hx1.2 y.i y.o h2 (.inr ⟨hxl, hxd, hyd⟩) hne
  have later : ∀ y, y ∈ m2 → (∃ t, y.tch t ∧ (t ∈ namesOf ops oi ∨ x.kl = some t)) → listed.getD y.i false = false := fun y hy ht => by
    have hym : y ∈ m := by rw [hsplit]; exact List.mem_append_right _ (List.mem_cons_of_mem _ hy)
    have h1 := hne y (.inr hy)
    have h2 := hv.at_ y hym
    cases hvv : listed.getD y.i false with
    | false => rfl
    | true =>
      have h3 := ordd y hym h1 h2 ht
      rcases Nat.lt_or_gt_of_ne h1 with h4 | h4
      · rw [hord2 y hy h4] at h3; exact absurd (h3.2 h4) (by simp)
      · have h5 := hc.cl _ hvv i (h3.1 h4)
        rw [getD_tf hiu] at h5; cases h5
  have earlier : ∀ y, y ∈ m1 → (∃ t, y.tch t ∧ (t ∈ namesOf ops oi ∨ x.kl = some t)) → listed.getD y.i false = true := fun y hy ht => by
    have hym : y ∈ m := by rw [hsplit]; exact List.mem_append_left _ hy
    have h1 := hne y (.inl hy)
    have h2 := hv.at_ y hym
    have h3 := ordd y hym h1 h2 ht
    rcases Nat.lt_or_gt_of_ne h1 with h4 | h4
    · exact ready_need hg hc hi (h3.2 h4)
    · rw [hord1 y hy h4] at h3; exact absurd (h3.1 h4) (by simp)
  have hsame : ∀ t, t ∈ oi.looksAt ops ∨ x.kl = some t → acc (lst listed) m A0 t = acc (fun _ => true) m1 A0 t := fun t ht => by
    have htn : t ∈ namesOf ops oi ∨ x.kl = some t := ht.imp (List.mem_append_left _) id
    rw [hsplit, acc_append]
    have h1 : acc (lst listed) (x :: m2) (acc (lst listed) m1 A0) t = acc (lst listed) m1 A0 t := by
      refine acc_skip fun y hy hyt => ?_
      rcases List.mem_cons.1 hy with rfl | hy
      · show listed.getD y.i false = false
        rw [ex1]; exact getD_tf hiu
      · exact later y hy ⟨t, hyt, htn⟩
    rw [h1]
    exact acc_congr rfl fun y hy hyt => earlier y hy ⟨t, hyt, htn⟩
  have hloc : LocOp P ops c L oi (acc (lst listed) m A0) x.F x.kl := by
    have h0 := ((hv.op m1 x m2 hsplit).1 (by rw [ex1]; exact hdi)).1
    rw [hox] at h0
    exact h0.congr hsame
  have hkok : ∀ s, x.kl = some s → (s ∈ oi.looksAt ops ∨ wrB oi = true) ∧ ∃ (ι : Type) (val : ι → Value) (I : ι → Item), acc (lst listed) m A0 s = some (.own val I) := fun s hs => by
    obtain ⟨⟨h1, ι, val, I, h2⟩, _⟩ := (hv.op m1 x m2 hsplit).2 s hs
    rw [hox] at h1
    exact ⟨h1, ι, val, I, by rw [hsame s (.inr hs)]; exact h2⟩
  have hget : ∀ j, j ≠ i → (listed.setIfInBounds i true).getD j false = listed.getD j false := fun j hj => getD_set_ne false (Ne.symm hj)
  have hiT : (listed.setIfInBounds i true).getD i false = true := by simp [hiL]
  have hacc : ∀ t, putO (killO (acc (lst listed) m A0) x.kl) (tgt oi x.kl) x.F t = acc (lst (listed.setIfInBounds i true)) m A0 t := fun t => by
    have happ : putO (killO (acc (lst listed) m A0) x.kl) (tgt oi x.kl) x.F = x.app (acc (lst listed) m A0) := by unfold Ent.app; rw [hox]
    rw [happ]
    by_cases hd : x.tch t
    · rw [hsplit, acc_append, acc_append]
      simp only [acc]
      rw [ex1, show lst (listed.setIfInBounds i true) i = true from hiT]
      simp only [cond_true]
      have hnm : t ∈ namesOf ops oi ∨ x.kl = some t := by
        rcases hd with hd | hd
        · rw [hox] at hd; exact .inl (by unfold namesOf; rw [hd]; simp)
        · exact .inr hd
      have h2 : acc (lst (listed.setIfInBounds i true)) m2 (x.app (acc (lst (listed.setIfInBounds i true)) m1 A0)) t = x.app (acc (lst (listed.setIfInBounds i true)) m1 A0) t := by
        refine acc_skip fun y hy hyt => ?_
        show (listed.setIfInBounds i true).getD y.i false = false
        rw [hget y.i (hne y (.inr hy))]
        exact later y hy ⟨t, hyt, hnm⟩
      rw [h2]
      exact Ent.app_same (.inl hd)
    · rw [Ent.app_ne hd]
      refine acc_congr rfl fun y hy hyt => (hget y.i fun hyi => ?_).symm
      rw [hsplit] at hy
      rcases List.mem_append.1 hy with hy | hy
      · exact hne y (.inl hy) hyi
      · rcases List.mem_cons.1 hy with rfl | hy
        · exact hd hyt
        · exact hne y (.inr hy) hyi
  have hfs : FS ops nd dn m (listed.setIfInBounds i true) := by
    refine ⟨hc.set hg hi, fun j hj => ?_, fun j hj => ?_⟩
    · by_cases hji : j = i
      · subst hji; exact hiT
      · rw [hget j hji]; exact hs.done j hj
    · by_cases hji : j = i
      · subst hji; exact ⟨x, hxm, ex1⟩
      · rw [hget j hji] at hj; exact hs.only j hj
  obtain ⟨M, hM1, hM2, hM3⟩ := SS.takes (ops := ops) (o := oi) (kl := x.kl) st hkok
  have hnext : ∀ φ' v w', x.F.post M φ w φ' (res oi x.kl a v) w' → wpAny P .any ops Q u (listed.setIfInBounds i true) (a.put oi.dst v) w' := fun φ' v w' hpost => by
    have h9 := (hM3 (tgt oi x.kl) x.F φ' (res oi x.kl a v) w' (fun t ht => ?_) hpost).congr hacc
    · rw [put_res] at h9
      exact next φ' _ w' hfs h9
    · cases hd : oi.dst with
      | some d =>
        rw [tgt_some hd] at ht
        injection ht with ht
        subst ht
        have := opsAll_spec hN i oi (by simpa using hoi)
        exact .inl (dstB_spec this _ hd)
      | none =>
        rw [tgt_kl hd] at ht
        rw [ht, res_kl hd]
        exact .inr rfl
  have hfin := hloc φ a w _ Q M hM1 hM2 (fun t ht B hB => by
    cases hA : acc (lst listed) m A0 t with
    | none => rw [hA] at hB; cases hB
    | some D =>
      rw [hA] at hB
      cases D with
      | v D => obtain rfl : D = B := by simpa [Out.toV] using hB
               exact st.env t D hA
      | own val I => cases hB) hnext
  unfold wpOp
  simp only [hoi]
  split
  · rename_i hw
    rw [hw] at hfin
    exact .inl (by simpa using hfin)
  · rename_i hw
    have hw' : Region.wanted oi (yielded ops a.tmps) = false := by simpa using hw
    rw [hw'] at hfin
    have hidle : x.kl = none ∧ x.F.idle φ := by simpa using hfin
    have hM0 : M = [] := by rw [hidle.1] at hM2; exact hM2
    subst hM0
    refine hnext φ undef w ?_
    rw [hidle.1, res_none]
    cases hF : x.F with
    | v F => rw [hF] at hidle; exact ⟨HP.start (L := []) ⟨st.mem.mem.base, by simp, List.Pairwise.nil⟩, hidle.2⟩
    | own val I => rw [hF] at hidle; exact hidle.2.elim
/-- The walked ones come up in any order; what else may come up is asked for. -/
theorem frun {Q : Exit → Act → World → Prop} {nd : List Nat} {fr dn ks : List Nat} {m : List Ent} {A0 : Nat → Option Out} (hg : Good ops nd) (hN : opsAll (fun _ o => dstB N o.dst) ops.toList 0 = true) (hv : FV P ops c nd L fr dn ks m A0)
    (exit : ∀ φ a w listed, FS ops nd dn m listed → SS c N (acc (lst listed) m A0) L φ a w → wpAny P .any ops Q (unl ops.size listed) listed a w ∨
      ((Region.ready .any ops listed = [] → Q .normal a w) ∧ ∀ i, i ∈ Region.ready .any ops listed → (∀ x, x ∈ m → x.i ≠ i) → wpOp P ops Q i (wpAny P .any ops Q (unl ops.size (listed.setIfInBounds i true)) (listed.setIfInBounds i true)) a w)) :
    ∀ (u : Nat) (φ : Fz) (a : Act) (w : World) (listed : Array Bool), unl ops.size listed = u → FS ops nd dn m listed → SS c N (acc (lst listed) m A0) L φ a w → wpAny P .any ops Q u listed a w := by
  intro u
  induction u with
  | zero =>
    intro φ a w listed hu hs st
    rcases exit φ a w listed hs st with h | ⟨h1, h2⟩
    · rw [hu] at h; exact h
    · have hall := unl_zero hu
      have hr : Region.ready .any ops listed = [] := by
        cases hr : Region.ready .any ops listed with
        | nil => rfl
        | cons i l =>
          exfalso
          have hm : i ∈ Region.ready .any ops listed := by rw [hr]; exact List.mem_cons_self ..
          obtain ⟨h3, o, ho, _⟩ := mem_ready.1 hm
          rw [hall i (Array.getElem?_eq_some_iff.1 ho).1] at h3
          cases h3
      exact ⟨hr, h1 hr⟩
  | succ u ih =>
    intro φ a w listed hu hs st
    rcases exit φ a w listed hs st with h | ⟨h1, h2⟩
    · rw [hu] at h; exact h
    · refine ⟨h1, fun i hi => ?_⟩
      obtain ⟨hiu, oi, hoi, _⟩ := mem_ready.1 hi
      have hilt : i < ops.size := (Array.getElem?_eq_some_iff.1 hoi).1
      have hunl : unl ops.size (listed.setIfInBounds i true) = u := by
        have := unl_set (by rw [hs.cl.size]; exact hilt) hiu hilt; omega
      by_cases hx : ∃ x, x ∈ m ∧ x.i = i
      · obtain ⟨x, hxm, rfl⟩ := hx
        exact fstep hg hN hv hs st hxm hi fun φ' a' w' hs' st' => ih φ' a' w' _ hunl hs' st'
      · have := h2 i hi fun x hxm e => hx ⟨x, hxm, e⟩
        rw [hunl] at this; exact this
theorem SS.bar {A : Nat → Option Out} {φ φ' : Fz} {a : Act} {w w' : World} {L' : List Item} {d : Option Tmp} {F : VP} {v : Value} (h : SS c N A L φ a w) (hd : ∀ t, d = some t → t < N) (hp : HP ⟨w, φ, names L, []⟩ φ' L' w') (hF : F.ok φ' v) : SS c N (putO A d (.v F)) L' φ' (a.put d v) w' := by
  have hle : Fle φ φ' := hp.fle h.mem.mem.base
  have hmem : HP c φ' L' w' := by
    have := HP.call (L := L) (M := []) (by rw [List.append_nil]; exact h.mem) hp
    rwa [List.append_nil] at this
  obtain ⟨β, hβ, hap⟩ := h.own
  have key : ∀ (t : Tmp) (o : Out), putO A d (.v F) t = some o → (d = some t ∧ o = .v F) ∨ (d ≠ some t ∧ A t = some o) := fun t o ht => by
    by_cases e : d = some t
    · rw [e, putO_eq] at ht
      injection ht with ht
      exact .inl ⟨e, ht.symm⟩
    · rw [putO_ne e] at ht
      exact .inr ⟨e, ht⟩
  refine ⟨by rw [Act.put_defs]; exact h.defers, by rw [Act.put_size]; exact h.size, fun t B ht => ?_, hmem, β, fun t ι val I ht => ?_, fun t t' ι ι' val I val' I' hne ht ht' => ?_⟩
  · rcases key t _ ht with ⟨e, e2⟩ | ⟨e, ht⟩
    · injection e2 with e2
      subst e2 e
      rw [put_get_same (.inl (by rw [h.size]; exact hd t rfl))]; exact hF
    · rw [put_get_ne e]; exact B.mono hle (h.env t B ht)
  · rcases key t _ ht with ⟨e, e2⟩ | ⟨e, ht⟩
    · cases e2
    · obtain ⟨h1, ⟨h2, h3⟩, h4⟩ := hβ t ι val I ht
      refine ⟨by rw [put_get_ne e]; exact h1, ⟨?_, fun b hb => ?_⟩, fun b hb => ⟨(h4 b hb).1, fun hn => ?_⟩⟩
      · cases hat : (β t).at_ with
        | none => rw [hat] at h2; exact (β t).mono hle h2
        | some b =>
          have h5 := (h3 b hat).1
          have h6 := (h4 b hat).2
          rw [hat] at h2
          simp only [Option.bind_some] at h2 ⊢
          rw [hp.kept.block b h5 h6]
          exact (β t).mono hle h2
      · refine ⟨Nat.lt_of_lt_of_le (h3 b hb).1 hp.kept.size, fun i => ?_⟩
        rw [hp.old b i (h3 b hb).1]; exact (h3 b hb).2 i
      · rcases hp.mine b hn with h5 | h5
        · exact absurd (h3 b hb).1 (Nat.not_lt.2 h5)
        · exact (h4 b hb).2 h5
  · rcases key t _ ht with ⟨e, e2⟩ | ⟨e, ht⟩
    · cases e2
    · rcases key t' _ ht' with ⟨e', e2'⟩ | ⟨e', ht'⟩
      · cases e2'
      · exact hap t t' _ _ val I val' I' hne ht ht'
/-- The walk: mi have been walked, dn of them have come up for sure, fr of them lean on no memory, ks has been taken. -/
def JF (P : Program) (ops : Array Oper) (Q : Exit → Act → World → Prop) (c : Ctx) (N : Nat) (nd : List Nat) (fr dn ks mi : List Nat) (EO : EnvO) (L : List Item) : Prop :=
  Good ops nd → opsAll (fun _ o => dstB N o.dst) ops.toList 0 = true → ∀ m A0, FV P ops c nd L fr dn ks m A0 → (∀ i, inB mi i = true ↔ ∃ x, x ∈ m ∧ x.i = i) → acc (fun _ => true) m A0 = lookO EO →
    ∀ φ a w listed, FS ops nd dn m listed → SS c N (acc (lst listed) m A0) L φ a w → wpAny P .any ops Q (unl ops.size listed) listed a w
theorem split_snoc {α : Type _} {m m1 m2 : List α} {e x : α} (h : m ++ [e] = m1 ++ x :: m2) : (m1 = m ∧ x = e ∧ m2 = []) ∨ ∃ m3, m2 = m3 ++ [e] ∧ m = m1 ++ x :: m3 := by
  rcases List.eq_nil_or_concat m2 with rfl | ⟨m3, y, rfl⟩
  · have := List.append_inj' h rfl
    obtain ⟨h1, h2⟩ := this
    injection h2 with h2
    exact .inl ⟨h1.symm, h2.symm, rfl⟩
  · have h' : m ++ [e] = (m1 ++ x :: m3) ++ [y] := by rw [h]; simp
    obtain ⟨h1, h2⟩ := List.append_inj' h' rfl
    injection h2 with h2
    exact .inr ⟨m3, by rw [h2]; simp, h1⟩
def newB (nd mi : List Nat) (i : Nat) : Bool := !inB mi i && mi.all fun j => !Nat.blt i j || !(ndOf nd j).testBit i
section
variable {Q : Exit → Act → World → Prop} {nd : List Nat} {fr dn ks mi : List Nat} {EO : EnvO}
theorem FV.snoc {m : List Ent} {A0 : Nat → Option Out} {e : Ent} {fr' dn' ks' : List Nat} {L' : List Item} (hv : FV P ops c nd L fr dn ks m A0) (ha : ops[e.i]? = some e.o) (hd : ∀ x, x ∈ m → x.i ≠ e.i) (ho : ∀ x, x ∈ m → e.i < x.i → (ndOf nd x.i).testBit e.i = false)
    (hL : ∀ x, x ∈ m → ∀ m1, inB dn' x.i = false → inB dn x.i = false ∧ ((LocOp P ops c L x.o (acc (fun _ => true) m1 A0) x.F x.kl ∧ (inB fr x.i = true → ∀ L'', LocOp P ops c L'' x.o (acc (fun _ => true) m1 A0) x.F x.kl)) → (LocOp P ops c L' x.o (acc (fun _ => true) m1 A0) x.F x.kl ∧ (inB fr' x.i = true → ∀ L'', LocOp P ops c L'' x.o (acc (fun _ => true) m1 A0) x.F x.kl))))
    (he : inB dn' e.i = false → LocOp P ops c L' e.o (acc (fun _ => true) m A0) e.F e.kl ∧ (inB fr' e.i = true → ∀ L'', LocOp P ops c L'' e.o (acc (fun _ => true) m A0) e.F e.kl)) (hk : KillOk ops nd e.i e.o (acc (fun _ => true) m A0) e.kl)
    (hks : ∀ s, s ∈ ks → s ∈ ks') (hke : ∀ s, e.kl = some s → s ∈ ks') : FV P ops c nd L' fr' dn' ks' (m ++ [e]) A0 := by
  refine ⟨fun x hx => ?_, List.pairwise_append.2 ⟨hv.dif, List.pairwise_singleton _ _, fun x hx y hy => ?_⟩, List.pairwise_append.2 ⟨hv.ord, List.pairwise_singleton _ _, fun x hx y hy => ?_⟩, fun m1 x m2 hm => ?_, fun x hx s hs => ?_⟩
  · rcases List.mem_append.1 hx with hx | hx
    · exact hv.at_ x hx
    · rw [List.mem_singleton] at hx; subst hx; exact ha
  · rw [List.mem_singleton] at hy; subst hy; exact hd x hx
  · rw [List.mem_singleton] at hy; subst hy; exact ho x hx
  · rcases split_snoc hm with ⟨rfl, rfl, rfl⟩ | ⟨m3, rfl, hm'⟩
    · exact ⟨he, hk⟩
    · have hx : x ∈ m := by rw [hm']; exact List.mem_append_right _ (List.mem_cons_self ..)
      obtain ⟨h1, h2⟩ := hv.op m1 x m3 hm'
      refine ⟨fun hdn => ?_, h2⟩
      obtain ⟨h3, h4⟩ := hL x hx m1 hdn
      exact h4 (h1 h3)
  · rcases List.mem_append.1 hx with hx | hx
    · exact hks _ (hv.kls x hx s hs)
    · rw [List.mem_singleton] at hx; subst hx; exact hke s hs
theorem mi_snoc {m : List Ent} {e : Ent} (h : ∀ i, inB mi i = true ↔ ∃ x, x ∈ m ∧ x.i = i) : ∀ i, inB (e.i :: mi) i = true ↔ ∃ x, x ∈ m ++ [e] ∧ x.i = i := fun i => by
  constructor
  · intro hi
    rcases List.mem_cons.1 (inB_iff.1 hi) with rfl | hi
    · exact ⟨e, List.mem_append_right _ (List.mem_singleton.2 rfl), rfl⟩
    · obtain ⟨x, h1, h2⟩ := (h i).1 (inB_iff.2 hi)
      exact ⟨x, List.mem_append_left _ h1, h2⟩
  · rintro ⟨x, hx, rfl⟩
    refine inB_iff.2 ?_
    rcases List.mem_append.1 hx with hx | hx
    · exact List.mem_cons_of_mem _ (inB_iff.1 ((h x.i).2 ⟨x, hx, rfl⟩))
    · rw [List.mem_singleton] at hx; subst hx; exact List.mem_cons_self ..
theorem JF_add {i : Nat} {o : Oper} {F : Out} {kl : Option Tmp} (fr' : List Nat) (hi : ops[i]? = some o) (hB : newB nd mi i = true) (hk : KillOk ops nd i o (lookO EO) kl) (hl : LocOp P ops c L o (lookO EO) F kl) (hf : fr' = fr ∧ inB fr i = false ∨ fr' = i :: fr ∧ ∀ L', LocOp P ops c L' o (lookO EO) F kl)
    (h : JF P ops Q c N nd fr' dn (kl.toList ++ ks) (i :: mi) (putEO (killE EO kl) (tgt o kl) F) L) : JF P ops Q c N nd fr dn ks mi EO L := by
  intro hg hN m A0 hv hmi hacc φ a w listed hs st
  unfold newB at hB
  simp only [Bool.and_eq_true] at hB
  obtain ⟨hB1, hB2⟩ := hB
  have hnew : ∀ x, x ∈ m → x.i ≠ i := fun x hx e => by
    have := (hmi x.i).2 ⟨x, hx, rfl⟩
    rw [e] at this
    rw [this] at hB1; cases hB1
  have hun : listed.getD i false = false := by
    cases hv' : listed.getD i false with
    | false => rfl
    | true =>
      obtain ⟨x, h1, h2⟩ := hs.only i hv'
      exact absurd h2 (hnew x h1)
  have hfr : ∀ x, x ∈ m → inB fr' x.i = true → inB fr x.i = true := fun x hx hx' => by
    rcases hf with ⟨e, _⟩ | ⟨e, _⟩
    · rw [e] at hx'; exact hx'
    · rw [e] at hx'
      rcases List.mem_cons.1 (inB_iff.1 hx') with h1 | h1
      · exact absurd h1 (hnew x hx)
      · exact inB_iff.2 h1
  refine h hg hN (m ++ [⟨i, o, F, kl⟩]) A0 (hv.snoc hi hnew (fun x hx hlt => ?_) (fun x hx m1 hd => ⟨hd, fun h1 => ⟨h1.1, fun h2 => h1.2 (hfr x hx h2)⟩⟩) (fun _ => ⟨by rw [hacc]; exact hl, fun h1 => ?_⟩) (by rw [hacc]; exact hk) (fun s hs => List.mem_append_right _ hs) (fun s hs => ?_)) (mi_snoc (e := ⟨i, o, F, kl⟩) hmi) ?_ φ a w listed ⟨hs.cl, hs.done, fun j hj => ?_⟩ (st.congr fun t => ?_)
  · have h1 := List.all_eq_true.1 hB2 x.i (inB_iff.1 ((hmi x.i).2 ⟨x, hx, rfl⟩))
    have h2 : Nat.blt i x.i = true := by simpa using hlt
    rw [h2] at h1
    simpa using h1
  · rw [hacc]
    rcases hf with ⟨e, h2⟩ | ⟨e, h2⟩
    · have h1' : inB fr' i = true := h1
      rw [e, h2] at h1'; cases h1'
    · exact h2
  · have hs' : kl = some s := hs
    rw [hs']; exact List.mem_append_left _ (by simp)
  · rw [acc_append, hacc, lookO_put, lookO_kill]; rfl
  · obtain ⟨x, h1, h2⟩ := hs.only j hj
    exact ⟨x, List.mem_append_left _ h1, h2⟩
  · rw [acc_append]
    refine (acc_skip fun x hx _ => ?_).symm
    rw [List.mem_singleton] at hx; subst hx; exact hun
def barB (ops : Array Oper) (nd fr dn dn' mi : List Nat) (i : Nat) : Bool :=
  !inB mi i && (mi.all fun j => !(ndOf nd j).testBit i) && ((List.range ops.size).all fun j => inB mi j || Nat.beq j i || (ndOf nd j).testBit i) &&
    (dn'.all fun j => Nat.beq j i || inB dn j || (ndOf nd i).testBit j) && (mi.all fun j => inB dn' j || inB fr j) && inB dn' i && (dn.all fun j => inB dn' j)
theorem JF_bar {i : Nat} {o : Oper} {ι : Type} {F : ι → VP} {L' : ι → List Item} (dn' : List Nat) (hi : ops[i]? = some o) (hgd : o.guard = none) (hB : barB ops nd fr dn dn' mi i = true) (hs : ∀ c' : Ctx, OpS P c' o (vals EO) L F L')
    (h : ∀ z, JF P ops Q c N nd fr dn' ks (i :: mi) (putEO EO o.dst (.v (F z))) (L' z)) : JF P ops Q c N nd fr dn ks mi EO L := by
  intro hg hN m A0 hv hmi hacc φ a w listed hfs st
  unfold barB at hB
  simp only [Bool.and_eq_true] at hB
  obtain ⟨⟨⟨⟨⟨⟨hB1, hB2⟩, hB3⟩, hB4⟩, hB5⟩, hB6⟩, hB7⟩ := hB
  have hilt : i < ops.size := (Array.getElem?_eq_some_iff.1 hi).1
  have hnew : ∀ x, x ∈ m → x.i ≠ i := fun x hx e => by
    have := (hmi x.i).2 ⟨x, hx, rfl⟩
    rw [e] at this
    rw [this] at hB1; cases hB1
  have hnn : ∀ x, x ∈ m → (ndOf nd x.i).testBit i = false := fun x hx => by
    have := List.all_eq_true.1 hB2 x.i (inB_iff.1 ((hmi x.i).2 ⟨x, hx, rfl⟩))
    simpa using this
  refine frun hg hN hv (fun φ a w listed hfs st => .inr ⟨fun hr => ?_, fun j hj hjm => ?_⟩) _ φ a w listed rfl hfs st
  · have hun : listed.getD i true = false := by
      cases hv' : listed.getD i true with
      | false => rfl
      | true =>
        have h1 : listed.getD i false = true := by
          have : i < listed.size := by rw [hfs.cl.size]; exact hilt
          simp [this] at hv' ⊢; exact hv'
        obtain ⟨x, h2, h3⟩ := hfs.only i h1
        exact absurd h3 (hnew x h2)
    obtain ⟨i0, h1, h2, h3⟩ := exists_least_unl (listed := listed) ops.size ⟨i, hilt, hun⟩
    have := ready_least hg hfs.cl.size h1 h2 h3
    rw [hr] at this; cases this
  · have hun : listed.getD i false = false := by
      cases hv' : listed.getD i false with
      | false => rfl
      | true =>
        obtain ⟨x, h2, h3⟩ := hfs.only i hv'
        exact absurd h3 (hnew x h2)
    have hji : j = i := by
      obtain ⟨_, oj, hoj, _⟩ := mem_ready.1 hj
      have h1 := List.all_eq_true.1 hB3 j (List.mem_range.2 (Array.getElem?_eq_some_iff.1 hoj).1)
      simp only [Bool.or_eq_true] at h1
      rcases h1 with (h1 | h1) | h1
      · obtain ⟨x, h2, h3⟩ := (hmi j).1 h1
        exact absurd h3 (hjm x h2)
      · exact Nat.eq_of_beq_eq_true h1
      · have := ready_need hg hfs.cl hj h1
        rw [hun] at this; cases this
    subst hji
    unfold wpOp
    simp only [hi]
    rw [if_pos (by simp [Region.wanted, hgd])]
    refine .inl (hs ⟨w, φ, names L, []⟩ φ a w _ Q (HP.start st.mem.mem) (evs (ops := ops) st.mem.mem.facts fun t ht B hB => ?_) fun z φ' v w' hle hF hp => ?_)
    · have h1 : acc (lst listed) m A0 t = lookO EO t := by
        rw [← hacc]
        refine acc_congr rfl fun y hy hyt => ?_
        show listed.getD y.i false = true
        have hyo := hv.at_ y hy
        have hne := hnew y hy
        have h2 : (y.i < j → (ndOf nd j).testBit y.i = true) ∧ (j < y.i → (ndOf nd y.i).testBit j = true) := by
          rcases hyt with hyt | hyt
          · exact hg.ord y.i y.o t j o hyo hyt hi (List.mem_append_left _ ht) hne
          · obtain ⟨p1, p2, hp12⟩ := List.append_of_mem hy
            have h3 := ((hv.op p1 y p2 hp12).2 t hyt).2 j o hi (.inl (List.mem_append_left _ ht)) (Ne.symm hne)
            exact h3
        rcases Nat.lt_or_gt_of_ne hne with h3 | h3
        · exact ready_need hg hfs.cl hj (h2.1 h3)
        · have := h2.2 h3
          rw [hnn y hy] at this; cases this
      cases hA : lookO EO t with
      | none => rw [hA] at hB; cases hB
      | some D =>
        rw [hA] at hB h1
        cases D with
        | v D => obtain rfl : D = B := by simpa [Out.toV] using hB
                 exact st.env t D h1
        | own val I => cases hB
    · have hcl := hfs.cl.set hg hj
      have hjl : j < listed.size := by rw [hfs.cl.size]; exact hilt
      have hjT : (listed.setIfInBounds j true).getD j false = true := by simp [hjl]
      have hget : ∀ q, q ≠ j → (listed.setIfInBounds j true).getD q false = listed.getD q false := fun q hq => getD_set_ne false (Ne.symm hq)
      have hdst : ∀ t, o.dst = some t → t < N := by
        have := opsAll_spec hN j o (by simpa using hi)
        exact dstB_spec this
      refine h z hg hN (m ++ [⟨j, o, .v (F z), none⟩]) A0 (hv.snoc hi hnew (fun x hx _ => hnn x hx) (fun x hx m1 hd => ?_) (fun hd => ?_) killOk_none (fun s hs => hs) (fun s hs => by cases hs)) (mi_snoc (e := ⟨j, o, .v (F z), none⟩) hmi) ?_ φ' _ w' _ ⟨hcl, fun q hq => ?_, fun q hq => ?_⟩ ((st.bar hdst hp hF).congr fun t => ?_)
      · have hdx : inB dn x.i = false := by
          cases hv' : inB dn x.i with
          | false => rfl
          | true => have := List.all_eq_true.1 hB7 x.i (inB_iff.1 hv'); rw [hd] at this; cases this
        refine ⟨hdx, fun h1 => ?_⟩
        have h2 := List.all_eq_true.1 hB5 x.i (inB_iff.1 ((hmi x.i).2 ⟨x, hx, rfl⟩))
        rw [hd, Bool.false_or] at h2
        exact ⟨h1.2 h2 _, h1.2⟩
      · have hd' : inB dn' j = false := hd
        rw [hB6] at hd'; cases hd'
      · rw [acc_append, hacc, lookO_put]
        show Ent.app _ _ = _
        unfold Ent.app killO
        dsimp only
        rw [tgt_none]
        simp
      · by_cases hqj : q = j
        · subst hqj; exact hjT
        · rw [hget q hqj]
          have h1 := List.all_eq_true.1 hB4 q (inB_iff.1 hq)
          simp only [Bool.or_eq_true] at h1
          rcases h1 with (h1 | h1) | h1
          · exact absurd (Nat.eq_of_beq_eq_true h1) hqj
          · exact hfs.done q h1
          · exact ready_need hg hfs.cl hj h1
      · by_cases hqj : q = j
        · subst hqj; exact ⟨_, List.mem_append_right _ (List.mem_singleton.2 rfl), rfl⟩
        · rw [hget q hqj] at hq
          obtain ⟨x, h1, h2⟩ := hfs.only q hq
          exact ⟨x, List.mem_append_left _ h1, h2⟩
      · rw [acc_append]
        have h1 : acc (lst (listed.setIfInBounds j true)) [⟨j, o, .v (F z), none⟩] (acc (lst (listed.setIfInBounds j true)) m A0) = (⟨j, o, .v (F z), none⟩ : Ent).app (acc (lst (listed.setIfInBounds j true)) m A0) := by
          show (bif lst (listed.setIfInBounds j true) j then _ else _) = _
          rw [show lst (listed.setIfInBounds j true) j = true from hjT]; rfl
        rw [h1]
        have h2 : ∀ t, acc (lst (listed.setIfInBounds j true)) m A0 t = acc (lst listed) m A0 t := fun t => acc_congr rfl fun x hx _ => hget x.i (hnew x hx)
        unfold Ent.app
        dsimp only
        rw [tgt_none]
        by_cases hdt : o.dst = some t
        · rw [hdt, putO_eq, putO_eq]
        · rw [putO_ne hdt, putO_ne hdt, ← h2 t]
          unfold killO; simp
theorem JF_end (hB : ((List.range ops.size).all fun j => inB mi j) = true) (hb : bareB EO [] = true) (h : opn EO fun E M => JQ c N E (M ++ L) Q .normal) : JF P ops Q c N nd fr dn ks mi EO L := by
  intro hg hN m A0 hv hmi hacc φ a w listed hfs st
  refine frun hg hN hv (fun φ a w listed hfs st => .inr ⟨fun hr => ?_, fun j hj hjm => ?_⟩) _ φ a w listed rfl hfs st
  · have hall : ∀ x, x ∈ m → listed.getD x.i false = true := fun x hx => by
      have hlt := (Array.getElem?_eq_some_iff.1 (hv.at_ x hx)).1
      cases hv' : listed.getD x.i false with
      | true => rfl
      | false =>
        have h1 : listed.getD x.i true = false := by
          have : x.i < listed.size := by rw [hfs.cl.size]; exact hlt
          simp [this] at hv' ⊢; exact hv'
        obtain ⟨i0, h1, h2, h3⟩ := exists_least_unl (listed := listed) ops.size ⟨x.i, hlt, h1⟩
        have := ready_least hg hfs.cl.size h1 h2 h3
        rw [hr] at this; cases this
    have st' := st.congr (B := lookO EO) fun t => by
      rw [← hacc]
      exact acc_congr rfl fun x hx _ => hall x hx
    obtain ⟨E, M, h1, h2⟩ := st'.open_ hb h
    exact h1 φ a w h2
  · exfalso
    obtain ⟨_, oj, hoj, _⟩ := mem_ready.1 hj
    have h1 := List.all_eq_true.1 hB j (List.mem_range.2 (Array.getElem?_eq_some_iff.1 hoj).1)
    obtain ⟨x, h2, h3⟩ := (hmi j).1 h1
    exact hjm x h2 h3
def nameB (ops : Array Oper) (nd ks mi : List Nat) (d t : Nat) : Bool :=
  inB mi d && ((List.range ops.size).all fun j => inB mi j || (ndOf nd j).testBit d) && (mi.all fun j => Nat.beq j d || !(match ops[j]? with | some x => (namesOf ops x).any (fun s => Nat.beq s t) | none => false)) && !inB ks t
theorem JF_name {ι : Type} {val : ι → Value} {I : ι → Item} (t d : Nat) (hB : nameB ops nd ks mi d t = true) (hd : ((ops[d]?).bind (·.dst)) = some t) (hl : lookO EO t = some (.own val I))
    (h : ∀ i, JF P ops Q c N nd fr (d :: dn) ks mi ((t, .v (Is (val i))) :: killE EO (some t)) (I i :: L)) : JF P ops Q c N nd fr dn ks mi EO L := by
  intro hg hN m A0 hv hmi hacc φ a w listed hfs st
  unfold nameB at hB
  simp only [Bool.and_eq_true] at hB
  obtain ⟨⟨⟨hB1, hB2⟩, hB3⟩, hB4⟩ := hB
  obtain ⟨xd, hxd1, hxd2⟩ := (hmi d).1 hB1
  have hdlt : d < ops.size := by rw [← hxd2]; exact (Array.getElem?_eq_some_iff.1 (hv.at_ xd hxd1)).1
  have hto : ∀ x, x ∈ m → x.tch t → x.i = d := fun x hx ht => by
    rcases ht with ht | ht
    · have h1 := List.all_eq_true.1 hB3 x.i (inB_iff.1 ((hmi x.i).2 ⟨x, hx, rfl⟩))
      rw [hv.at_ x hx] at h1
      simp only [Bool.or_eq_true] at h1
      rcases h1 with h1 | h1
      · exact Nat.eq_of_beq_eq_true h1
      · have h2 : ((namesOf ops x.o).any fun s => Nat.beq s t) = true := List.any_eq_true.2 ⟨t, List.mem_append_right _ (by rw [ht]; simp), by simp⟩
        rw [h2] at h1; cases h1
    · have h1 := inB_iff.2 (hv.kls x hx t ht)
      rw [h1] at hB4; cases hB4
  have hnl : ∀ x, x ∈ m → x.i ≠ d → t ∉ namesOf ops x.o := fun x hx hne h2 => by
    have h1 := List.all_eq_true.1 hB3 x.i (inB_iff.1 ((hmi x.i).2 ⟨x, hx, rfl⟩))
    rw [hv.at_ x hx] at h1
    simp only [Bool.or_eq_true] at h1
    rcases h1 with h1 | h1
    · exact hne (Nat.eq_of_beq_eq_true h1)
    · have h2 : ((namesOf ops x.o).any fun s => Nat.beq s t) = true := List.any_eq_true.2 ⟨t, h2, by simp⟩
      rw [h2] at h1; cases h1
  refine frun hg hN hv (fun φ a w listed hfs st => ?_) _ φ a w listed rfl hfs st
  cases hld : listed.getD d false with
  | false =>
    refine .inr ⟨fun hr => ?_, fun j hj hjm => ?_⟩
    · have h1 : listed.getD d true = false := by
        have : d < listed.size := by rw [hfs.cl.size]; exact hdlt
        simp [this] at hld ⊢; exact hld
      obtain ⟨i0, h1, h2, h3⟩ := exists_least_unl (listed := listed) ops.size ⟨d, hdlt, h1⟩
      have := ready_least hg hfs.cl.size h1 h2 h3
      rw [hr] at this; cases this
    · exfalso
      obtain ⟨_, oj, hoj, _⟩ := mem_ready.1 hj
      have h1 := List.all_eq_true.1 hB2 j (List.mem_range.2 (Array.getElem?_eq_some_iff.1 hoj).1)
      simp only [Bool.or_eq_true] at h1
      rcases h1 with h1 | h1
      · obtain ⟨x, h2, h3⟩ := (hmi j).1 h1
        exact hjm x h2 h3
      · have := ready_need hg hfs.cl hj h1
        rw [hld] at this; cases this
  | true =>
    left
    have hAt : acc (lst listed) m A0 t = some (.own val I) := by
      rw [← hl, ← hacc]
      exact acc_congr rfl fun x hx ht => by rw [hto x hx ht]; exact hld
    obtain ⟨i, st2⟩ := st.openT hAt
    let tell : Ent → Ent := fun x => if x.i = d then ⟨x.i, x.o, .v (Is (val i)), x.kl⟩ else x
    have htl : ∀ x : Ent, x.i ≠ d → tell x = x := fun x hx => if_neg hx
    have htd : ∀ x : Ent, x.i = d → tell x = ⟨x.i, x.o, .v (Is (val i)), x.kl⟩ := fun x hx => if_pos hx
    have htio : ∀ x : Ent, (tell x).i = x.i ∧ (tell x).o = x.o := fun x => by
      by_cases hx : x.i = d
      · rw [htd x hx]; exact ⟨rfl, rfl⟩
      · rw [htl x hx]; exact ⟨rfl, rfl⟩
    have htk : ∀ x : Ent, (tell x).kl = x.kl := fun x => by
      by_cases hx : x.i = d
      · rw [htd x hx]
      · rw [htl x hx]
    have hxd : ∀ x, x ∈ m → x.i = d → x.o.dst = some t := fun x hx hi => by
      have h2 := hv.at_ x hx
      rw [hi] at h2
      rw [h2] at hd; exact hd
    have hkt : ∀ x, x ∈ m → x.kl ≠ some t := fun x hx e => by
      have h1 := inB_iff.2 (hv.kls x hx t e)
      rw [h1] at hB4; cases hB4
    have happ : ∀ x, x ∈ m → ∀ s, s ≠ t → ∀ A B : Nat → Option Out, A s = B s → x.app A s = (tell x).app B s := fun x hx s hs A B hAB => by
      by_cases hi : x.i = d
      · rw [htd x hi]
        unfold Ent.app
        dsimp only
        have h1 := tgt_some (hxd x hx hi) x.kl
        rw [h1, putO_ne (fun e => hs (Option.some.inj e).symm), putO_ne (fun e => hs (Option.some.inj e).symm)]
        unfold killO
        split
        · rfl
        · exact hAB
      · rw [htl x hi]
        by_cases ht : x.tch s
        · exact Ent.app_same (.inl ht)
        · exact Ent.app_same (.inr hAB)
    have haway : ∀ (p : Nat → Bool) (m1 : List Ent), (∀ x, x ∈ m1 → x ∈ m) → ∀ s, s ≠ t → acc p m1 A0 s = acc p (m1.map tell) A0 s := fun p m1 hm1 s hs => by
      refine acc_not (by simp) (fun j x x' h1 h2 => ?_) rfl
      rw [List.getElem?_map, h1] at h2
      simp only [Option.map_some, Option.some.injEq] at h2
      rw [← h2]
      exact ⟨(htio x).1, happ x (hm1 x (List.mem_of_getElem? h1)) s hs⟩
    have hat : ∀ p : Nat → Bool, p d = true → acc p (m.map tell) A0 t = some (.v (Is (val i))) := fun p hpd => by
      refine acc_at hpd (fun x hx => ?_) (.inr ⟨tell xd, List.mem_map.2 ⟨xd, hxd1, rfl⟩, by rw [(htio xd).1, hxd2]⟩)
      obtain ⟨y, hy, rfl⟩ := List.mem_map.1 hx
      refine ⟨fun hi A => ?_, fun hi ht => ?_⟩
      · rw [(htio y).1] at hi
        rw [htd y hi]
        unfold Ent.app
        dsimp only
        rw [tgt_some (hxd y hy hi), putO_eq]
      · rw [(htio y).1] at hi
        rw [htl y hi] at ht
        exact hi (hto y hy ht)
    have hv' : FV P ops c nd (I i :: L) fr (d :: dn) ks (m.map tell) A0 := by
      refine ⟨fun x hx => ?_, List.pairwise_map.2 (hv.dif.imp fun {x y} h1 => by rw [(htio x).1, (htio y).1]; exact h1), List.pairwise_map.2 (hv.ord.imp fun {x y} h1 => by rw [(htio x).1, (htio y).1]; exact h1), fun m1 x m2 hm => ?_, fun x hx s hs => ?_⟩
      · obtain ⟨y, hy, rfl⟩ := List.mem_map.1 hx
        rw [(htio y).1, (htio y).2]; exact hv.at_ y hy
      · obtain ⟨l1, l2, h1, rfl, h3⟩ := List.map_eq_append_iff.1 hm
        obtain ⟨y, l3, h4, rfl, rfl⟩ := List.map_eq_cons_iff.1 h3
        rw [h4] at h1
        have hym : y ∈ m := by rw [h1]; exact List.mem_append_right _ (List.mem_cons_self ..)
        have hl1 : ∀ x, x ∈ l1 → x ∈ m := fun x hx => by rw [h1]; exact List.mem_append_left _ hx
        obtain ⟨g1, g2⟩ := hv.op l1 y l3 h1
        refine ⟨fun hdn => ?_, fun s hs => ?_⟩
        · rw [(htio y).1] at hdn
          have hne : y.i ≠ d := fun e => by
            have : inB (d :: dn) y.i = true := inB_iff.2 (by rw [e]; exact List.mem_cons_self ..)
            rw [hdn] at this; cases this
          have hdn' : inB dn y.i = false := by
            cases hv' : inB dn y.i with
            | false => rfl
            | true =>
              have : inB (d :: dn) y.i = true := inB_iff.2 (List.mem_cons_of_mem _ (inB_iff.1 hv'))
              rw [hdn] at this; cases this
          rw [htl y hne]
          obtain ⟨g3, g4⟩ := g1 hdn'
          have hc : ∀ s, s ∈ y.o.looksAt ops ∨ y.kl = some s → acc (fun _ => true) (l1.map tell) A0 s = acc (fun _ => true) l1 A0 s := fun s hs => by
            refine (haway _ l1 hl1 s ?_).symm
            rintro rfl
            rcases hs with hs | hs
            · exact hnl y hym hne (List.mem_append_left _ hs)
            · exact hkt y hym hs
          exact ⟨g3.more.congr hc, fun h5 L'' => (g4 h5 L'').congr hc⟩
        · rw [htk y] at hs
          have hst : s ≠ t := fun e => hkt y hym (by rw [hs, e])
          obtain ⟨⟨g3, ι', val', I', g4⟩, g5⟩ := g2 s hs
          rw [(htio y).1, (htio y).2]
          exact ⟨⟨g3, ι', val', I', by rw [← haway _ l1 hl1 s hst]; exact g4⟩, g5⟩
      · obtain ⟨y, hy, rfl⟩ := List.mem_map.1 hx
        rw [htk y] at hs; exact hv.kls y hy s hs
    refine h i hg hN (m.map tell) A0 hv' (fun j => (hmi j).trans ⟨fun ⟨x, h1, h2⟩ => ⟨tell x, List.mem_map.2 ⟨x, h1, rfl⟩, by rw [(htio x).1]; exact h2⟩, fun ⟨x, h1, h2⟩ => ?_⟩) ?_ φ a w listed ⟨hfs.cl, fun j hj => ?_, fun j hj => ?_⟩ (st2.congr fun s => ?_)
    · obtain ⟨y, hy, rfl⟩ := List.mem_map.1 h1
      exact ⟨y, hy, by rw [← (htio y).1]; exact h2⟩
    · funext s
      by_cases hs : s = t
      · subst hs
        rw [hat _ rfl]
        simp [lookO]
      · rw [← haway _ m (fun x hx => hx) s hs, hacc]
        simp only [lookO, beq_ff (Ne.symm hs), cond_false]
        rw [lookO_kill, killO_ne (fun e => hs (Option.some.inj e).symm)]
    · rcases List.mem_cons.1 (inB_iff.1 hj) with rfl | hj
      · exact hld
      · exact hfs.done j (inB_iff.2 hj)
    · obtain ⟨x, h1, h2⟩ := hfs.only j hj
      exact ⟨tell x, List.mem_map.2 ⟨x, h1, rfl⟩, by rw [(htio x).1]; exact h2⟩
    · by_cases hs : s = t
      · subst hs
        rw [if_pos rfl, hat _ hld]
      · rw [if_neg hs]; exact haway _ m (fun x hx => hx) s hs
theorem JD_fl {its : List Item} {rest : List Oper} {E : Env} (h : JF P ops Q c N nd [] [] [] [] (ghosts N its ++ liftE E) L) : JD P ops Q c N nd 0 rest E (its ++ L) := fun hg hN hk hrest φ a w listed hp st =>
  h hg hN [] (lookO (ghosts N its ++ liftE E)) ⟨fun x hx => (by cases hx), List.Pairwise.nil, List.Pairwise.nil, fun m1 x m2 hm => (by simp at hm), fun x hx => (by cases hx)⟩ (fun i => ⟨fun hi => absurd (inB_iff.1 hi) (by simp), fun ⟨x, hx, _⟩ => (by cases hx)⟩) rfl φ a w listed
    ⟨hp.cl, fun i hi => absurd (inB_iff.1 hi) (by simp), fun i hi => by
      exfalso
      have hlt : i < listed.size := by
        rcases Nat.lt_or_ge i listed.size with h1 | h1
        · exact h1
        · simp [Nat.not_lt.2 h1] at hi
      have h1 : listed.getD i true = true := by simp [hlt] at hi ⊢; exact hi
      have := (hp.pre i (by rw [← hp.cl.size]; exact hlt)).1 h1
      omega⟩ (SS.startG st)
/-! ### The steps -/
section
variable {i : Nat} {t : Tmp} {op : Op} {ty : TypeId} {pos : String} {af : Array Edge}
theorem LocOp.p {o : Oper} {F : VP} (hgd : o.guard = none) (hs : OpP P c o (vals EO) L F) : LocOp P ops c L o (lookO EO) (.v F) none := fun φ a w K Q M hm ht hl hk => by
  rw [if_pos (by simp [Region.wanted, hgd])]
  obtain rfl : M = [] := ht
  exact hs φ a w K Q hm (evs hm.mem.facts hl) fun φ' v w' hp hf => hk φ' v w' (by rw [res_none]; exact ⟨hp, hf⟩)
theorem LocOp.n {o : Oper} {ι : Type} {val : ι → Value} {I : ι → Item} (hgd : o.guard = none) (hs : OpN P c o (vals EO) L val I) : LocOp P ops c L o (lookO EO) (.own val I) none := fun φ a w K Q M hm ht hl hk => by
  rw [if_pos (by simp [Region.wanted, hgd])]
  obtain rfl : M = [] := ht
  exact hs φ a w K Q hm (evs hm.mem.facts hl) fun i φ' w' hp => hk φ' _ w' ⟨i, res_none _ _ _, hp⟩
def newB1 (nd fr mi : List Nat) (i : Nat) : Bool := newB nd mi i && !inB fr i
theorem newB1_spec (h : newB1 nd fr mi i = true) : newB nd mi i = true ∧ inB fr i = false := by
  unfold newB1 at h
  simp only [Bool.and_eq_true, Bool.not_eq_true'] at h
  exact h
theorem JF_1 {F : VP} (i : Nat) (hi : ops[i]? = some ⟨some t, op, ty, pos, af, none⟩) (hB : newB1 nd fr mi i = true) (hs : OpP P c ⟨some t, op, ty, pos, af, none⟩ (vals EO) L F) (h : JF P ops Q c N nd fr dn ks (i :: mi) ((t, .v F) :: EO) L) : JF P ops Q c N nd fr dn ks mi EO L :=
  JF_add fr hi (newB1_spec hB).1 killOk_none (LocOp.p rfl hs) (.inl ⟨rfl, (newB1_spec hB).2⟩) h
theorem JF_1f {F : VP} (i : Nat) (hi : ops[i]? = some ⟨some t, op, ty, pos, af, none⟩) (hB : newB1 nd fr mi i = true) (hs : ∀ L, OpP P c ⟨some t, op, ty, pos, af, none⟩ (vals EO) L F) (h : JF P ops Q c N nd (i :: fr) dn ks (i :: mi) ((t, .v F) :: EO) L) : JF P ops Q c N nd fr dn ks mi EO L :=
  JF_add (i :: fr) hi (newB1_spec hB).1 killOk_none (LocOp.p rfl (hs L)) (.inr ⟨rfl, fun L' => LocOp.p rfl (hs L')⟩) h
theorem JF_n {ι : Type} {val : ι → Value} {I : ι → Item} (i : Nat) (hi : ops[i]? = some ⟨some t, op, ty, pos, af, none⟩) (hB : newB1 nd fr mi i = true) (hs : OpN P c ⟨some t, op, ty, pos, af, none⟩ (vals EO) L val I) (h : JF P ops Q c N nd fr dn ks (i :: mi) ((t, .own val I) :: EO) L) : JF P ops Q c N nd fr dn ks mi EO L :=
  JF_add fr hi (newB1_spec hB).1 killOk_none (LocOp.n rfl hs) (.inl ⟨rfl, (newB1_spec hB).2⟩) h
/-- A barrier with a result; without one. -/
theorem JF_b {ι : Type} {F : ι → VP} {L' : ι → List Item} (i : Nat) (dn' : List Nat) (hi : ops[i]? = some ⟨some t, op, ty, pos, af, none⟩) (hB : barB ops nd fr dn dn' mi i = true) (hs : ∀ c' : Ctx, OpS P c' ⟨some t, op, ty, pos, af, none⟩ (vals EO) L F L')
    (h : ∀ z, JF P ops Q c N nd fr dn' ks (i :: mi) ((t, .v (F z)) :: EO) (L' z)) : JF P ops Q c N nd fr dn ks mi EO L := JF_bar dn' hi rfl hB hs h
theorem JF_b0 {F : Unit → VP} {L' : Unit → List Item} (i : Nat) (dn' : List Nat) (hi : ops[i]? = some ⟨none, op, ty, pos, af, none⟩) (hB : barB ops nd fr dn dn' mi i = true) (hs : ∀ c' : Ctx, OpS P c' ⟨none, op, ty, pos, af, none⟩ (vals EO) L F L')
    (h : JF P ops Q c N nd fr dn' ks (i :: mi) EO (L' ())) : JF P ops Q c N nd fr dn ks mi EO L := JF_bar dn' hi rfl hB hs fun _ => h
theorem JF_g {s : Tmp} {it it' : Item} {F : Unit → VP} (i : Nat) (hi : ops[i]? = some ⟨none, op, ty, pos, af, none⟩) (hB : newB1 nd fr mi i = true) (hl : lookO EO s = some (.own (fun _ : Unit => undef) (fun _ => it))) (hK : (killB ops nd i s && storeB ops nd i ⟨none, op, ty, pos, af, none⟩ s) = true)
    (hs : ∀ c' : Ctx, OpS P c' ⟨none, op, ty, pos, af, none⟩ (vals EO) [it] F (fun _ => [it'])) (h : JF P ops Q c N nd fr dn (s :: ks) (i :: mi) ((s, .own (fun _ : Unit => undef) (fun _ => it')) :: killE EO (some s)) L) : JF P ops Q c N nd fr dn ks mi EO L := by
  simp only [Bool.and_eq_true] at hK
  refine JF_add fr hi (newB1_spec hB).1 (F := .own (fun _ : Unit => undef) (fun _ => it')) (kl := some s) (fun s' hs' => ?_) (fun φ a w K Q M hm ht hlk hk => ?_) (.inl ⟨rfl, (newB1_spec hB).2⟩) h
  · injection hs' with hs'
    subst hs'
    exact ⟨⟨.inr rfl, _, _, _, hl⟩, fun j x h1 h2 h3 => h2.elim (fun h2 => killB_spec hK.1 j x h1 h2 h3) (fun h2 => storeB_spec hK.2 h2.1 j x h1 h2.2.2 h3)⟩
  · rw [if_pos (by simp [Region.wanted])]
    obtain ⟨_, κ', val0, I0, i, h1, h2, rfl⟩ := ht
    rw [hl] at h1
    injection h1 with h1
    cases h1
    have he := evs (fun it hi => hm.mem.facts it (List.mem_cons_of_mem _ hi)) hlk
    have hm1 : HP ⟨w, φ, names [it], []⟩ φ [it] w := HP.start ⟨hm.mem.base, fun x hx => by rw [List.mem_singleton] at hx; subst hx; exact hm.mem.items _ (List.mem_cons_self ..), List.pairwise_singleton _ _⟩
    refine hs ⟨w, φ, names [it], []⟩ φ a w K Q hm1 (fun x hx B hB => ?_) fun _ φ' v w' _ _ hm' => hk φ' v w' ⟨(), by rw [res_kl rfl]; exact h2, hm'⟩
    obtain ⟨D, h1, h2⟩ := hB
    exact h2 _ _ hm1.mem.facts (he x hx D (.rfl' h1))
end
end
end
end Go.Proofs.YtfkmbdpnjcgimaaGreat

/- Memory of one's own of which only the size is known; a row of such; what is one's own stays, in a call that got own memory; parts of own rows copied. Own work. -/
namespace Go.Proofs.YtfkmbdpnjcgimaaGreat
open Go.RowKit
set_option linter.unusedVariables false
set_option linter.unusedSimpArgs false
/-! ### What is one's own stays, in a call that got own memory -/
section
variable {P : Program} {c : Ctx} {L : List Item} {α : Type} {T : Ty α} {xs : List α}
/-- The blocks that the call got are still named by the other things. -/
theorem HP.freezeX {φ : Fz} {w : World} {v : Value} {e : TypeId} {L' : List Item} (hX : ∀ b, b ∈ c.X → b ∈ names L') (hm : HP c φ L w) (hr : Repl L (buf v e T xs) (fact v (IsSl T xs)) L') : ∃ φ', Fle φ φ' ∧ HP c φ' L' w := by
  have hit := hm.mem.items _ hr.mem
  obtain ⟨flat, f1, f2, f3⟩ := buf_owns hit
  rcases f3.2 with ⟨rfl, h0⟩ | ⟨gg, cap, cur, rfl, _, e1, e2, e3, e4, e5⟩
  · have hxs : xs = [] := List.eq_nil_of_length_eq_zero h0
    subst hxs
    refine ⟨φ, Fle.rfl', hm.upd hr (Kpt.refl _ _) ⟨?_, fun b (hb : none = some b) => (nomatch hb)⟩ fun b (hb : none = some b) => (nomatch hb)⟩
    exact ⟨none, 0, 0, rfl, rfl, Nat.le_refl _, Nat.zero_le _, .inl rfl⟩
  · have hown : ∀ i, φ gg i = none := fun i => (hit.2 gg rfl).2 i
    let φ' : Fz := fun b i => if b = gg then flat[i]? else φ b i
    have hsame : ∀ i, φ' gg i = flat[i]? := fun i => if_pos rfl
    have hoth : ∀ b i, b ≠ gg → φ' b i = φ b i := fun b i h => if_neg h
    have hle : Fle φ φ' := fun b i u hu => by
      rw [hoth b i (fun e => by subst e; rw [hown i] at hu; cases hu)]; exact hu
    have hg0 : c.w.heap.size ≤ gg := (hm.mine gg (mem_names.2 ⟨_, hr.mem, rfl⟩)).resolve_right fun hx => by
      obtain ⟨x, hx1, hx2⟩ := mem_names.1 (hX gg hx)
      rcases hr.mem' hx1 with rfl | ⟨hx', hap⟩
      · cases hx2
      · exact (hap hm.mem.sep).1 gg hx2 rfl
    have hfl : flat.length = xs.length * T.size := f3.1
    refine ⟨φ', hle, ⟨⟨fun b i u hu => ?_, fun x hx => ?_, hr.sep hm.mem.sep fun x hx _ _ => ⟨fun b _ (hb : none = some b) => (nomatch hb), fun b (hb : none = some b) => (nomatch hb)⟩⟩, hm.kept, fun b hb => ?_, fun b i hb => ?_⟩⟩
    · by_cases hbg : b = gg
      · subst hbg
        rw [hsame] at hu
        rw [cell_of_row w b i cur e _ e1]
        rw [← e5] at hu
        have hi : i < xs.length * T.size := by
          have := (List.getElem?_eq_some_iff.1 hu).1
          rw [List.length_take] at this; omega
        rw [List.getElem?_take_of_lt hi, Array.getElem?_toList] at hu
        exact hu
      · rw [hoth b i hbg] at hu
        exact hm.mem.base b i u hu
    · rcases hr.mem' hx with rfl | ⟨hx', hap⟩
      · refine ⟨⟨_, _, _, rfl, rfl, e2, e3, .inr ⟨gg, 0, rfl, fun k x hk j B hB => ?_⟩⟩, fun b (hb : none = some b) => (nomatch hb)⟩
        obtain ⟨u, h1, h2⟩ := flat_at (flat := flat) f1 hk hB
        refine ⟨u, ?_, B.mono hle h2, f2 u (List.mem_of_getElem? h1)⟩
        rw [hsame, Nat.zero_add]; exact h1
      · obtain ⟨h1, h2⟩ := hm.mem.items x hx'
        refine ⟨x.mono hle h1, fun b hb => ⟨(h2 b hb).1, fun i => ?_⟩⟩
        rw [hoth b i (fun e => (hap hm.mem.sep).1 b hb (by rw [e]; rfl))]
        exact (h2 b hb).2 i
    · obtain ⟨x, hx, hxb⟩ := mem_names.1 hb
      rcases hr.mem' hx with rfl | ⟨hx', _⟩
      · cases hxb
      · exact hm.mine b (mem_names.2 ⟨x, hx', hxb⟩)
    · rw [hoth b i (by omega)]
      exact hm.old b i hb
variable {Q : Exit → Act → World → Prop} {N : Nat} {ops : Array Oper} {rest : List Oper} {E : Env}
theorem JC_freezeX {x : Code} {v : Value} {e : TypeId} {L' : List Item} (hr : Repl L (buf v e T xs) (fact v (IsSl T xs)) L') (hX : ∀ b, b ∈ c.X → b ∈ names L') (h : JC P c N x E L' Q) : JC P c N x E L Q := fun φ a w st =>
  let ⟨φ', h1, h2⟩ := HP.freezeX hX st.mem hr
  h φ' a w ⟨st.defers, st.size, fun t B hB => B.mono h1 (st.env t B hB), h2⟩
end
/-! ### Memory of which only the size is known -/
section
variable {c : Ctx} {L L' : List Item} {α : Type} {T : Ty α}
variable {P : Program} {Q : Exit → Act → World → Prop} {N : Nat} {ops : Array Oper} {rest : List Oper} {E : Env}
/-! ### A row of such things -/
variable {β : Type} {f : β → Item}
theorem SubP.skip {M L : List Item} (x : Item) (h : SubP M L) : SubP M (x :: L) := by
  induction h with
  | nil L => exact SubP.nil _
  | cons hd _ ih => exact SubP.cons (Drop1.next _ hd) ih
end
end Go.Proofs.YtfkmbdpnjcgimaaGreat

/- Rows of words of one's own of which only the length is known, wherever they lie; calls that get a part of what is one's own. Own work. -/
namespace Go.Proofs.YtfkmbdpnjcgimaaGreat
open Go.RowKit
set_option linter.unusedVariables false
set_option linter.unusedSimpArgs false
/-! ### Lists -/
inductive Drops : List Item → List Item → List Item → Prop
  | nil (L : List Item) : Drops L [] L
  | cons {it : Item} {L L1 L2 M : List Item} (h : Drop1 L it L1) (h2 : Drops L1 M L2) : Drops L (it :: M) L2
theorem Drops.sub {L M L2 : List Item} (h : Drops L M L2) : SubP (M ++ L2) L := by
  induction h with
  | nil L => exact SubP.refl' _
  | cons h _ ih => exact SubP.cons h ih
theorem drop1A {L L' : List Item} {it : Item} (h : Drop1 L it L' := by repeat (first | assumption | exact Drop1.here _ _ | apply Drop1.next)) : Drop1 L it L' := h
section
variable {P : Program} {c : Ctx} {A : Nat → Option VP} {L : List Item} {d : Option Tmp} {ty : TypeId} {pos : String} {af : Array Edge} {g : Option (Nat × Bool)}
/-- A call that gets a part of what is one's own. -/
theorem op_callM {f : FuncId} {xs : List Operand} {ts : Array TypeId} {As : List VP} {M L1 : List Item} {ι : Type} {R : ι → VP} {L' : ι → List Item} (hd : Drops L M L1) (hc : ∀ (args : Array Value) (w : World), (callFunc f args).run P w = .ok (.enter f args) w)
    (hF : Fn P f As M R L') (ha : ArgsE A L xs As) : OpS P c ⟨d, .call { callee := .value (.func f), args := xs.toArray, argTypes := ts }, ty, pos, af, g⟩ A L R (fun i => L' i ++ L1) := by
  intro φ a w K Q hm he hk
  have hv := ha.alls (φ := φ) (a := a) fun x hx => he x (by simp [Op.operands, Call.operands, hx])
  have hm' : HP c φ (M ++ L1) w := hm.lessP hd.sub
  unfold Oper.wp
  rw [run_enter hc]
  refine (hF φ w _ hv hm'.mem.left).mono ?_
  rintro e w' ⟨i, v, φ', rfl, h1, h2⟩
  exact hk i φ' v w' (h2.fle hm.mem.base) h1 (hm'.call h2)
/-- Less may be told of what an operation leaves. -/
theorem OpP.sub {o : Oper} {F F' : VP} (h : OpP P c o A L F) (hs : ∀ φ v, F.ok φ v → F'.ok φ v) : OpP P c o A L F' :=
  fun φ a w K Q hm he hk => h φ a w K Q hm he fun φ' v w' h1 h2 => hk φ' v w' h1 (hs _ _ h2)
end
/-! ### Words of which nothing is known -/
section
variable {P : Program} {c : Ctx} {A : Nat → Option VP} {L : List Item} {d : Option Tmp} {ty : TypeId} {pos : String} {af : Array Edge} {g : Option (Nat × Bool)} {e : TypeId} {m : Nat} {a : Option Addr × Nat} {x y : Operand} {t : TypeId}
section
variable {α : Type} {T : Ty α} {xs : List α} {n : Nat} {i : Option Addr × Nat}
end
end
/-! ### What is one's own stays, between the operations of a region -/
section
variable {P : Program} {c : Ctx} {N : Nat} {E : Env} {L : List Item} {Q : Exit → Act → World → Prop} {ops : Array Oper} {rest : List Oper} {α : Type} {T : Ty α} {xs : List α}
end
/-! ### One of many, in one cell -/
section
variable {P : Program} {c : Ctx} {N : Nat} {E : Env} {L : List Item} {Q : Exit → Act → World → Prop}
end
end Go.Proofs.YtfkmbdpnjcgimaaGreat

/- Contracts: operations of package epoch, the nodes and lines that they need. Own work. -/
namespace Go.Proofs.YtfkmbdpnjcgimaaGreat
open Go.RowKit
set_option linter.unusedVariables false
set_option linter.unusedSimpArgs false
set_option maxRecDepth 100000
abbrev WA := Option Addr × Nat
/-- An operation. -/
structure Eop where
  kind : Int
  client : Int
  inc : Int
  lines : Int
  for_ : Int
  list : List Pt
def tEop : Ty Eop := ⟨6, fun o => [Is (.int .i64 o.kind), Is (.int .i64 o.client), Is (.int .i64 o.inc), Is (.int .i64 o.lines), Is (.int .i64 o.for_), IsSl tPt o.list], fun _ => rfl⟩
@[reducible] def IsEop (o : Eop) : VP := IsAgg (tEop.cells o)
def six : List Int := [0, 1, 2, 3, 4, 5]
def nodesV (o : Eop) : List Int := if o.kind = 6 ∨ o.kind = 5 then [o.for_] else if o.kind = 3 then six else [o.client]
def hasE (o : Eop) : Bool := o.kind != 2 && o.kind != 6
def linV (o : Eop) : List Int := (if hasE o = true then [97] else []) ++ (nodesV o).map (fun c => 98 + c)
-- epoch.isClient: function 70
theorem isClientE_ok (c : Int) : FnP Tryz.prog 70 [Is (.int .i64 c)] (Is (.bool (clientB c))) := by
  refine FnP.enter Tryz.func70 Tryz.ntmps70 rfl rfl ?_
  intro c hX
  refine JC_seq (JC_region (JL_1 rfl (op_assign rfl) (JL_nil ?_)))
  refine JQ_then (JC_seq ?_)
  refine JC_region (JL_1 rfl (op_move rfl) (JL_1 rfl (op_geq (Ev.rfl' rfl) (Ev.rfl' rfl)) (JL_1 rfl (op_move rfl) ?_)))
  (refine JL_i0 rfl rfl rfl (fun hg => (by have hg0 := hg; (try simp at hg); exact op_moveE (Ev.rfl' rfl))) ?_)
  (refine JL_i0 rfl rfl rfl (fun hg => (by have hg0 := hg; (try simp at hg); exact op_lss evG evG)) ?_)
  refine JL_1 rfl (op_and (Ev.rfl' rfl) rfl (fun h => by exact SubL.iteT (by (rw [h]; rfl)) SubL.rfl')) ?_
  refine JL_1 rfl (op_assign rfl) (JL_nil ?_)
  refine JQ_then (JC_ret ?_)
  refine JQ_ret1 Tryz.results70 rfl () (SubL.eq ?_) (List.nil_sublist _)
  rfl
theorem six_take {k : Nat} (h : k < 6) : six.take (k + 1) = six.take k ++ [(k : Int)] := by
  match k, h with
  | 0, _ | 1, _ | 2, _ | 3, _ | 4, _ | 5, _ => rfl
-- (epoch.Op).nodes: function 75
set_option maxHeartbeats 1000000 in
theorem nodes_ok (o : Eop) : FnP Tryz.prog 75 [IsEop o] (IsSl tI64 (nodesV o)) := by
  refine FnP.enter Tryz.func75 Tryz.ntmps75 rfl rfl ?_
  intro c hX
  refine JC_seq (JC_region ?_)
  (refine JL_n rfl (op_box (Ev.rfl' rfl) cellsT) ?_; intro i1)
  refine JL_1 rfl (op_assign rfl) (JL_nil ?_)
  refine JQ_then (JC_seq (JC_seq ?_))
  refine JC_region (JL_1 rfl (by exact op_fieldPtr (k := 0) (Ev.rfl' rfl) rfl rfl rfl rfl) ?_)
  refine JL_1 rfl (by exact op_loadPtr (Ev.rfl' rfl) memT (by rfl) (by rfl) (by rfl)) ?_
  refine JL_nil ?_
  refine JQ_then (JC_block (JC_seq (JC_seq ?_)))
  refine JC_region (JL_1 rfl (op_eql (Ev.rfl' rfl) (Ev.rfl' rfl)) (JL_1 rfl (op_assign rfl) (JL_nil (JQ_then (JC_cutT (fun _ : Unit => True) (fun _ => [(1, Is (.pointer (some ⟨i1, 0, none⟩))), (6, Is (.int .i64 o.kind)), (7, Is (.bool (o.kind == 6 || o.kind == 5)))]) (fun _ => [blk i1 85 (tEop.cells o)]) ?_ ?_)))))
  rotate_left
  focus
    refine JC_cond (Ev.rfl' rfl) (fun h2 => ?_) (fun h2 => ?_)
    · have g : o.kind = 6 := by simpa using h2
      refine JC_skip ?_
      exact JQ_meetP () trivial (by rw [show (o.kind == 6 || o.kind == 5) = true by simp [g]]; rw [h2]; exact esubT) lessT
    have g : ¬ o.kind = 6 := by simpa using h2
    refine JC_region (JL_1 rfl (op_eql (Ev.rfl' rfl) (Ev.rfl' rfl)) (JL_1 rfl (op_assign rfl) (JL_nil ?_)))
    exact JQ_meetP () trivial (by rw [show (o.kind == 6 || o.kind == 5) = (o.kind == 5) by simp [g]]; exact esubT) lessT
  rintro _ _
  refine JC_cond (Ev.rfl' rfl) (fun h2b => ?_) (fun h2b => ?_)
  · have g : o.kind = 6 ∨ o.kind = 5 := by simpa using h2b
    have e : nodesV o = [o.for_] := by unfold nodesV; rw [if_pos g]
    rw [e]
    refine JC_seq (JC_region (JL_1 rfl (by exact op_fieldPtr (k := 4) (Ev.rfl' rfl) rfl rfl rfl rfl) ?_))
    refine JL_1 rfl (by exact op_loadPtr (Ev.rfl' rfl) memT (by rfl) (by rfl) (by rfl)) ?_
    refine JL_1 rfl (op_buildSlice (size := 1) (qs := [(0, _)]) rfl rfl rfl ⟨⟨rfl, _, (Ev.rfl' rfl), cellsT⟩, trivial⟩ (by rfl) (by rfl)) ?_
    refine JL_1 rfl (op_assign rfl) (JL_nil ?_)
    refine JQ_then (JC_ret (JQ_block_ret (JQ_then_ret ?_)))
    exact JQ_ret1 Tryz.results75 rfl () (SubL.row (xs := [o.for_]) (by rfl) (by rfl) subsT) (List.nil_sublist _)
  have g : ¬ (o.kind = 6 ∨ o.kind = 5) := by simpa using h2b
  refine JC_seq (JC_region (JL_1 rfl (op_eql (Ev.rfl' rfl) (Ev.rfl' rfl)) (JL_1 rfl (op_assign rfl) (JL_nil (JQ_then ?_)))))
  refine JC_cond (Ev.rfl' rfl) (fun h5 => ?_) (fun h5 => ?_)
  · have g5 : o.kind = 3 := by simpa using h5
    have e : nodesV o = six := by unfold nodesV; rw [if_neg g, if_pos g5]
    rw [e]
    refine JC_seq (JC_region (JL_1 rfl (op_assign rfl) (JL_nil ?_)))
    refine JQ_then (JC_seq (JC_seq ?_))
    refine JC_buf0 3 tI64 (JC_region (JL_1 rfl (op_move rfl) (JL_nil ?_)))
    refine JQ_then (JC_block ?_)
    refine JC_loopP (fun z : Nat × WA => z.1 ≤ 6) (fun z => [(1, Is (.pointer (some ⟨i1, 0, none⟩))), (3, Is (slV (six.take z.1).length z.2)), (15, Is (.int .i64 (z.1 : Nat)))]) (fun z => [buf (slV (six.take z.1).length z.2) 3 tI64 (six.take z.1)]) (fun z => 6 - z.1) (0, (none, 0)) (by decide) esubT lessT ?_
    rintro ⟨k, a⟩ hk
    dsimp only at hk ⊢
    have hkl : (six.take k).length = k := by rw [List.length_take]; show min k 6 = k; omega
    refine JC_seq (JC_region (JL_1 rfl (op_lss (Ev.rfl' rfl) (Ev.rfl' rfl)) (JL_nil ?_)))
    refine JQ_then (JC_seq ?_)
    refine JC_cond (Ev.rfl' rfl) (fun h8 => ?_) (fun h8 => ?_)
    · have hk6 : k < 6 := by have := of_decide_eq_true h8; omega
      clear h8
      refine JC_skip (JQ_then (JC_seq (JC_block (JC_seq ?_))))
      refine JC_region (JL_1 rfl (op_move rfl) (JL_1 rfl (op_assign rfl) (JL_nil (JQ_then (JC_region (JL_1 rfl (op_move rfl) (JL_1 rfl (op_move rfl) (JL_1 rfl (op_buildSlice (size := 1) (qs := [(0, _)]) rfl rfl rfl ⟨⟨rfl, _, (Ev.rfl' rfl), cellsT⟩, trivial⟩ (by rfl) (by rfl)) ?_))))))))
      (refine JL_s rfl (op_app (Ev.rfl' rfl) (fun _ => replT) (by exact Ev.sub rfl (by exact SubL.row (xs := [(k : Int)]) (by rfl) (by rfl) subsT)) (by exact appT rfl rfl rfl) lenT) ?_; intro i21)
      refine JL_1 rfl (op_assign rfl) (JL_nil ?_)
      refine JQ_block (JQ_then ?_)
      refine JC_region (JL_1 rfl (op_add (Ev.rfl' rfl) (Ev.rfl' rfl) wrapT) ?_)
      refine JL_1 rfl (op_move rfl) (JL_nil ?_)
      rw [← six_take hk6]
      exact JQ_roundP (k + 1, i21) (by dsimp only; omega) (by dsimp only; omega) esubT lessT
    have hke : k = 6 := by have := of_decide_eq_false h8; omega
    clear h8
    subst hke
    refine JC_freeze hX (v := slV (six.take 6).length a) (T := tI64) (xs := six) replT ?_
    refine JC_set 3 (IsSl tI64 six) rfl (SubL.fact memT) ?_
    refine JC_exit (JQ_then_exit (JQ_then_exit (JQ_hit (JQ_then (JC_seq ?_)))))
    refine JC_region (JL_1 rfl (op_move rfl) (JL_1 rfl (op_assign rfl) (JL_nil ?_)))
    refine JQ_then (JC_ret (JQ_block_ret (JQ_then_ret ?_)))
    refine JQ_ret1 Tryz.results75 rfl () (SubL.eq ?_) (List.nil_sublist _)
    rfl
  have g5 : ¬ o.kind = 3 := by simpa using h5
  have e : nodesV o = [o.client] := by unfold nodesV; rw [if_neg g, if_neg g5]
  rw [e]
  refine JC_skip (JQ_block (JQ_then (JC_seq ?_)))
  refine JC_region (JL_1 rfl (by exact op_fieldPtr (k := 1) (Ev.rfl' rfl) rfl rfl rfl rfl) ?_)
  refine JL_1 rfl (by exact op_loadPtr (Ev.rfl' rfl) memT (by rfl) (by rfl) (by rfl)) ?_
  refine JL_1 rfl (op_buildSlice (size := 1) (qs := [(0, _)]) rfl rfl rfl ⟨⟨rfl, _, (Ev.rfl' rfl), cellsT⟩, trivial⟩ (by rfl) (by rfl)) ?_
  refine JL_1 rfl (op_assign rfl) (JL_nil ?_)
  refine JQ_then (JC_ret ?_)
  exact JQ_ret1 Tryz.results75 rfl () (SubL.row (xs := [o.client]) (by rfl) (by rfl) subsT) (List.nil_sublist _)
-- (epoch.Op).lines: function 72
set_option maxHeartbeats 1000000 in
theorem lines_ok (o : Eop) (hr : ∀ c, c ∈ nodesV o → 0 ≤ c ∧ c < 6) : FnP Tryz.prog 72 [IsEop o] (IsSl tI64 (linV o)) := by
  obtain ⟨P, hP⟩ : ∃ P : List Int, P = if hasE o = true then [97] else [] := ⟨_, rfl⟩
  have hlin : linV o = P ++ (nodesV o).map (fun c => 98 + c) := by unfold linV; rw [hP]
  have hPl : P.length ≤ 1 := by rw [hP]; split <;> simp
  have hnl : (nodesV o).length ≤ 6 := by
    unfold nodesV
    split
    · simp
    · split
      · decide
      · simp
  rw [hlin]
  refine FnP.enter Tryz.func72 Tryz.ntmps72 rfl rfl ?_
  intro c hX
  refine JC_seq (JC_region ?_)
  (refine JL_n rfl (op_box (Ev.rfl' rfl) cellsT) ?_; intro i1)
  refine JL_1 rfl (op_assign rfl) (JL_nil ?_)
  refine JQ_then (JC_seq ?_)
  refine JC_region (JL_1 rfl (op_assign rfl) (JL_nil ?_))
  refine JQ_then (JC_seq (JC_seq ?_))
  refine JC_buf0 3 tI64 (JC_region (JL_1 rfl (by exact op_fieldPtr (k := 0) (Ev.rfl' rfl) rfl rfl rfl rfl) ?_))
  refine JL_1 rfl (by exact op_loadPtr (Ev.rfl' rfl) memT (by rfl) (by rfl) (by rfl)) ?_
  refine JL_1 rfl (op_neq (Ev.rfl' rfl) (Ev.rfl' rfl)) (JL_1 rfl (op_move rfl) ?_)
  (refine JL_i0 rfl rfl rfl (fun hg => (by have hg0 := hg; (try simp at hg); exact op_fieldPtr (k := 0) evG rfl rfl rfl rfl)) ?_)
  (refine JL_i0 rfl rfl rfl (fun hg => (by have hg0 := hg; (try simp at hg); exact op_loadPtr evG memT (by rfl) (by rfl) (by rfl))) ?_)
  (refine JL_i0 rfl rfl rfl (fun hg => (by have hg0 := hg; (try simp at hg); exact op_neq evG evG)) ?_)
  refine JL_1 rfl (op_and (Ev.rfl' rfl) rfl (fun h => by exact SubL.iteT (by (rw [h]; rfl)) SubL.rfl')) ?_
  refine JL_nil (JQ_then (JC_cutT (fun _ : WA => True) (fun a => [(1, Is (.pointer (some ⟨i1, 0, none⟩))), (3, Is (slV P.length a))]) (fun a => [blk i1 85 (tEop.cells o), buf (slV P.length a) 3 tI64 P]) ?_ ?_))
  rotate_left
  focus
    refine JC_cond (Ev.rfl' rfl) (fun h2 => ?_) (fun h2 => ?_)
    · have e : P = [97] := by rw [hP, if_pos]; unfold hasE; simpa using h2
      rw [e]
      refine JC_region (JL_1 rfl (op_move rfl) (JL_1 rfl (op_buildSlice (size := 1) (qs := [(0, _)]) rfl rfl rfl ⟨⟨rfl, _, (Ev.rfl' rfl), cellsT⟩, trivial⟩ (by rfl) (by rfl)) ?_))
      (refine JL_s rfl (op_app (Ev.rfl' rfl) (fun _ => replT) (by exact Ev.sub rfl (by exact SubL.row (xs := [(97 : Int)]) (by rfl) (by rfl) subsT)) (by exact appT rfl rfl rfl) lenT) ?_; intro i16)
      refine JL_1 rfl (op_assign rfl) (JL_nil ?_)
      exact JQ_meetP i16 trivial esubT lessT
    have e : P = [] := by rw [hP, if_neg]; unfold hasE; rw [h2]; simp
    rw [e]
    refine JC_skip ?_
    exact JQ_meetP (none, 0) trivial esubT lessT
  rintro a _
  refine JC_seq (JC_seq ?_)
  refine JC_region (JL_1 rfl (by exact op_loadPtrsN (n := 6) (Ev.rfl' rfl) memT (by rfl) (by rfl) (by rfl) (by rfl) nrmT) ?_)
  refine JL_1 rfl (op_call Tryz.call75 (nodes_ok _) ⟨evS, trivial⟩) ?_
  refine JL_1 rfl (by exact op_len (Ev.rfl' rfl) rfl) ?_
  refine JL_1 rfl (op_move rfl) (JL_nil ?_)
  refine JQ_then (JC_block ?_)
  refine JC_loopP (fun z : Nat × WA => z.1 ≤ (nodesV o).length) (fun z => [(3, Is (slV (P ++ ((nodesV o).map (fun c => 98 + c)).take z.1).length z.2)), (18, IsSl tI64 (nodesV o)), (19, Is (.int .i64 ((nodesV o).length : Nat))), (20, Is (.int .i64 (z.1 : Nat)))]) (fun z => [buf (slV (P ++ ((nodesV o).map (fun c => 98 + c)).take z.1).length z.2) 3 tI64 (P ++ ((nodesV o).map (fun c => 98 + c)).take z.1)]) (fun z => (nodesV o).length - z.1) (0, a) (Nat.zero_le _) (by rw [List.take_zero, List.append_nil]; exact esubT) (by rw [List.take_zero, List.append_nil]; exact lessT) ?_
  rintro ⟨k, a2⟩ hk
  dsimp only at hk ⊢
  have hkl : (P ++ ((nodesV o).map (fun c => 98 + c)).take k).length ≤ 7 := by rw [List.length_append, List.length_take]; omega
  refine JC_seq (JC_region (JL_1 rfl (op_lss (Ev.rfl' rfl) (Ev.rfl' rfl)) (JL_nil ?_)))
  refine JQ_then (JC_seq ?_)
  refine JC_cond (Ev.rfl' rfl) (fun h5 => ?_) (fun h5 => ?_)
  · have hlt : k < (nodesV o).length := by have := of_decide_eq_true h5; omega
    clear h5
    obtain ⟨x, hx⟩ : ∃ x, (nodesV o)[k]? = some x := ⟨_, List.getElem?_eq_getElem hlt⟩
    have hxr := hr x (List.mem_of_getElem? hx)
    have hstep : P ++ ((nodesV o).map (fun c => 98 + c)).take (k + 1) = (P ++ ((nodesV o).map (fun c => 98 + c)).take k) ++ [98 + x] := by
      rw [List.take_add_one, List.getElem?_map, hx, List.append_assoc]; rfl
    refine JC_skip (JQ_then (JC_seq (JC_block (JC_seq ?_))))
    refine JC_region (JL_1 rfl (by exact op_index (j := k) (Ev.rfl' rfl) (Ev.rfl' rfl) rfl rfl (by rfl) hx) ?_)
    refine JL_1 rfl (by exact op_loadRef (Ev.rfl' rfl) rfl rfl rfl) ?_
    refine JL_1 rfl (op_assign rfl) (JL_nil (JQ_then (JC_region (JL_1 rfl (op_move rfl) (JL_1 rfl (op_move rfl) (JL_1 rfl (op_add (Ev.rfl' rfl) (Ev.rfl' rfl) wrapT) ?_))))))
    refine JL_1 rfl (op_buildSlice (size := 1) (qs := [(0, _)]) rfl rfl rfl ⟨⟨rfl, _, (Ev.rfl' rfl), cellsT⟩, trivial⟩ (by rfl) (by rfl)) ?_
    (refine JL_s rfl (op_app (Ev.rfl' rfl) (fun _ => replT) (by exact Ev.sub rfl (by exact SubL.row (xs := [(98 + x)]) (by rfl) (by rfl) subsT)) (by exact appT rfl rfl rfl) lenT) ?_; intro i28)
    refine JL_1 rfl (op_assign rfl) (JL_nil ?_)
    refine JQ_block (JQ_then ?_)
    refine JC_region (JL_1 rfl (op_add (Ev.rfl' rfl) (Ev.rfl' rfl) wrapT) ?_)
    refine JL_1 rfl (op_move rfl) (JL_nil ?_)
    rw [← hstep]
    exact JQ_roundP (k + 1, i28) (by dsimp only; omega) (by dsimp only; omega) esubT lessT
  have hke : k = (nodesV o).length := by have := of_decide_eq_false h5; omega
  clear h5
  subst hke
  rw [List.take_of_length_le (by rw [List.length_map]; exact Nat.le_refl _)]
  refine JC_freeze hX (v := slV (P ++ (nodesV o).map (fun c => 98 + c)).length a2) (T := tI64) replT ?_
  refine JC_set 3 (IsSl tI64 (P ++ (nodesV o).map (fun c => 98 + c))) rfl (SubL.fact memT) ?_
  refine JC_exit (JQ_then_exit (JQ_then_exit (JQ_hit (JQ_then (JC_seq ?_)))))
  refine JC_region (JL_1 rfl (op_move rfl) (JL_1 rfl (op_assign rfl) (JL_nil ?_)))
  refine JQ_then (JC_ret ?_)
  refine JQ_ret1 Tryz.results72 rfl () (SubL.eq ?_) (List.nil_sublist _)
  rfl
end Go.Proofs.YtfkmbdpnjcgimaaGreat

/- Contracts: the epoch page, what is safe, lists of pointers. Own work. -/
namespace Go.Proofs.YtfkmbdpnjcgimaaGreat
open Go.RowKit
set_option linter.unusedVariables false
set_option linter.unusedSimpArgs false
set_option maxRecDepth 100000
def safeV (g r : BitVec 32) : Bool := decide (UV g ≥ UV r + 2)
-- epoch.Safe: function 10
theorem Safe_ok (g r : BitVec 32) : FnP Tryz.prog 10 [Is (.int .u32 (UV g)), Is (.int .u32 (UV r))] (Is (.bool (safeV g r))) := by
  have h1 := UV_lt g
  have h2 := UV_lt r
  have h3 := UV_nonneg g
  have h4 := UV_nonneg r
  refine FnP.enter Tryz.func10 Tryz.ntmps10 rfl rfl ?_
  intro c hX
  refine JC_seq (JC_region (JL_1 rfl (op_assign rfl) (JL_nil ?_)))
  refine JQ_then (JC_seq ?_)
  refine JC_region (JL_1 rfl (op_move rfl) (JL_1 rfl (op_conv (Ev.rfl' rfl) rfl rfl convT) ?_))
  refine JL_1 rfl (op_move rfl) (JL_1 rfl (op_conv (Ev.rfl' rfl) rfl rfl convT) ?_)
  refine JL_1 rfl (op_add (Ev.rfl' rfl) (Ev.rfl' rfl) wrapT) ?_
  refine JL_1 rfl (op_geq (Ev.rfl' rfl) (Ev.rfl' rfl)) (JL_1 rfl (op_assign rfl) (JL_nil ?_))
  refine JQ_then (JC_ret ?_)
  refine JQ_ret1 Tryz.results10 rfl () (SubL.eq ?_) (List.nil_sublist _)
  unfold safeV; rw [UV_set32, UV_set32, show IntKind.u64.wrap (UV r + 2) = UV r + 2 from wU64 ⟨by omega, by omega⟩]
def qE (p : Pg) : Pg := { Pg.nil with d0 := p.d0 }
theorem data_z (p : Pg) : dataB p (qE p) = zE p := by
  unfold dataB zE qE Pg.nil
  simp only [beq_self_eq_true, Bool.true_and]
  simp only [BEq.beq]
-- epoch.ReadEpoch: function 73
set_option maxHeartbeats 1000000 in
theorem ReadEpoch_ok (p : Pg) : FnP Tryz.prog 73 [IsPg p] (IsTup [Is (.int .u32 (UV (readE p).1)), Is (.int .i64 (readE p).2)]) := by
  refine FnP.enter Tryz.func73 Tryz.ntmps73 rfl rfl ?_
  intro c hX
  refine JC_seq (JC_region ?_)
  (refine JL_n rfl (op_box (Ev.rfl' rfl) cellsT) ?_; intro i1)
  refine JL_1 rfl (op_assign rfl) (JL_1 rfl (op_assign rfl) (JL_nil ?_))
  refine JQ_then (JC_seq (JC_seq ?_))
  refine JC_region (JL_1 rfl (by exact op_fieldPtr (k := 0) (Ev.rfl' rfl) rfl rfl rfl rfl) ?_)
  refine JL_1 rfl (by exact op_loadPtr (Ev.rfl' rfl) memT (by rfl) (by rfl) (by rfl)) ?_
  refine JL_1 rfl (op_neq (Ev.rfl' rfl) (Ev.rfl' rfl)) (JL_nil (JQ_then ?_))
  refine JC_cond (Ev.rfl' rfl) (fun h1 => ?_) (fun h1 => ?_)
  · have g : ¬ p.l = 97 := by simpa using h1
    have e : readE p = (0#32, 1) := by unfold readE; rw [if_neg g]
    rw [e]
    refine JC_seq (JC_region (JL_1 rfl (op_assign rfl) (JL_1 rfl (op_assign rfl) (JL_nil ?_))))
    refine JQ_then (JC_ret (JQ_then_ret ?_))
    refine JQ_ret (Bs := [_, _]) Tryz.results73 ⟨⟨_, rfl, subT⟩, ⟨⟨_, rfl, subT⟩, trivial⟩⟩ () ?_ (List.nil_sublist _)
    exact SubL.rfl'
  have g : p.l = 97 := by simpa using h1
  refine JC_skip (JQ_then (JC_seq (JC_seq ?_)))
  refine JC_region (JL_1 rfl (by exact op_fieldPtr (k := 2) (Ev.rfl' rfl) rfl rfl rfl rfl) ?_)
  refine JL_1 rfl (by exact op_loadPtrsN (n := 7) (Ev.rfl' rfl) memT (by rfl) (by rfl) (by rfl) (by rfl) nrmT) ?_
  refine JL_1 rfl (by exact op_fieldPtr (k := 2) (Ev.rfl' rfl) rfl rfl rfl rfl) ?_
  refine JL_1 rfl (op_indexArr (k := 0) (sz := 1) (Ev.rfl' rfl) (Ev.rfl' rfl) rfl rfl idxT (by decide)) ?_
  refine JL_1 rfl (by exact op_loadPtr (Ev.rfl' rfl) memT (by rfl) (by rfl) (by rfl)) ?_
  refine JL_1 rfl (op_buildArr (size := 1) (qs := [(0, _)]) rfl rfl rfl rfl ⟨⟨rfl, _, (Ev.rfl' rfl), cellsT⟩, trivial⟩ (by rfl) nrmT) ?_
  refine JL_1 rfl (op_cmpA (vs := dataV p) (ws := dataV (qE p)) (Ev.rfl' rfl) evS (eqD_guard _ _ _ p (qE p)) (eqD_neq p (qE p))) ?_
  refine JL_1 rfl (op_move rfl) ?_
  (refine JL_i0 rfl rfl rfl (fun hg => (by have hg0 := hg; (try simp at hg); exact op_fieldPtr (k := 2) evG rfl rfl rfl rfl)) ?_)
  (refine JL_i0 rfl rfl rfl (fun hg => (by have hg0 := hg; (try simp at hg); exact op_indexArr (k := 0) (sz := 1) evG evG rfl rfl idxT (by decide))) ?_)
  (refine JL_i0 rfl rfl rfl (fun hg => (by have hg0 := hg; (try simp at hg); exact op_loadPtr evG memT (by rfl) (by rfl) (by rfl))) ?_)
  (refine JL_i0 rfl rfl rfl (fun hg => (by have hg0 := hg; (try simp at hg); exact op_gtr evG evG)) ?_)
  refine JL_1 rfl (op_or (Ev.rfl' rfl) rfl (fun h => by exact SubL.iteT (by (rw [h]; rfl)) SubL.rfl')) ?_
  refine JL_nil (JQ_then ?_)
  refine JC_cond (Ev.rfl' rfl) (fun h3 => ?_) (fun h3 => ?_)
  · rw [data_z] at h3
    have e : readE p = (0#32, 14) := by unfold readE; rw [if_pos g, if_pos h3]
    rw [e]
    refine JC_seq (JC_region (JL_1 rfl (op_assign rfl) (JL_1 rfl (op_assign rfl) (JL_nil ?_))))
    refine JQ_then (JC_ret (JQ_then_ret ?_))
    refine JQ_ret (Bs := [_, _]) Tryz.results73 ⟨⟨_, rfl, subT⟩, ⟨⟨_, rfl, subT⟩, trivial⟩⟩ () ?_ (List.nil_sublist _)
    exact SubL.rfl'
  rw [data_z] at h3
  have e : readE p = (p.d0.setWidth 32, 0) := by unfold readE; rw [if_pos g, if_neg (by rw [h3]; simp)]
  rw [e]
  refine JC_skip (JQ_then (JC_seq ?_))
  refine JC_region (JL_1 rfl (by exact op_fieldPtr (k := 2) (Ev.rfl' rfl) rfl rfl rfl rfl) ?_)
  refine JL_1 rfl (op_indexArr (k := 0) (sz := 1) (Ev.rfl' rfl) (Ev.rfl' rfl) rfl rfl idxT (by decide)) ?_
  refine JL_1 rfl (by exact op_loadPtr (Ev.rfl' rfl) memT (by rfl) (by rfl) (by rfl)) ?_
  refine JL_1 rfl (op_conv (Ev.rfl' rfl) rfl rfl convT) ?_
  refine JL_1 rfl (op_assign rfl) (JL_1 rfl (op_assign rfl) (JL_nil ?_))
  refine JQ_then (JC_ret ?_)
  refine JQ_ret (Bs := [_, _]) Tryz.results73 ⟨⟨_, rfl, subT⟩, ⟨⟨_, rfl, subT⟩, trivial⟩⟩ () ?_ (List.nil_sublist _)
  exact SubL.rfl'
-- epoch.WriteEpoch: function 76
set_option maxHeartbeats 1000000 in
theorem WriteEpoch_ok (p : Pg) (e : BitVec 32) : FnP Tryz.prog 76 [IsPg p, Is (.int .u32 (UV e))] (IsTup [IsPg (writeE p e).1, Is (.int .i64 (writeE p e).2)]) := by
  refine FnP.enter Tryz.func76 Tryz.ntmps76 rfl rfl ?_
  intro c hX
  refine JC_seq (JC_region ?_)
  (refine JL_n rfl (op_box (Ev.rfl' rfl) cellsT) ?_; intro i2)
  (refine JL_n rfl (op_allocN rfl nrmT rfl) ?_; intro i4)
  refine JL_1 rfl (op_assign rfl) (JL_nil ?_)
  refine JQ_then (JC_seq (JC_seq ?_))
  refine JC_region (JL_1 rfl (by exact op_fieldPtr (k := 0) (Ev.rfl' rfl) rfl rfl rfl rfl) ?_)
  refine JL_1 rfl (by exact op_loadPtr (Ev.rfl' rfl) memT (by rfl) (by rfl) (by rfl)) ?_
  refine JL_1 rfl (op_neq (Ev.rfl' rfl) (Ev.rfl' rfl)) (JL_nil (JQ_then ?_))
  refine JC_cond (Ev.rfl' rfl) (fun h1 => ?_) (fun h1 => ?_)
  · have g : ¬ p.l = 97 := by simpa using h1
    have ee : writeE p e = (Pg.nil, 1) := by unfold writeE; rw [if_neg g]
    rw [ee]
    refine JC_seq (JC_region (JL_1 rfl (op_buildN (qs := []) rfl rfl rfl rfl trivial (by rfl) nrmT) ?_))
    refine JL_s0 (op_storeN (Ev.rfl' rfl) (Ev.rfl' rfl) cellsT replT nrmT (by rfl) (by rfl) (by rfl)) ?_
    refine JL_1 rfl (op_assign rfl) (JL_nil ?_)
    refine JQ_then (JC_ret (JQ_then_ret ?_))
    exact JQ_ret (Bs := [IsPg Pg.nil, Is (.int .i64 1)]) Tryz.results76 ⟨⟨_, _, _, _, rfl, memT, rfl, .inr ⟨rfl, _, rfl, rfl, subT⟩⟩, ⟨⟨_, rfl, subT⟩, trivial⟩⟩ () SubL.rfl' (List.nil_sublist _)
  have g : p.l = 97 := by simpa using h1
  have ee : writeE p e = (putE' p e, 0) := by unfold writeE; rw [if_pos g]
  rw [ee]
  refine JC_skip (JQ_then (JC_seq ?_))
  refine JC_region (JL_1 rfl (op_move rfl) (JL_1 rfl (op_conv (Ev.rfl' rfl) rfl rfl convT) ?_))
  refine JL_1 rfl (op_buildArr (size := 1) (qs := [(0, _)]) rfl rfl rfl rfl ⟨⟨rfl, _, (Ev.rfl' rfl), cellsT⟩, trivial⟩ (by rfl) nrmT) ?_
  refine JL_1 rfl (by exact op_fieldPtr (k := 2) (Ev.rfl' rfl) rfl rfl rfl rfl) ?_
  refine JL_s0 (op_storeN (Ev.rfl' rfl) (Ev.rfl' rfl) cellsT replT nrmT (by rfl) (by rfl) (by rfl)) ?_
  refine JL_nil ?_
  refine JQ_then (JC_seq ?_)
  refine JC_region (JL_1 rfl (by exact op_loadPtrsN (n := 9) (Ev.rfl' rfl) memT (by rfl) (by rfl) (by rfl) (by rfl) nrmT) ?_)
  refine JL_s0 (op_storeN (Ev.rfl' rfl) (Ev.rfl' rfl) cellsT replT nrmT (by rfl) (by rfl) (by rfl)) ?_
  refine JL_1 rfl (op_assign rfl) (JL_nil ?_)
  refine JQ_then (JC_ret ?_)
  exact JQ_ret (Bs := [IsPg (putE' p e), Is (.int .i64 0)]) Tryz.results76 ⟨⟨_, _, _, _, rfl, memT, rfl, .inr ⟨rfl, _, rfl, rfl, subT⟩⟩, ⟨⟨_, rfl, subT⟩, trivial⟩⟩ () SubL.rfl' (List.nil_sublist _)
end Go.Proofs.YtfkmbdpnjcgimaaGreat

/- Contracts: pointers in a list, valid operations, sorting what is sorted. Own work. -/
namespace Go.Proofs.YtfkmbdpnjcgimaaGreat
open Go.RowKit
set_option linter.unusedVariables false
set_option linter.unusedSimpArgs false
set_option maxRecDepth 100000
def idxV (xs : List Pt) (p : Pt) : Int := if p ∈ xs then ((xs.idxOf p : Nat) : Int) else -1
theorem idxV_hit {xs : List Pt} {p : Pt} {k : Nat} (h : xs[k]? = some p) (hn : p ∉ xs.take k) : idxV xs p = (k : Int) := by
  have hm : p ∈ xs := List.mem_of_getElem? h
  unfold idxV
  rw [if_pos hm]
  have hk := (List.getElem?_eq_some_iff.1 h).1
  have e : xs = xs.take k ++ (p :: xs.drop (k + 1)) := by
    conv => lhs; rw [← List.take_append_drop k xs]
    rw [List.drop_eq_getElem_cons hk, (List.getElem?_eq_some_iff.1 h).2]
  have e2 : xs.idxOf p = k := by
    rw [e, List.idxOf_append, if_neg hn, List.idxOf_cons_self, List.length_take]
    omega
  rw [e2]
theorem idxV_no {xs : List Pt} {p : Pt} (hn : p ∉ xs) : idxV xs p = -1 := by
  unfold idxV
  rw [if_neg hn]
theorem idxV_ge (xs : List Pt) (p : Pt) : decide (idxV xs p ≥ 0) = decide (p ∈ xs) := by
  unfold idxV
  by_cases h : p ∈ xs
  · rw [if_pos h, decide_eq_true h]
    exact decide_eq_true (Int.natCast_nonneg _)
  · rw [if_neg h, decide_eq_false h]
    rfl
-- slices.Index[[]bodega/pointer.Pointer,bodega/pointer.Pointer]: function 96
set_option maxHeartbeats 1000000 in
theorem IndexPt_ok (xs : List Pt) (p : Pt) (hn : xs.length ≤ 1048576) : FnP Tryz.prog 96 [IsSl tPt xs, IsPt p] (Is (.int .i64 (idxV xs p))) := by
  refine FnP.enter Tryz.func96 Tryz.ntmps96 rfl rfl ?_
  intro c hX
  refine JC_seq (JC_region ?_)
  (refine JL_n rfl (op_box (Ev.rfl' rfl) cellsT) ?_; intro i3)
  refine JL_1 rfl (op_assign rfl) (JL_nil ?_)
  refine JQ_then (JC_seq (JC_seq ?_))
  refine JC_region (JL_1 rfl (op_move rfl) (JL_1 rfl (by exact op_len (Ev.rfl' rfl) rfl) ?_))
  refine JL_1 rfl (op_move rfl) (JL_nil ?_)
  refine JQ_then (JC_block ?_)
  refine JC_loopP (fun k : Nat => k ≤ xs.length ∧ p ∉ xs.take k) (fun k => [(0, IsSl tPt xs), (3, Is (.pointer (some ⟨i3, 0, none⟩))), (7, Is (.int .i64 (xs.length : Nat))), (8, Is (.int .i64 (k : Nat)))]) (fun _ => [blk i3 39 (tPt.cells p)]) (fun k => xs.length - k) 0 ⟨Nat.zero_le _, by simp⟩ esubT lessT ?_
  rintro k ⟨hk, hno⟩
  refine JC_seq (JC_region (JL_1 rfl (op_lss (Ev.rfl' rfl) (Ev.rfl' rfl)) (JL_nil ?_)))
  refine JQ_then (JC_seq ?_)
  refine JC_cond (Ev.rfl' rfl) (fun h2 => ?_) (fun h2 => ?_)
  · have hlt : k < xs.length := by have := of_decide_eq_true h2; omega
    clear h2
    obtain ⟨x, hx⟩ : ∃ x, xs[k]? = some x := ⟨_, List.getElem?_eq_getElem hlt⟩
    refine JC_skip (JQ_then (JC_seq (JC_block (JC_seq ?_))))
    refine JC_region (JL_1 rfl (op_move rfl) (JL_1 rfl (op_assign rfl) (JL_nil ?_)))
    refine JQ_then (JC_seq ?_)
    refine JC_dr rfl (by kernel_rfl) ?_
    refine JD_stretch 6 (by kernel_rfl) ?_
    refine JW_1 (by exact op_loadPtrsN (n := 2) (Ev.rfl' rfl) memT (by rfl) (by rfl) (by rfl) (by rfl) nrmT) ?_
    refine JW_1 (op_move rfl) (JW_1 (op_move rfl) (JW_1 (by exact op_index (j := _) (Ev.rfl' rfl) (Ev.rfl' rfl) rfl rfl (by rfl) hx) ?_))
    refine JW_1 (by exact op_loadRefsN (n := 2) (Ev.rfl' rfl) rfl rfl rfl (by rfl) nrmT) ?_
    refine JW_1 (op_cmpA (vs := p.cells) (ws := x.cells) (Ev.rfl' rfl) (Ev.rfl' rfl) (eqPt_guard _ _ _ p x) (eqPt_eql p x)) ?_
    refine ⟨rfl, ?_⟩
    refine JD_end (JQ_then ?_)
    refine JC_cond (Ev.rfl' rfl) (fun h4 => ?_) (fun h4 => ?_)
    · have e : p = x := of_decide_eq_true h4
      subst e
      rw [← idxV_hit hx hno]
      refine JC_seq (JC_region (JL_1 rfl (op_move rfl) (JL_1 rfl (op_assign rfl) (JL_nil ?_))))
      refine JQ_then (JC_ret (JQ_block_ret (JQ_then_ret (JQ_then_ret (JQ_block_ret (JQ_then_ret ?_))))))
      refine JQ_ret1 Tryz.results96 rfl () (SubL.eq ?_) (List.nil_sublist _)
      rfl
    have e : ¬ p = x := of_decide_eq_false h4
    refine JC_skip (JQ_block (JQ_then ?_))
    refine JC_region (JL_1 rfl (op_add (Ev.rfl' rfl) (Ev.rfl' rfl) wrapT) ?_)
    refine JL_1 rfl (op_move rfl) (JL_nil ?_)
    exact JQ_roundP (k + 1) ⟨by omega, fun hm => by
      rw [List.take_add_one, hx] at hm
      rcases List.mem_append.1 hm with hm | hm
      · exact hno hm
      · simp at hm; exact e hm⟩ (by omega) esubT lessT
  have hke : k = xs.length := by have := of_decide_eq_false h2; omega
  subst hke
  rw [List.take_length] at hno
  have en := idxV_no hno
  refine JC_exit (JQ_then_exit (JQ_then_exit (JQ_hit (JQ_then (JC_seq ?_)))))
  refine JC_region (JL_1 rfl (op_assign rfl) (JL_nil ?_))
  refine JQ_then (JC_ret ?_)
  refine JQ_ret1 Tryz.results96 rfl () (SubL.eq ?_) (List.nil_sublist _)
  rw [en]
-- slices.Contains[[]bodega/pointer.Pointer,bodega/pointer.Pointer]: function 77
theorem ContainsPt_ok (xs : List Pt) (p : Pt) (hn : xs.length ≤ 1048576) : FnP Tryz.prog 77 [IsSl tPt xs, IsPt p] (Is (.bool (decide (p ∈ xs)))) := by
  refine FnP.enter Tryz.func77 Tryz.ntmps77 rfl rfl ?_
  intro c hX
  refine JC_seq (JC_region ?_)
  (refine JL_n rfl (op_box (Ev.rfl' rfl) cellsT) ?_; intro i3)
  refine JL_1 rfl (op_assign rfl) (JL_nil ?_)
  refine JQ_then (JC_seq ?_)
  refine JC_region (JL_1 rfl (op_move rfl) (JL_1 rfl (by exact op_loadPtrsN (n := 2) (Ev.rfl' rfl) memT (by rfl) (by rfl) (by rfl) (by rfl) nrmT) ?_))
  refine JL_1 rfl (op_call Tryz.call96 (IndexPt_ok _ _ hn) ⟨evS, ⟨evS, trivial⟩⟩) ?_
  refine JL_1 rfl (op_geq (Ev.rfl' rfl) (Ev.rfl' rfl)) (JL_1 rfl (op_assign rfl) (JL_nil ?_))
  refine JQ_then (JC_ret ?_)
  refine JQ_ret1 Tryz.results77 rfl () (SubL.eq ?_) (List.nil_sublist _)
  rw [← idxV_ge]
-- epoch.isList: function 71
set_option maxHeartbeats 1000000 in
theorem isList_ok (p : Pt) (hv : validP p = true) : FnP Tryz.prog 71 [IsSl tPt [p]] (Is (.bool true)) := by
  have hx : ([p] : List Pt)[0]? = some p := rfl
  refine FnP.enter Tryz.func71 Tryz.ntmps71 rfl rfl ?_
  intro c hX
  refine JC_seq (JC_region (JL_1 rfl (op_assign rfl) (JL_nil ?_)))
  refine JQ_then (JC_seq (JC_seq ?_))
  refine JC_region (JL_1 rfl (op_move rfl) (JL_1 rfl (by exact op_len (Ev.rfl' rfl) rfl) ?_))
  refine JL_1 rfl (op_lss (Ev.rfl' rfl) (Ev.rfl' rfl)) (JL_1 rfl (op_move rfl) ?_)
  (refine JL_i0 rfl rfl rfl (fun hg => (by have hg0 := hg; (try simp at hg); exact op_moveE (Ev.rfl' rfl))) ?_)
  (refine JL_i0 rfl rfl rfl (fun hg => (by have hg0 := hg; (try simp at hg); exact op_len evG rfl)) ?_)
  (refine JL_i0 rfl rfl rfl (fun hg => (by have hg0 := hg; (try simp at hg); exact op_gtr evG evG)) ?_)
  refine JL_1 rfl (op_or (Ev.rfl' rfl) rfl (fun h => by exact SubL.rfl')) ?_
  refine JL_nil (JQ_then ?_)
  refine JC_cond (Ev.rfl' rfl) (fun h1 => ?_) (fun h1 => ?_)
  · exact absurd h1 (by simp)
  clear h1
  refine JC_skip (JQ_then (JC_seq (JC_seq ?_)))
  refine JC_region (JL_1 rfl (op_move rfl) (JL_1 rfl (by exact op_len (Ev.rfl' rfl) rfl) ?_))
  refine JL_1 rfl (op_move rfl) (JL_nil ?_)
  refine JQ_then (JC_block ?_)
  refine JC_loopP (fun k : Nat => k ≤ 1) (fun k => [(0, IsSl tPt [p]), (13, IsSl tPt [p]), (14, Is (.int .i64 (1 : Nat))), (15, Is (.int .i64 (k : Nat)))]) (fun _ => []) (fun k => 1 - k) 0 (Nat.zero_le _) esubT lessT ?_
  intro k hk
  refine JC_seq (JC_region (JL_1 rfl (op_lss (Ev.rfl' rfl) (Ev.rfl' rfl)) (JL_nil ?_)))
  refine JQ_then (JC_seq ?_)
  refine JC_cond (Ev.rfl' rfl) (fun h4 => ?_) (fun h4 => ?_)
  · have hk0 : k = 0 := by have := of_decide_eq_true h4; omega
    subst hk0
    clear h4
    refine JC_skip (JQ_then (JC_seq (JC_block (JC_seq ?_))))
    refine JC_region (JL_1 rfl (op_move rfl) (JL_1 rfl (by exact op_index (j := _) (Ev.rfl' rfl) (Ev.rfl' rfl) rfl rfl (by rfl) hx) ?_))
    refine JL_1 rfl (by exact op_loadRefsN (n := 2) (Ev.rfl' rfl) rfl rfl rfl (by rfl) nrmT) ?_
    (refine JL_n rfl (op_allocN rfl nrmT rfl) ?_; intro i4)
    refine JL_1 rfl (op_assign rfl) (JL_s0 (op_storeN (Ev.rfl' rfl) (Ev.rfl' rfl) cellsT replT nrmT (by rfl) (by rfl) (by rfl)) ?_)
    refine JL_nil ?_
    refine JQ_then (JC_seq ?_)
    refine JC_dr rfl (by kernel_rfl) ?_
    refine JD_stretch 10 (by kernel_rfl) ?_
    refine JW_1 (by exact op_loadPtrsN (n := 2) (Ev.rfl' rfl) memT (by rfl) (by rfl) (by rfl) (by rfl) nrmT) ?_
    refine JW_1 (op_call Tryz.call45 (ValidP_ok _) ⟨evS, trivial⟩) ?_
    refine JW_1 (op_not (Ev.rfl' rfl)) (JW_1 (op_move rfl) ?_)
    (refine JW_i0 rfl rfl (fun hg => (by have hg0 := hg; (try simp at hg); exact op_moveE (Ev.rfl' rfl))) ?_)
    (refine JW_i0 rfl rfl (fun hg => (by have hg0 := hg; (try simp at hg); exact op_moveE (Ev.rfl' rfl))) ?_)
    (refine JW_i0 rfl rfl (fun hg => (by have hg0 := hg; (try simp at hg); exact op_slice evG rfl rfl rfl ⟨_, _, evG, (show _ = ((0 : Nat) : Int) by rfl)⟩ (by omega) (by omega))) ?_)
    (refine JW_i0 rfl rfl (fun hg => (by have hg0 := hg; (try simp at hg); exact op_loadPtrsN (n := 2) evG memT (by rfl) (by rfl) (by rfl) (by rfl) nrmT)) ?_)
    (refine JW_i0 rfl rfl (fun hg => (by have hg0 := hg; (try simp at hg); ((refine op_call Tryz.call77 (ContainsPt_ok [] p ?_) ⟨evS, ⟨evS, trivial⟩⟩); all_goals (decide)))) ?_)
    refine JW_1 (op_or (Ev.rfl' rfl) rfl (fun h => by exact SubL.iteT (by (rw [h]; rfl)) SubL.rfl')) ?_
    refine ⟨rfl, ?_⟩
    refine JD_end (JQ_then ?_)
    refine JC_cond (Ev.rfl' rfl) (fun h6 => ?_) (fun h6 => ?_)
    · exact absurd h6 (by rw [hv]; simp)
    clear h6
    refine JC_skip (JQ_block (JQ_then ?_))
    refine JC_region (JL_1 rfl (op_add (Ev.rfl' rfl) (Ev.rfl' rfl) wrapT) ?_)
    refine JL_1 rfl (op_move rfl) (JL_nil ?_)
    exact JQ_roundP 1 (by omega) (by omega) esubT lessT
  refine JC_exit (JQ_then_exit (JQ_then_exit (JQ_hit (JQ_then (JC_seq ?_)))))
  refine JC_region (JL_1 rfl (op_assign rfl) (JL_nil ?_))
  refine JQ_then (JC_ret ?_)
  refine JQ_ret1 Tryz.results71 rfl () (SubL.eq ?_) (List.nil_sublist _)
  rfl
/-- An operation that is well formed. -/
structure OkE (o : Eop) : Prop where
  cl : clientB o.client = true
  kd : o.kind = 1 ∨ o.kind = 2 ∨ o.kind = 3 ∨ o.kind = 4 ∨ o.kind = 5 ∨ o.kind = 6
  inc : o.kind = 1 ∨ o.kind = 2 ∨ o.kind = 6 → 1 ≤ o.inc ∧ o.inc ≤ 59
  fr : o.kind = 5 ∨ o.kind = 6 → clientB o.for_ = true
  ln : o.kind = 5 → 104 ≤ o.lines ∧ o.lines ≤ 256
  ls : o.kind = 4 → ∃ p, o.list = [p] ∧ validP p = true
-- (epoch.Op).isValid: function 56
set_option maxHeartbeats 1000000 in
theorem isValidE_ok (o : Eop) (h : OkE o) : FnP Tryz.prog 56 [IsEop o] (Is (.bool true)) := by
  obtain ⟨hcl, hkd, hinc, hfr, hln, hls⟩ := h
  refine FnP.enter Tryz.func56 Tryz.ntmps56 rfl rfl ?_
  intro c hX
  refine JC_seq (JC_region ?_)
  (refine JL_n rfl (op_box (Ev.rfl' rfl) cellsT) ?_; intro i1)
  refine JL_1 rfl (op_assign rfl) (JL_nil ?_)
  refine JQ_then (JC_seq (JC_seq ?_))
  refine JC_region (JL_1 rfl (by exact op_fieldPtr (k := 1) (Ev.rfl' rfl) rfl rfl rfl rfl) ?_)
  refine JL_1 rfl (by exact op_loadPtr (Ev.rfl' rfl) memT (by rfl) (by rfl) (by rfl)) ?_
  refine JL_1 rfl (op_call Tryz.call70 (isClientE_ok _) ⟨evS, trivial⟩) ?_
  refine JL_1 rfl (op_not (Ev.rfl' rfl)) (JL_nil (JQ_then ?_))
  refine JC_cond (Ev.rfl' rfl) (fun h1 => ?_) (fun h1 => ?_)
  · exact absurd h1 (by rw [hcl]; simp)
  clear h1
  refine JC_skip (JQ_then (JC_seq ?_))
  refine JC_region (JL_1 rfl (by exact op_fieldPtr (k := 2) (Ev.rfl' rfl) rfl rfl rfl rfl) ?_)
  refine JL_1 rfl (by exact op_loadPtr (Ev.rfl' rfl) memT (by rfl) (by rfl) (by rfl)) ?_
  refine JL_1 rfl (op_geq (Ev.rfl' rfl) (Ev.rfl' rfl)) (JL_1 rfl (op_move rfl) ?_)
  (refine JL_i0 rfl rfl rfl (fun hg => (by have hg0 := hg; (try simp at hg); exact op_fieldPtr (k := 2) evG rfl rfl rfl rfl)) ?_)
  (refine JL_i0 rfl rfl rfl (fun hg => (by have hg0 := hg; (try simp at hg); exact op_loadPtr evG memT (by rfl) (by rfl) (by rfl))) ?_)
  (refine JL_i0 rfl rfl rfl (fun hg => (by have hg0 := hg; (try simp at hg); exact op_leq evG evG)) ?_)
  refine JL_1 rfl (op_and (Ev.rfl' rfl) rfl (fun h => by exact SubL.iteT (by (rw [h]; rfl)) SubL.rfl')) ?_
  refine JL_1 rfl (op_assign rfl) (JL_nil ?_)
  refine JQ_then (JC_seq (JC_seq ?_))
  refine JC_region (JL_1 rfl (by exact op_fieldPtr (k := 0) (Ev.rfl' rfl) rfl rfl rfl rfl) ?_)
  refine JL_1 rfl (by exact op_loadPtr (Ev.rfl' rfl) memT (by rfl) (by rfl) (by rfl)) ?_
  refine JL_nil ?_
  refine JQ_then (JC_block (JC_seq (JC_seq ?_)))
  refine JC_region (JL_1 rfl (op_eql (Ev.rfl' rfl) (Ev.rfl' rfl)) (JL_1 rfl (op_assign rfl) (JL_nil (JQ_then (JC_cutT (fun _ : Unit => True) (fun _ => [(1, Is (.pointer (some ⟨i1, 0, none⟩))), (3, Is (.bool (decide (o.inc ≥ 1) && decide (o.inc ≤ 59)))), (17, Is (.int .i64 o.kind)), (18, Is (.bool (o.kind == 1 || o.kind == 2)))]) (fun _ => [blk i1 85 (tEop.cells o)]) ?_ ?_)))))
  rotate_left
  focus
    refine JC_cond (Ev.rfl' rfl) (fun h5 => ?_) (fun h5 => ?_)
    · have g : o.kind = 1 := by simpa using h5
      refine JC_skip ?_
      exact JQ_meetP () trivial (by rw [show (o.kind == 1 || o.kind == 2) = true by simp [g]]; rw [h5]; exact esubT) lessT
    have g : ¬ o.kind = 1 := by simpa using h5
    refine JC_region (JL_1 rfl (op_eql (Ev.rfl' rfl) (Ev.rfl' rfl)) (JL_1 rfl (op_assign rfl) (JL_nil ?_)))
    exact JQ_meetP () trivial (by rw [show (o.kind == 1 || o.kind == 2) = (o.kind == 2) by simp [g]]; exact esubT) lessT
  rintro _ _
  refine JC_cond (Ev.rfl' rfl) (fun h5b => ?_) (fun h5b => ?_)
  · have g : o.kind = 1 ∨ o.kind = 2 := by simpa using h5b
    have hi := hinc (by omega)
    have e : (decide (o.inc ≥ 1) && decide (o.inc ≤ 59)) = true := by simp; omega
    rw [e]
    refine JC_seq (JC_region (JL_1 rfl (op_move rfl) (JL_1 rfl (op_assign rfl) (JL_nil ?_))))
    refine JQ_then (JC_ret (JQ_block_ret (JQ_then_ret ?_)))
    refine JQ_ret1 Tryz.results56 rfl () (SubL.eq ?_) (List.nil_sublist _)
    rfl
  have g : ¬ (o.kind = 1 ∨ o.kind = 2) := by simpa using h5b
  refine JC_seq (JC_region (JL_1 rfl (op_eql (Ev.rfl' rfl) (Ev.rfl' rfl)) (JL_1 rfl (op_assign rfl) (JL_nil (JQ_then ?_)))))
  refine JC_cond (Ev.rfl' rfl) (fun h8 => ?_) (fun h8 => ?_)
  · have g8 : o.kind = 6 := by simpa using h8
    have hi := hinc (by omega)
    have hf := hfr (by omega)
    have e : (decide (o.inc ≥ 1) && decide (o.inc ≤ 59)) = true := by simp; omega
    rw [e]
    refine JC_seq (JC_region (JL_1 rfl (op_move rfl) (JL_1 rfl (op_move rfl) ?_)))
    (refine JL_i0 rfl rfl rfl (fun hg => (by have hg0 := hg; (try simp at hg); exact op_fieldPtr (k := 4) evG rfl rfl rfl rfl)) ?_)
    (refine JL_i0 rfl rfl rfl (fun hg => (by have hg0 := hg; (try simp at hg); exact op_loadPtr evG memT (by rfl) (by rfl) (by rfl))) ?_)
    (refine JL_i0 rfl rfl rfl (fun hg => (by have hg0 := hg; (try simp at hg); exact op_call Tryz.call70 (isClientE_ok _) ⟨evS, trivial⟩)) ?_)
    refine JL_1 rfl (op_and (Ev.rfl' rfl) rfl (fun h => by exact SubL.rfl')) ?_
    refine JL_1 rfl (op_assign rfl) (JL_nil ?_)
    refine JQ_then (JC_ret (JQ_block_ret (JQ_then_ret ?_)))
    refine JQ_ret1 Tryz.results56 rfl () (SubL.eq ?_) (List.nil_sublist _)
    rw [hf]; rfl
  have g8 : ¬ o.kind = 6 := by simpa using h8
  refine JC_seq (JC_region (JL_1 rfl (op_eql (Ev.rfl' rfl) (Ev.rfl' rfl)) (JL_1 rfl (op_assign rfl) (JL_nil (JQ_then ?_)))))
  refine JC_cond (Ev.rfl' rfl) (fun h10 => ?_) (fun h10 => ?_)
  · have g10 : o.kind = 5 := by simpa using h10
    have hf := hfr (by omega)
    have hl := hln g10
    refine JC_seq (JC_region (JL_1 rfl (by exact op_fieldPtr (k := 4) (Ev.rfl' rfl) rfl rfl rfl rfl) ?_))
    refine JL_1 rfl (by exact op_loadPtr (Ev.rfl' rfl) memT (by rfl) (by rfl) (by rfl)) ?_
    refine JL_1 rfl (op_call Tryz.call70 (isClientE_ok _) ⟨evS, trivial⟩) ?_
    refine JL_1 rfl (op_move rfl) ?_
    (refine JL_i0 rfl rfl rfl (fun hg => (by have hg0 := hg; (try simp at hg); exact op_fieldPtr (k := 3) evG rfl rfl rfl rfl)) ?_)
    (refine JL_i0 rfl rfl rfl (fun hg => (by have hg0 := hg; (try simp at hg); exact op_loadPtr evG memT (by rfl) (by rfl) (by rfl))) ?_)
    (refine JL_i0 rfl rfl rfl (fun hg => (by have hg0 := hg; (try simp at hg); exact op_geq evG evG)) ?_)
    refine JL_1 rfl (op_and (Ev.rfl' rfl) rfl (fun h => by exact SubL.iteT (by (rw [h]; rfl)) SubL.rfl')) ?_
    refine JL_1 rfl (op_move rfl) ?_
    (refine JL_i0 rfl rfl rfl (fun hg => (by have hg0 := hg; (try simp at hg); exact op_fieldPtr (k := 3) evG rfl rfl rfl rfl)) ?_)
    (refine JL_i0 rfl rfl rfl (fun hg => (by have hg0 := hg; (try simp at hg); exact op_loadPtr evG memT (by rfl) (by rfl) (by rfl))) ?_)
    (refine JL_i0 rfl rfl rfl (fun hg => (by have hg0 := hg; (try simp at hg); exact op_leq evG evG)) ?_)
    refine JL_1 rfl (op_and (Ev.rfl' rfl) rfl (fun h => by exact SubL.iteT (by (rw [h]; rfl)) SubL.rfl')) ?_
    refine JL_1 rfl (op_assign rfl) (JL_nil ?_)
    refine JQ_then (JC_ret (JQ_block_ret (JQ_then_ret ?_)))
    refine JQ_ret1 Tryz.results56 rfl () (SubL.eq ?_) (List.nil_sublist _)
    rw [hf, decide_eq_true hl.1, decide_eq_true hl.2]; rfl
  have g10 : ¬ o.kind = 5 := by simpa using h10
  refine JC_seq (JC_region (JL_1 rfl (op_eql (Ev.rfl' rfl) (Ev.rfl' rfl)) (JL_1 rfl (op_assign rfl) (JL_nil (JQ_then ?_)))))
  refine JC_cond (Ev.rfl' rfl) (fun h12 => ?_) (fun h12 => ?_)
  · have g12 : o.kind = 4 := by simpa using h12
    obtain ⟨p, hp, hpv⟩ := hls g12
    have hil := isList_ok p hpv
    rw [← hp] at hil
    refine JC_seq (JC_region (JL_1 rfl (by exact op_fieldPtr (k := 5) (Ev.rfl' rfl) rfl rfl rfl rfl) ?_))
    refine JL_1 rfl (by exact op_loadPtr (Ev.rfl' rfl) memT (by rfl) (by rfl) (by rfl)) ?_
    refine JL_1 rfl (op_call Tryz.call71 (hil) ⟨evS, trivial⟩) ?_
    refine JL_1 rfl (op_assign rfl) (JL_nil ?_)
    refine JQ_then (JC_ret (JQ_block_ret (JQ_then_ret ?_)))
    refine JQ_ret1 Tryz.results56 rfl () (SubL.eq ?_) (List.nil_sublist _)
    rfl
  have g12 : ¬ o.kind = 4 := by simpa using h12
  have g3 : o.kind = 3 := by omega
  refine JC_skip (JQ_block (JQ_then (JC_seq ?_)))
  refine JC_region (JL_1 rfl (by exact op_fieldPtr (k := 0) (Ev.rfl' rfl) rfl rfl rfl rfl) ?_)
  refine JL_1 rfl (by exact op_loadPtr (Ev.rfl' rfl) memT (by rfl) (by rfl) (by rfl)) ?_
  refine JL_1 rfl (op_eql (Ev.rfl' rfl) (Ev.rfl' rfl)) (JL_1 rfl (op_assign rfl) (JL_nil ?_))
  refine JQ_then (JC_ret ?_)
  refine JQ_ret1 Tryz.results56 rfl () (SubL.eq ?_) (List.nil_sublist _)
  rw [g3]; rfl
end Go.Proofs.YtfkmbdpnjcgimaaGreat

/- Contracts: slices.SortFunc on pages that are sorted already. Own work. -/
namespace Go.Proofs.YtfkmbdpnjcgimaaGreat
open Go.RowKit
set_option linter.unusedVariables false
set_option linter.unusedSimpArgs false
set_option maxRecDepth 100000
-- epoch.Next$1: function 64
theorem ncmp_ok (p q : Pg) : FnP Tryz.prog 64 [IsPg p, IsPg q] (Is (.int .i64 (cmpI p.l q.l))) := by
  refine FnP.enter Tryz.func64 Tryz.ntmps64 rfl rfl ?_
  intro c hX
  refine JC_seq (JC_region ?_)
  (refine JL_n rfl (op_box (Ev.rfl' rfl) cellsT) ?_; intro i2)
  (refine JL_n rfl (op_box (Ev.rfl' rfl) cellsT) ?_; intro i3)
  refine JL_1 rfl (op_assign rfl) (JL_nil ?_)
  refine JQ_then (JC_seq ?_)
  refine JC_region (JL_1 rfl (by exact op_fieldPtr (k := 0) (Ev.rfl' rfl) rfl rfl rfl rfl) ?_)
  refine JL_1 rfl (by exact op_loadPtr (Ev.rfl' rfl) memT (by rfl) (by rfl) (by rfl)) ?_
  refine JL_1 rfl (by exact op_fieldPtr (k := 0) (Ev.rfl' rfl) rfl rfl rfl rfl) ?_
  refine JL_1 rfl (by exact op_loadPtr (Ev.rfl' rfl) memT (by rfl) (by rfl) (by rfl)) ?_
  refine JL_1 rfl (op_call Tryz.call53 (Compare_ok _ _) ⟨evS, ⟨evS, trivial⟩⟩) ?_
  refine JL_1 rfl (op_assign rfl) (JL_nil ?_)
  refine JQ_then (JC_ret ?_)
  refine JQ_ret1 Tryz.results64 rfl () (SubL.eq ?_) (List.nil_sublist _)
  rfl
@[reducible] def fNx : Value := .func (.func 64) #[] #[]
/-- Pages in order of their lines. -/
def AscP (ws : List Pg) : Prop := ws.Pairwise fun x y => x.l < y.l
theorem AscP.at_ {ws : List Pg} (h : AscP ws) {j k : Nat} {x y : Pg} (hx : ws[j]? = some x) (hy : ws[k]? = some y) (hjk : j < k) : x.l < y.l := by
  obtain ⟨h1, rfl⟩ := List.getElem?_eq_some_iff.1 hx
  obtain ⟨h2, rfl⟩ := List.getElem?_eq_some_iff.1 hy
  exact List.pairwise_iff_getElem.1 h j k h1 h2 hjk
-- slices.insertionSortCmpFunc[bodega/api.Page]: function 94
set_option maxHeartbeats 1000000 in
theorem insN_ok (xs : List Pg) (h : AscP xs) (hn : xs.length ≤ 4) : FnP Tryz.prog 94 [IsSl tPg xs, Is (.int .i64 0), Is (.int .i64 (xs.length : Nat)), Is fNx] (IsTup []) := by
  refine FnP.enter Tryz.func94 Tryz.ntmps94 rfl rfl ?_
  intro c hX
  refine JC_seq (JC_region (JL_1 rfl (op_move rfl) (JL_1 rfl (op_add (Ev.rfl' rfl) (Ev.rfl' rfl) wrapT) ?_)))
  refine JL_1 rfl (op_assign rfl) (JL_nil ?_)
  refine JQ_then (JC_block ?_)
  refine JC_loopP (fun q : Nat => 1 ≤ q) (fun q => [(0, IsSl tPg xs), (1, Is (.int .i64 0)), (2, Is (.int .i64 (xs.length : Nat))), (3, Is fNx), (8, Is (.int .i64 (q : Nat)))]) (fun _ => []) (fun q => 4 - q) 1 (Nat.le_refl _) esubT lessT ?_
  intro q hq
  refine JC_seq (JC_seq ?_)
  refine JC_region (JL_1 rfl (op_move rfl) (JL_1 rfl (op_move rfl) (JL_1 rfl (op_lss (Ev.rfl' rfl) (Ev.rfl' rfl)) (JL_nil (JQ_then ?_)))))
  refine JC_cond (Ev.rfl' rfl) (fun h1 => ?_) (fun h1 => ?_)
  · have hlt : q < xs.length := by have := of_decide_eq_true h1; omega
    clear h1
    obtain ⟨x, hx⟩ : ∃ x, xs[q]? = some x := ⟨_, List.getElem?_eq_getElem hlt⟩
    obtain ⟨y, hy⟩ : ∃ y, xs[q - 1]? = some y := ⟨_, List.getElem?_eq_getElem (by omega)⟩
    have hyx := h.at_ hy hx (by omega)
    refine JC_skip (JQ_then (JC_seq (JC_block (JC_seq ?_))))
    refine JC_region (JL_1 rfl (op_move rfl) (JL_1 rfl (op_assign rfl) (JL_nil ?_)))
    refine JQ_then (JC_block ?_)
    refine JC_loopP (fun _ : Unit => True) (fun _ => [(0, IsSl tPg xs), (1, Is (.int .i64 0)), (2, Is (.int .i64 (xs.length : Nat))), (3, Is fNx), (8, Is (.int .i64 (q : Nat))), (9, Is (.int .i64 (q : Nat)))]) (fun _ => []) (fun _ => 0) () trivial esubT lessT ?_
    rintro _ _
    refine JC_seq (JC_seq ?_)
    refine JC_dr rfl (by kernel_rfl) ?_
    refine JD_stretch 17 (by kernel_rfl) ?_
    refine JW_1 (op_move rfl) (JW_1 (op_move rfl) (JW_1 (op_gtr (Ev.rfl' rfl) (Ev.rfl' rfl)) (JW_1 (op_move rfl) ?_)))
    (refine JW_i0 rfl rfl (fun hg => (by have hg0 := hg; (try simp at hg); exact op_moveE (Ev.rfl' rfl))) ?_)
    (refine JW_i0 rfl rfl (fun hg => (by have hg0 := hg; (try simp at hg); exact op_moveE (Ev.rfl' rfl))) ?_)
    (refine JW_i0 rfl rfl (fun hg => (by have hg0 := hg; (try simp at hg); exact op_moveE (Ev.rfl' rfl))) ?_)
    (refine JW_i0 rfl rfl (fun hg => (by have hg0 := hg; (try simp at hg); exact op_index (j := q) evG evG rfl rfl (by rfl) hx)) ?_)
    (refine JW_i0 rfl rfl (fun hg => (by have hg0 := hg; (try simp at hg); exact op_loadRefsN (n := 9) evG rfl rfl rfl (by rfl) nrmT)) ?_)
    (refine JW_i0 rfl rfl (fun hg => (by have hg0 := hg; (try simp at hg); exact op_moveE (Ev.rfl' rfl))) ?_)
    (refine JW_i0 rfl rfl (fun hg => (by have hg0 := hg; (try simp at hg); exact op_moveE (Ev.rfl' rfl))) ?_)
    (refine JW_i0 rfl rfl (fun hg => (by have hg0 := hg; (try simp at hg); exact op_sub evG evG wrapT)) ?_)
    (refine JW_i0 rfl rfl (fun hg => (by have hg0 := hg; (try simp at hg); exact op_index (j := q - 1) evG evG rfl rfl (by omega) hy)) ?_)
    (refine JW_i0 rfl rfl (fun hg => (by have hg0 := hg; (try simp at hg); exact op_loadRefsN (n := 9) evG rfl rfl rfl (by rfl) nrmT)) ?_)
    (refine JW_i0 rfl rfl (fun hg => (by have hg0 := hg; (try simp at hg); exact op_callV0 evG Tryz.call64 (ncmp_ok _ _) ⟨evS, ⟨evS, trivial⟩⟩)) ?_)
    (refine JW_i0 rfl rfl (fun hg => (by have hg0 := hg; (try simp at hg); exact op_lss evG evG)) ?_)
    refine JW_1 (op_and (Ev.rfl' rfl) rfl (fun h => by exact SubL.iteT (by (rw [h]; rfl)) SubL.rfl')) ?_
    refine ⟨rfl, ?_⟩
    refine JD_end (JQ_then ?_)
    refine JC_cond (Ev.rfl' rfl) (fun h4 => ?_) (fun h4 => ?_)
    · exact absurd h4 (by rw [cmpI_neg]; simp; omega)
    clear h4
    refine JC_exit (JQ_then_exit (JQ_then_exit (JQ_hit (JQ_block (JQ_then ?_)))))
    refine JC_region (JL_1 rfl (op_move rfl) (JL_1 rfl (op_add (Ev.rfl' rfl) (Ev.rfl' rfl) wrapT) ?_))
    refine JL_1 rfl (op_assign rfl) (JL_nil ?_)
    exact JQ_roundP (q + 1) (by omega) (by omega) esubT lessT
  refine JC_exit (JQ_then_exit (JQ_then_exit (JQ_hit (JQ_end ?_))))
  exact JQ_retP (Bs := []) Tryz.results94 trivial () SubL.rfl' lessT
-- slices.pdqsortCmpFunc[bodega/api.Page]: function 80
set_option maxHeartbeats 1000000 in
theorem pdqN_ok (xs : List Pg) (h : AscP xs) (hn : xs.length ≤ 4) : FnP Tryz.prog 80 [IsSl tPg xs, Is (.int .i64 0), Is (.int .i64 (xs.length : Nat)), Top, Is fNx] (IsTup []) := by
  refine FnP.enter Tryz.func80 Tryz.ntmps80 rfl rfl ?_
  intro c hX
  refine JC_seq (JC_region (JL_1 rfl (op_assign rfl) (JL_nil ?_)))
  refine JQ_then (JC_seq ?_)
  refine JC_region (JL_1 rfl (op_assign rfl) (JL_nil ?_))
  refine JQ_then (JC_block ?_)
  refine JC_loopP (fun _ : Unit => True) (fun _ => [(0, IsSl tPg xs), (1, Is (.int .i64 0)), (2, Is (.int .i64 (xs.length : Nat))), (4, Is fNx)]) (fun _ => []) (fun _ => 0) () trivial esubT lessT ?_
  rintro _ _
  refine JC_block (JC_seq ?_)
  refine JC_region (JL_1 rfl (op_move rfl) (JL_1 rfl (op_move rfl) (JL_1 rfl (op_sub (Ev.rfl' rfl) (Ev.rfl' rfl) wrapT) ?_)))
  refine JL_1 rfl (op_assign rfl) (JL_nil ?_)
  refine JQ_then (JC_seq (JC_seq ?_))
  refine JC_region (JL_1 rfl (op_move rfl) (JL_1 rfl (op_leq (Ev.rfl' rfl) (Ev.rfl' rfl)) (JL_nil (JQ_then ?_))))
  refine JC_cond (Ev.rfl' rfl) (fun h3 => ?_) (fun h3 => ?_)
  · refine JC_seq (JC_region (JL_1 rfl (op_move rfl) (JL_1 rfl (op_move rfl) (JL_1 rfl (op_move rfl) (JL_1 rfl (op_move rfl) (JL_1 rfl (op_call Tryz.call94 (insN_ok xs h hn) ⟨evS, ⟨evS, ⟨evS, ⟨evS, trivial⟩⟩⟩⟩) ?_))))))
    refine JL_nil ?_
    refine JQ_then (JC_ret (JQ_then_ret (JQ_block_ret (JQ_then_ret (JQ_block_ret ?_)))))
    exact JQ_retP (Bs := []) Tryz.results80 trivial () SubL.rfl' lessT
  exact absurd (of_decide_eq_false h3) (by omega)
-- math/bits.Len64: function 91
theorem Len64_2 : FnP Tryz.prog 91 [Is (.int .u64 2)] (Is (.int .i64 2)) := by
  refine FnP.enter Tryz.func91 Tryz.ntmps91 rfl rfl ?_
  intro c hX
  refine JC_seq (JC_region (JL_1 rfl (op_assign rfl) (JL_nil ?_)))
  refine JQ_then (JC_seq (JC_seq ?_))
  refine JC_region (JL_1 rfl (op_move rfl) (JL_1 rfl (op_geq (Ev.rfl' rfl) (Ev.rfl' rfl)) (JL_nil (JQ_then ?_))))
  refine JC_cond (Ev.rfl' rfl) (fun h1 => ?_) (fun h1 => ?_)
  · exact absurd (of_decide_eq_true h1) (by omega)
  refine JC_skip (JQ_then (JC_seq (JC_seq ?_)))
  refine JC_region (JL_1 rfl (op_move rfl) (JL_1 rfl (op_geq (Ev.rfl' rfl) (Ev.rfl' rfl)) (JL_nil (JQ_then ?_))))
  refine JC_cond (Ev.rfl' rfl) (fun h4 => ?_) (fun h4 => ?_)
  · exact absurd (of_decide_eq_true h4) (by omega)
  refine JC_skip (JQ_then (JC_seq (JC_seq ?_)))
  refine JC_region (JL_1 rfl (op_move rfl) (JL_1 rfl (op_geq (Ev.rfl' rfl) (Ev.rfl' rfl)) (JL_nil (JQ_then ?_))))
  refine JC_cond (Ev.rfl' rfl) (fun h7 => ?_) (fun h7 => ?_)
  · exact absurd (of_decide_eq_true h7) (by omega)
  refine JC_skip (JQ_then (JC_seq ?_))
  refine JC_region (JL_1 rfl (op_move rfl) (JL_1 rfl (op_move rfl) (JL_1 rfl (op_conv (Ev.rfl' rfl) rfl rfl convT) ?_)))
  refine JL_1 rfl (op_indexStr (k := 2) (b := 2) rfl (Ev.rfl' rfl) rfl rfl) (JL_1 rfl (op_conv (Ev.rfl' rfl) rfl rfl convT) ?_)
  refine JL_1 rfl (op_add (Ev.rfl' rfl) (Ev.rfl' rfl) wrapT) ?_
  refine JL_1 rfl (op_assign rfl) (JL_nil ?_)
  refine JQ_then (JC_ret ?_)
  refine JQ_ret1 Tryz.results91 rfl () (SubL.eq ?_) (List.nil_sublist _)
  rfl
-- math/bits.Len: function 66
theorem Len_2 : FnP Tryz.prog 66 [Is (.int .u64 2)] (Is (.int .i64 2)) := by
  refine FnP.enter Tryz.func66 Tryz.ntmps66 rfl rfl ?_
  intro c hX
  refine JC_seq (JC_region (JL_1 rfl (op_assign rfl) (JL_nil ?_)))
  refine JQ_then (JC_seq ?_)
  refine JC_cond (Ev.rfl' rfl) (fun h0 => ?_) (fun h0 => ?_)
  · exact absurd h0 (by simp)
  refine JC_skip (JQ_then (JC_seq ?_))
  refine JC_region (JL_1 rfl (op_move rfl) (JL_1 rfl (op_call Tryz.call91 (Len64_2) ⟨evS, trivial⟩) ?_))
  refine JL_1 rfl (op_assign rfl) (JL_nil ?_)
  refine JQ_then (JC_ret ?_)
  refine JQ_ret1 Tryz.results66 rfl () (SubL.eq ?_) (List.nil_sublist _)
  rfl
-- math/bits.Len64: function 91
theorem Len64_3 : FnP Tryz.prog 91 [Is (.int .u64 3)] (Is (.int .i64 2)) := by
  refine FnP.enter Tryz.func91 Tryz.ntmps91 rfl rfl ?_
  intro c hX
  refine JC_seq (JC_region (JL_1 rfl (op_assign rfl) (JL_nil ?_)))
  refine JQ_then (JC_seq (JC_seq ?_))
  refine JC_region (JL_1 rfl (op_move rfl) (JL_1 rfl (op_geq (Ev.rfl' rfl) (Ev.rfl' rfl)) (JL_nil (JQ_then ?_))))
  refine JC_cond (Ev.rfl' rfl) (fun h1 => ?_) (fun h1 => ?_)
  · exact absurd (of_decide_eq_true h1) (by omega)
  refine JC_skip (JQ_then (JC_seq (JC_seq ?_)))
  refine JC_region (JL_1 rfl (op_move rfl) (JL_1 rfl (op_geq (Ev.rfl' rfl) (Ev.rfl' rfl)) (JL_nil (JQ_then ?_))))
  refine JC_cond (Ev.rfl' rfl) (fun h4 => ?_) (fun h4 => ?_)
  · exact absurd (of_decide_eq_true h4) (by omega)
  refine JC_skip (JQ_then (JC_seq (JC_seq ?_)))
  refine JC_region (JL_1 rfl (op_move rfl) (JL_1 rfl (op_geq (Ev.rfl' rfl) (Ev.rfl' rfl)) (JL_nil (JQ_then ?_))))
  refine JC_cond (Ev.rfl' rfl) (fun h7 => ?_) (fun h7 => ?_)
  · exact absurd (of_decide_eq_true h7) (by omega)
  refine JC_skip (JQ_then (JC_seq ?_))
  refine JC_region (JL_1 rfl (op_move rfl) (JL_1 rfl (op_move rfl) (JL_1 rfl (op_conv (Ev.rfl' rfl) rfl rfl convT) ?_)))
  refine JL_1 rfl (op_indexStr (k := 3) (b := 2) rfl (Ev.rfl' rfl) rfl rfl) (JL_1 rfl (op_conv (Ev.rfl' rfl) rfl rfl convT) ?_)
  refine JL_1 rfl (op_add (Ev.rfl' rfl) (Ev.rfl' rfl) wrapT) ?_
  refine JL_1 rfl (op_assign rfl) (JL_nil ?_)
  refine JQ_then (JC_ret ?_)
  refine JQ_ret1 Tryz.results91 rfl () (SubL.eq ?_) (List.nil_sublist _)
  rfl
-- math/bits.Len: function 66
theorem Len_3 : FnP Tryz.prog 66 [Is (.int .u64 3)] (Is (.int .i64 2)) := by
  refine FnP.enter Tryz.func66 Tryz.ntmps66 rfl rfl ?_
  intro c hX
  refine JC_seq (JC_region (JL_1 rfl (op_assign rfl) (JL_nil ?_)))
  refine JQ_then (JC_seq ?_)
  refine JC_cond (Ev.rfl' rfl) (fun h0 => ?_) (fun h0 => ?_)
  · exact absurd h0 (by simp)
  refine JC_skip (JQ_then (JC_seq ?_))
  refine JC_region (JL_1 rfl (op_move rfl) (JL_1 rfl (op_call Tryz.call91 (Len64_3) ⟨evS, trivial⟩) ?_))
  refine JL_1 rfl (op_assign rfl) (JL_nil ?_)
  refine JQ_then (JC_ret ?_)
  refine JQ_ret1 Tryz.results66 rfl () (SubL.eq ?_) (List.nil_sublist _)
  rfl
-- math/bits.Len64: function 91
theorem Len64_4 : FnP Tryz.prog 91 [Is (.int .u64 4)] (Is (.int .i64 3)) := by
  refine FnP.enter Tryz.func91 Tryz.ntmps91 rfl rfl ?_
  intro c hX
  refine JC_seq (JC_region (JL_1 rfl (op_assign rfl) (JL_nil ?_)))
  refine JQ_then (JC_seq (JC_seq ?_))
  refine JC_region (JL_1 rfl (op_move rfl) (JL_1 rfl (op_geq (Ev.rfl' rfl) (Ev.rfl' rfl)) (JL_nil (JQ_then ?_))))
  refine JC_cond (Ev.rfl' rfl) (fun h1 => ?_) (fun h1 => ?_)
  · exact absurd (of_decide_eq_true h1) (by omega)
  refine JC_skip (JQ_then (JC_seq (JC_seq ?_)))
  refine JC_region (JL_1 rfl (op_move rfl) (JL_1 rfl (op_geq (Ev.rfl' rfl) (Ev.rfl' rfl)) (JL_nil (JQ_then ?_))))
  refine JC_cond (Ev.rfl' rfl) (fun h4 => ?_) (fun h4 => ?_)
  · exact absurd (of_decide_eq_true h4) (by omega)
  refine JC_skip (JQ_then (JC_seq (JC_seq ?_)))
  refine JC_region (JL_1 rfl (op_move rfl) (JL_1 rfl (op_geq (Ev.rfl' rfl) (Ev.rfl' rfl)) (JL_nil (JQ_then ?_))))
  refine JC_cond (Ev.rfl' rfl) (fun h7 => ?_) (fun h7 => ?_)
  · exact absurd (of_decide_eq_true h7) (by omega)
  refine JC_skip (JQ_then (JC_seq ?_))
  refine JC_region (JL_1 rfl (op_move rfl) (JL_1 rfl (op_move rfl) (JL_1 rfl (op_conv (Ev.rfl' rfl) rfl rfl convT) ?_)))
  refine JL_1 rfl (op_indexStr (k := 4) (b := 3) rfl (Ev.rfl' rfl) rfl rfl) (JL_1 rfl (op_conv (Ev.rfl' rfl) rfl rfl convT) ?_)
  refine JL_1 rfl (op_add (Ev.rfl' rfl) (Ev.rfl' rfl) wrapT) ?_
  refine JL_1 rfl (op_assign rfl) (JL_nil ?_)
  refine JQ_then (JC_ret ?_)
  refine JQ_ret1 Tryz.results91 rfl () (SubL.eq ?_) (List.nil_sublist _)
  rfl
-- math/bits.Len: function 66
theorem Len_4 : FnP Tryz.prog 66 [Is (.int .u64 4)] (Is (.int .i64 3)) := by
  refine FnP.enter Tryz.func66 Tryz.ntmps66 rfl rfl ?_
  intro c hX
  refine JC_seq (JC_region (JL_1 rfl (op_assign rfl) (JL_nil ?_)))
  refine JQ_then (JC_seq ?_)
  refine JC_cond (Ev.rfl' rfl) (fun h0 => ?_) (fun h0 => ?_)
  · exact absurd h0 (by simp)
  refine JC_skip (JQ_then (JC_seq ?_))
  refine JC_region (JL_1 rfl (op_move rfl) (JL_1 rfl (op_call Tryz.call91 (Len64_4) ⟨evS, trivial⟩) ?_))
  refine JL_1 rfl (op_assign rfl) (JL_nil ?_)
  refine JQ_then (JC_ret ?_)
  refine JQ_ret1 Tryz.results66 rfl () (SubL.eq ?_) (List.nil_sublist _)
  rfl
/-- The number of bits of a small number. -/
def lenV : Nat → Int
  | 0 => 0
  | 1 => 1
  | 2 => 2
  | 3 => 2
  | _ => 3
theorem Len_small : ∀ n : Nat, n ≤ 4 → FnP Tryz.prog 66 [Is (.int .u64 (n : Nat))] (Is (.int .i64 (lenV n)))
  | 0, _ => Len_0
  | 1, _ => Len_1
  | 2, _ => Len_2
  | 3, _ => Len_3
  | 4, _ => Len_4
  | n + 5, h => absurd h (by omega)
-- slices.SortFunc[[]bodega/api.Page,bodega/api.Page]: function 63
set_option maxHeartbeats 1000000 in
theorem SortFunc_ok (xs : List Pg) (h : AscP xs) (hn : xs.length ≤ 4) : FnP Tryz.prog 63 [IsSl tPg xs, Is fNx] (IsTup []) := by
  have hL := Len_small xs.length hn
  refine FnP.enter Tryz.func63 Tryz.ntmps63 rfl rfl ?_
  intro c hX
  refine JC_seq (JC_region (JL_1 rfl (op_move rfl) (JL_1 rfl (by exact op_len (Ev.rfl' rfl) rfl) ?_)))
  refine JL_1 rfl (op_assign rfl) (JL_nil (JQ_then (JC_region (JL_1 rfl (op_move rfl) (JL_1 rfl (op_move rfl) (JL_1 rfl (op_move rfl) (JL_1 rfl (op_conv (Ev.rfl' rfl) rfl rfl (wU64 (by omega))) ?_)))))))
  refine JL_1 rfl (op_call Tryz.call66 (hL) ⟨evS, trivial⟩) ?_
  refine JL_1 rfl (op_move rfl) (JL_1 rfl (op_call Tryz.call80 (pdqN_ok xs h hn) ⟨evS, ⟨evS, ⟨evS, ⟨evS, ⟨evS, trivial⟩⟩⟩⟩⟩) ?_)
  refine JL_nil (JQ_end ?_)
  exact JQ_retP (Bs := []) Tryz.results63 trivial () SubL.rfl' lessT
end Go.Proofs.YtfkmbdpnjcgimaaGreat

/- Contracts: what an operation reads (all pages known, none locked). Own work. -/
namespace Go.Proofs.YtfkmbdpnjcgimaaGreat
open Go.RowKit
set_option linter.unusedVariables false
set_option linter.unusedSimpArgs false
set_option maxRecDepth 100000
/-- What was read: the epoch page, the epoch, the pages and the nodes by number. -/
structure Est where
  pg : Pg
  ep : BitVec 32
  b1 : Nat
  b2 : Nat
def tEst : Ty Est := ⟨12, fun s => [Is (.int .i64 s.pg.l), Is (.int .u64 (UV s.pg.h)), Is (.int .u64 (UV s.pg.d0)), Is (.int .u64 (UV s.pg.d1)), Is (.int .u64 (UV s.pg.d2)), Is (.int .u64 (UV s.pg.d3)), Is (.int .u64 (UV s.pg.d4)), Is (.int .u64 (UV s.pg.d5)), Is (.int .u64 (UV s.pg.d6)), Is (.int .u32 (UV s.ep)), Is (.map (some s.b1)), Is (.map (some s.b2))], fun _ => rfl⟩
@[reducible] def IsEst (s : Est) : VP := IsAgg (tEst.cells s)
structure Eout where
  code : Int
  ep : BitVec 32
  blk : Int
  freed : List Pt
  check : List Int
def tEout : Ty Eout := ⟨5, fun o => [Is (.int .i64 o.code), Is (.int .u32 (UV o.ep)), Is (.int .i64 o.blk), IsSl tPt o.freed, IsSl tI64 o.check], fun _ => rfl⟩
@[reducible] def IsEout (o : Eout) : VP := IsAgg (tEout.cells o)
def stP (o : Eop) (ks : List Pg) (k : Nat) : Pg := if hasE o = true ∧ 1 ≤ k then latP ks 97 else Pg.nil
def stE (o : Eop) (g : BitVec 32) (k : Nat) : BitVec 32 := if hasE o = true ∧ 1 ≤ k then g else 0#32
def mpF {α : Type} (f : Int → α) (l : List Int) : List (Int × α) := l.foldl (fun m c => mput m c (f c)) []
theorem mpF_snoc {α : Type} (f : Int → α) (l : List Int) (c : Int) : mpF f (l ++ [c]) = mput (mpF f l) c (f c) := by
  unfold mpF
  rw [List.foldl_append]
  rfl
theorem mpF_nil {α : Type} (f : Int → α) : mpF f [] = [] := rfl
theorem pgM_snoc (ks : List Pg) (l : List Int) (c : Int) : mpF (fun c => latP ks (98 + c)) (l ++ [c]) = mput (mpF (fun c => latP ks (98 + c)) l) c (latP ks (98 + c)) := mpF_snoc _ l c
def cK (o : Eop) (k : Nat) : List Int := (nodesV o).take (k - (if hasE o = true then 1 else 0))
theorem linE_at {o : Eop} {k : Nat} {x : Int} (h : (linV o)[k]? = some x) : (hasE o = true ∧ k = 0 ∧ x = 97) ∨ (∃ c, c ∈ nodesV o ∧ x = 98 + c ∧ cK o (k + 1) = cK o k ++ [c] ∧ (hasE o = true → 1 ≤ k)) := by
  unfold linV at h
  unfold cK
  by_cases g : hasE o = true
  · rw [if_pos g] at h ⊢
    match k with
    | 0 => left; simp at h; exact ⟨g, rfl, h.symm⟩
    | k + 1 =>
      right
      rw [List.getElem?_append_right (by simp), List.getElem?_map] at h
      simp only [List.length_cons, List.length_nil, Nat.add_sub_cancel, Option.map_eq_some_iff] at h
      obtain ⟨c, h1, h2⟩ := h
      refine ⟨c, List.mem_of_getElem? h1, h2.symm, ?_, fun _ => by omega⟩
      rw [show k + 1 + 1 - 1 = k + 1 by omega, show k + 1 - 1 = k by omega, List.take_add_one, h1]
      rfl
  · rw [if_neg g] at h ⊢
    right
    rw [List.nil_append, List.getElem?_map, Option.map_eq_some_iff] at h
    obtain ⟨c, h1, h2⟩ := h
    refine ⟨c, List.mem_of_getElem? h1, h2.symm, ?_, fun e => absurd e g⟩
    rw [show k + 1 - 0 = k + 1 by omega, show k - 0 = k by omega, List.take_add_one, h1]
    rfl
theorem cK_0 (o : Eop) : cK o 0 = [] := by unfold cK; simp
theorem cK_all (o : Eop) : cK o (linV o).length = nodesV o := by
  unfold cK linV
  rw [List.length_append, List.length_map]
  apply List.take_of_length_le
  split <;> simp
theorem linE_pos (o : Eop) : 1 ≤ (linV o).length := by
  unfold linV
  rw [List.length_append, List.length_map]
  have : 1 ≤ (nodesV o).length := by
    unfold nodesV
    split
    · simp
    · split
      · decide
      · simp
  omega
theorem nodesE_len (o : Eop) : (nodesV o).length ≤ 6 := by
  unfold nodesV
  split
  · simp
  · split
    · decide
    · simp
theorem linE_len (o : Eop) : (linV o).length ≤ 7 := by
  unfold linV
  rw [List.length_append, List.length_map]
  have := nodesE_len o
  split <;> simp <;> omega
/-- What is known of the pages that the operation o reads. -/
structure Rdy (o : Eop) (ks : List Pg) (g : BitVec 32) (N : Int → Nd) : Prop where
  rng : ∀ c, c ∈ nodesV o → 0 ≤ c ∧ c < 6
  lat : ∀ x, x ∈ linV o → latB ks x = true ∧ lockB (latP ks x) = false
  ep : hasE o = true → readE (latP ks 97) = (g, 0)
  nd : ∀ c, c ∈ nodesV o → readN (latP ks (98 + c)) = (N c, 0)
@[reducible] def pgM (o : Eop) (ks : List Pg) (k : Nat) : List (Int × Pg) := mpF (fun c => latP ks (98 + c)) (cK o k)
@[reducible] def ndM (o : Eop) (N : Int → Nd) (k : Nat) : List (Int × Nd) := mpF N (cK o k)
-- (epoch.Op).read: function 57
set_option maxHeartbeats 2000000 in
theorem readS_ok (o : Eop) (ks : List Pg) (g : BitVec 32) (N : Int → Nd) (h : Rdy o ks g N) : Fn Tryz.prog 57 [IsEop o, IsSl tPg ks] []
    (fun b : Nat × Nat => IsTup [IsEst ⟨stP o ks (linV o).length, stE o g (linV o).length, b.1, b.2⟩, Is (.slice none 0 0), Is (.int .i64 (-1)), Is (.int .i64 0)])
    (fun b => [mp b.1 IsPg (pgM o ks (linV o).length), mp b.2 IsNd (ndM o N (linV o).length)]) := by
  have hlen := linE_len o
  refine Fn.enterN Tryz.func57 Tryz.ntmps57 rfl rfl ?_
  intro c hX
  refine JC_seq (JC_region ?_)
  (refine JL_n rfl (op_box (Ev.rfl' rfl) cellsT) ?_; intro i2)
  (refine JL_n rfl (op_allocN rfl nrmT rfl) ?_; intro i4)
  refine JL_1 rfl (op_assign rfl) (JL_1 rfl (op_assign rfl) (JL_1 rfl (op_assign rfl) (JL_nil ?_)))
  refine JQ_then (JC_seq ?_)
  refine JC_region ?_
  (refine JL_n rfl (op_makeMap IsPg) ?_; intro i17)
  (refine JL_n rfl (op_makeMap IsNd) ?_; intro i18)
  refine JL_1 rfl (op_buildN (qs := [(2, _), (3, _)]) rfl rfl rfl rfl ⟨⟨rfl, _, (Ev.rfl' rfl), cellsT⟩, ⟨⟨rfl, _, (Ev.rfl' rfl), cellsT⟩, trivial⟩⟩ (by rfl) nrmT) ?_
  refine JL_s0 (op_storeN (Ev.rfl' rfl) (Ev.rfl' rfl) cellsT replT nrmT (by rfl) (by rfl) (by rfl)) ?_
  refine JL_nil ?_
  refine JQ_then (JC_seq (JC_seq ?_))
  refine JC_region (JL_1 rfl (by exact op_loadPtrsN (n := 6) (Ev.rfl' rfl) memT (by rfl) (by rfl) (by rfl) (by rfl) nrmT) ?_)
  refine JL_1 rfl (op_call Tryz.call72 (lines_ok o h.rng) ⟨evS, trivial⟩) ?_
  refine JL_1 rfl (by exact op_len (Ev.rfl' rfl) rfl) ?_
  refine JL_1 rfl (op_move rfl) (JL_nil ?_)
  refine JQ_then (JC_block ?_)
  refine JC_loopP (fun k : Nat => k ≤ (linV o).length) (fun k => [(1, IsSl tPg ks), (2, Is (.pointer (some ⟨i2, 0, none⟩))), (4, Is (.pointer (some ⟨i4, 0, none⟩))), (5, Is (.slice none 0 0)), (21, IsSl tI64 (linV o)), (22, Is (.int .i64 ((linV o).length : Nat))), (23, Is (.int .i64 (k : Nat)))]) (fun _ => [blk i2 85 (tEop.cells o), blk i4 131 (tEst.cells ⟨Pg.nil, 0#32, i17, i18⟩), mp i17 IsPg [], mp i18 IsNd []]) (fun k => (linV o).length - k) 0 (Nat.zero_le _) esubT lessT ?_
  intro k hk
  refine JC_seq (JC_region (JL_1 rfl (op_lss (Ev.rfl' rfl) (Ev.rfl' rfl)) (JL_nil ?_)))
  refine JQ_then (JC_seq ?_)
  refine JC_cond (Ev.rfl' rfl) (fun h3 => ?_) (fun h3 => ?_)
  · have hlt : k < (linV o).length := by have := of_decide_eq_true h3; omega
    clear h3
    obtain ⟨x, hx⟩ : ∃ x, (linV o)[k]? = some x := ⟨_, List.getElem?_eq_getElem hlt⟩
    obtain ⟨hl1, hl2⟩ := h.lat x (List.mem_of_getElem? hx)
    have hlat := LatestP_ok ks x
    rw [hl1] at hlat
    refine JC_skip (JQ_then (JC_seq (JC_block (JC_seq ?_))))
    refine JC_region (JL_1 rfl (by exact op_index (j := k) (Ev.rfl' rfl) (Ev.rfl' rfl) rfl rfl (by rfl) hx) ?_)
    refine JL_1 rfl (by exact op_loadRef (Ev.rfl' rfl) rfl rfl rfl) ?_
    refine JL_1 rfl (op_assign rfl) (JL_nil ?_)
    refine JQ_then (JC_seq ?_)
    refine JC_region (JL_1 rfl (op_move rfl) (JL_1 rfl (op_move rfl) (JL_1 rfl (op_call Tryz.call37 (hlat) ⟨evS, ⟨evS, trivial⟩⟩) ?_)))
    refine JL_1 rfl (op_move rfl) (JL_1 rfl (op_extract (Ev.rfl' rfl) rfl) (JL_1 rfl (op_extract (Ev.rfl' rfl) rfl) ?_))
    (refine JL_n rfl (op_allocN rfl nrmT rfl) ?_; intro i10)
    refine JL_s0 (op_storeN (Ev.rfl' rfl) (Ev.rfl' rfl) cellsT replT nrmT (by rfl) (by rfl) (by rfl)) ?_
    refine JL_1 rfl (op_assign rfl) (JL_nil ?_)
    refine JQ_then (JC_seq ?_)
    refine JC_region (JL_1 rfl (op_move rfl) (JL_1 rfl (op_not (Ev.rfl' rfl)) (JL_nil (JQ_then ?_))))
    refine JC_cond (Ev.rfl' rfl) (fun h6 => ?_) (fun h6 => ?_)
    · exact absurd h6 (by simp)
    clear h6
    refine JC_skip (JQ_block (JQ_then ?_))
    refine JC_region (JL_1 rfl (op_add (Ev.rfl' rfl) (Ev.rfl' rfl) wrapT) ?_)
    refine JL_1 rfl (op_move rfl) (JL_nil ?_)
    exact JQ_roundP (k + 1) (by omega) (by omega) esubT lessT
  clear h3
  refine JC_exit (JQ_then_exit (JQ_then_exit (JQ_hit (JQ_then (JC_seq (JC_seq ?_))))))
  refine JC_region (JL_1 rfl (op_move rfl) (JL_1 rfl (by exact op_lenLit (Ev.rfl' rfl) rfl) ?_))
  refine JL_1 rfl (op_gtr (Ev.rfl' rfl) (Ev.rfl' rfl)) (JL_nil (JQ_then ?_))
  refine JC_cond (Ev.rfl' rfl) (fun h9 => ?_) (fun h9 => ?_)
  · exact absurd h9 (by simp)
  clear h9
  refine JC_skip (JQ_then (JC_seq (JC_seq ?_)))
  refine JC_region (JL_1 rfl (by exact op_loadPtrsN (n := 6) (Ev.rfl' rfl) memT (by rfl) (by rfl) (by rfl) (by rfl) nrmT) ?_)
  refine JL_1 rfl (op_call Tryz.call72 (lines_ok o h.rng) ⟨evS, trivial⟩) ?_
  refine JL_1 rfl (by exact op_len (Ev.rfl' rfl) rfl) ?_
  refine JL_1 rfl (op_move rfl) (JL_nil ?_)
  refine JQ_then (JC_block ?_)
  refine JC_loopP (fun k : Nat => k ≤ (linV o).length) (fun k => [(1, IsSl tPg ks), (2, Is (.pointer (some ⟨i2, 0, none⟩))), (4, Is (.pointer (some ⟨i4, 0, none⟩))), (46, IsSl tI64 (linV o)), (47, Is (.int .i64 ((linV o).length : Nat))), (48, Is (.int .i64 (k : Nat)))]) (fun k => [blk i2 85 (tEop.cells o), blk i4 131 (tEst.cells ⟨stP o ks k, stE o g k, i17, i18⟩), mp i17 IsPg (pgM o ks k), mp i18 IsNd (ndM o N k)]) (fun k => (linV o).length - k) 0 (Nat.zero_le _) esubT (by unfold pgM ndM stP stE; rw [if_neg (by omega), if_neg (by omega), cK_0, mpF_nil, mpF_nil]; exact lessT) ?_
  intro k hk
  refine JC_seq (JC_region (JL_1 rfl (op_lss (Ev.rfl' rfl) (Ev.rfl' rfl)) (JL_nil ?_)))
  refine JQ_then (JC_seq ?_)
  refine JC_cond (Ev.rfl' rfl) (fun h12 => ?_) (fun h12 => ?_)
  · have hlt : k < (linV o).length := by have := of_decide_eq_true h12; omega
    clear h12
    obtain ⟨x, hx⟩ : ∃ x, (linV o)[k]? = some x := ⟨_, List.getElem?_eq_getElem hlt⟩
    obtain ⟨hl1, hl2⟩ := h.lat x (List.mem_of_getElem? hx)
    have hlat := LatestP_ok ks x
    rw [hl1] at hlat
    have hla := linE_at hx
    have hxr : 0 ≤ x ∧ x < 200 := by
      rcases hla with ⟨_, _, e⟩ | ⟨c, hc, e, _⟩
      · omega
      · have := h.rng c hc
        omega
    refine JC_skip (JQ_then (JC_seq (JC_block (JC_seq ?_))))
    refine JC_region (JL_1 rfl (by exact op_index (j := k) (Ev.rfl' rfl) (Ev.rfl' rfl) rfl rfl (by rfl) hx) ?_)
    refine JL_1 rfl (by exact op_loadRef (Ev.rfl' rfl) rfl rfl rfl) ?_
    refine JL_1 rfl (op_assign rfl) (JL_nil ?_)
    refine JQ_then (JC_seq ?_)
    refine JC_region (JL_1 rfl (op_move rfl) (JL_1 rfl (op_move rfl) (JL_1 rfl (op_call Tryz.call37 (hlat) ⟨evS, ⟨evS, trivial⟩⟩) ?_)))
    refine JL_1 rfl (op_move rfl) (JL_1 rfl (op_extract (Ev.rfl' rfl) rfl) (JL_1 rfl (op_extract (Ev.rfl' rfl) rfl) ?_))
    (refine JL_n rfl (op_allocN rfl nrmT rfl) ?_; intro i14)
    refine JL_s0 (op_storeN (Ev.rfl' rfl) (Ev.rfl' rfl) cellsT replT nrmT (by rfl) (by rfl) (by rfl)) ?_
    refine JL_1 rfl (op_assign rfl) (JL_nil ?_)
    refine JQ_then (JC_seq ?_)
    refine JC_region (JL_1 rfl (op_move rfl) (JL_1 rfl (op_sub (Ev.rfl' rfl) (Ev.rfl' rfl) wrapT) ?_))
    refine JL_1 rfl (op_assign rfl) (JL_nil ?_)
    refine JQ_then (JC_seq (JC_seq ?_))
    refine JC_region (JL_1 rfl (by exact op_loadPtrsN (n := 9) (Ev.rfl' rfl) memT (by rfl) (by rfl) (by rfl) (by rfl) nrmT) ?_)
    refine JL_1 rfl (op_call Tryz.call39 (LockedB_ok _) ⟨evS, trivial⟩) ?_
    refine JL_nil (JQ_then ?_)
    refine JC_cond (Ev.rfl' rfl) (fun h16 => ?_) (fun h16 => ?_)
    · exact absurd h16 (by rw [hl2]; simp)
    clear h16
    refine JC_skip (JQ_then (JC_seq (JC_seq ?_)))
    refine JC_region (JL_1 rfl (op_move rfl) (JL_1 rfl (op_eql (Ev.rfl' rfl) (Ev.rfl' rfl)) (JL_nil (JQ_then (JC_cutT (fun _ : Unit => True) (fun _ => [(1, IsSl tPg ks), (2, Is (.pointer (some ⟨i2, 0, none⟩))), (4, Is (.pointer (some ⟨i4, 0, none⟩))), (7, Is (.int .i64 0)), (46, IsSl tI64 (linV o)), (47, Is (.int .i64 ((linV o).length : Nat))), (48, Is (.int .i64 (k : Nat)))]) (fun _ => [blk i2 85 (tEop.cells o), blk i4 131 (tEst.cells ⟨stP o ks (k + 1), stE o g (k + 1), i17, i18⟩), mp i17 IsPg (pgM o ks (k + 1)), mp i18 IsNd (ndM o N (k + 1))]) ?_ ?_)))))
    rotate_left
    focus
      refine JC_cond (Ev.rfl' rfl) (fun h20 => ?_) (fun h20 => ?_)
      · have hx97 : x = 97 := by simpa using h20
        subst hx97
        have hE : hasE o = true ∧ k = 0 := by
          rcases hla with ⟨e1, e2, _⟩ | ⟨c, hc, e, _⟩
          · exact ⟨e1, e2⟩
          · have := h.rng c hc
            omega
        obtain ⟨hE, hk0⟩ := hE
        have hre := ReadEpoch_ok (latP ks 97)
        rw [h.ep hE] at hre
        (try dsimp only at hre)
        have e1 : stP o ks (k + 1) = latP ks 97 := by unfold stP; rw [if_pos ⟨hE, by omega⟩]
        have e2 : stE o g (k + 1) = g := by unfold stE; rw [if_pos ⟨hE, by omega⟩]
        have e3 : cK o (k + 1) = cK o k := by unfold cK; rw [if_pos hE, show k + 1 - 1 = k - 1 by omega]
        rw [e1, e2]
        unfold pgM ndM
        rw [e3]
        refine JC_seq (JC_region (JL_1 rfl (by exact op_loadPtrsN (n := 9) (Ev.rfl' rfl) memT (by rfl) (by rfl) (by rfl) (by rfl) nrmT) ?_))
        refine JL_1 rfl (by exact op_fieldPtr (k := 0) (Ev.rfl' rfl) rfl rfl rfl rfl) ?_
        refine JL_s0 (op_storeN (Ev.rfl' rfl) (Ev.rfl' rfl) cellsT replT nrmT (by rfl) (by rfl) (by rfl)) ?_
        refine JL_nil (JQ_then (JC_region (JL_1 rfl (by exact op_loadPtrsN (n := 9) (Ev.rfl' rfl) memT (by rfl) (by rfl) (by rfl) (by rfl) nrmT) ?_)))
        refine JL_1 rfl (op_call Tryz.call73 (hre) ⟨evS, trivial⟩) ?_
        refine JL_1 rfl (op_move rfl) (JL_1 rfl (op_extract (Ev.rfl' rfl) rfl) (JL_1 rfl (op_extract (Ev.rfl' rfl) rfl) (JL_1 rfl (by exact op_fieldPtr (k := 9) (Ev.rfl' rfl) rfl rfl rfl rfl) ?_)))
        refine JL_s0 (op_storeN (Ev.rfl' rfl) (Ev.rfl' rfl) cellsT replT nrmT (by rfl) (by rfl) (by rfl)) ?_
        refine JL_1 rfl (op_assign rfl) (JL_nil ?_)
        exact JQ_meetP () trivial esubT lessT
      have hx97 : ¬ x = 97 := by simpa using h20
      obtain ⟨cc, hc, he, hck, hk1⟩ : ∃ c, c ∈ nodesV o ∧ x = 98 + c ∧ cK o (k + 1) = cK o k ++ [c] ∧ (hasE o = true → 1 ≤ k) := by
        rcases hla with ⟨_, _, e⟩ | hh
        · exact absurd e hx97
        · exact hh
      have hrn := ReadNode_ok (latP ks x)
      rw [show readN (latP ks x) = (N cc, 0) by rw [he]; exact h.nd cc hc] at hrn
      (try dsimp only at hrn)
      have e1 : stP o ks (k + 1) = stP o ks k := by
        unfold stP
        by_cases g : hasE o = true
        · rw [if_pos ⟨g, by omega⟩, if_pos ⟨g, hk1 g⟩]
        · rw [if_neg (fun e => g e.1), if_neg (fun e => g e.1)]
      have e2 : stE o g (k + 1) = stE o g k := by
        unfold stE
        by_cases g' : hasE o = true
        · rw [if_pos ⟨g', by omega⟩, if_pos ⟨g', hk1 g'⟩]
        · rw [if_neg (fun e => g' e.1), if_neg (fun e => g' e.1)]
      have hxc : x - 98 = cc := by omega
      subst hxc
      rw [e1, e2]
      unfold pgM ndM
      rw [hck, pgM_snoc, mpF_snoc, show 98 + (x - 98) = x by omega]
      refine JC_seq (JC_region (JL_1 rfl (by exact op_fieldPtr (k := 10) (Ev.rfl' rfl) rfl rfl rfl rfl) ?_))
      refine JL_1 rfl (by exact op_loadPtr (Ev.rfl' rfl) memT (by rfl) (by rfl) (by rfl)) ?_
      refine JL_1 rfl (op_move rfl) (JL_1 rfl (by exact op_loadPtrsN (n := 9) (Ev.rfl' rfl) memT (by rfl) (by rfl) (by rfl) (by rfl) nrmT) ?_)
      refine JL_s0 (op_mapPut (V := IsPg) (v := (latP ks x)) (Ev.rfl' rfl) (Ev.rfl' rfl) evS replT rfl rfl) ?_
      refine JL_nil (JQ_then (JC_dr rfl (by kernel_rfl) ?_))
      refine JD_front (it := mp i18 IsNd _) (by repeat (first | exact Drop1.here _ _ | apply Drop1.next)) ?_
      refine JD_stretchG (its := [_]) 10 (by kernel_rfl) ?_
      refine JW_1 (by exact op_fieldPtr (k := 11) (Ev.rfl' rfl) rfl rfl rfl rfl) ?_
      refine JW_1 (by exact op_loadPtr (Ev.rfl' rfl) memT (by rfl) (by rfl) (by rfl)) ?_
      refine JW_1 (op_move rfl) (JW_1 (by exact op_loadPtrsN (n := 9) (Ev.rfl' rfl) memT (by rfl) (by rfl) (by rfl) (by rfl) nrmT) ?_)
      refine JW_1 (op_call Tryz.call8 (hrn) ⟨evS, trivial⟩) ?_
      refine JW_1 (op_move rfl) (JW_1 (op_extract (Ev.rfl' rfl) rfl) (JW_1 (op_extract (Ev.rfl' rfl) rfl) (JW_ghost (s := 99) rfl rfl rfl (by kernel_rfl) (fun c' => by exact op_mapPut (V := IsNd) (v := (N (x - 98))) (Ev.rfl' rfl) (Ev.rfl' rfl) evS replT rfl rfl) ?_)))
      refine JW_1 (op_assign rfl) ?_
      refine ⟨rfl, ?_⟩
      intro _
      refine JD_end ?_
      exact JQ_meetP () trivial esubT lessT
    rintro _ _
    refine JC_seq (JC_region (JL_1 rfl (op_move rfl) (JL_1 rfl (op_neq (Ev.rfl' rfl) (Ev.rfl' rfl)) (JL_nil (JQ_then ?_)))))
    refine JC_cond (Ev.rfl' rfl) (fun h25 => ?_) (fun h25 => ?_)
    · exact absurd h25 (by simp)
    clear h25
    refine JC_skip (JQ_block (JQ_then ?_))
    refine JC_region (JL_1 rfl (op_add (Ev.rfl' rfl) (Ev.rfl' rfl) wrapT) ?_)
    refine JL_1 rfl (op_move rfl) (JL_nil ?_)
    exact JQ_roundP (k + 1) (by omega) (by omega) esubT lessT
  have hke : k = (linV o).length := by have := of_decide_eq_false h12; omega
  clear h12
  subst hke
  refine JC_exit (JQ_then_exit (JQ_then_exit (JQ_hit (JQ_then (JC_seq ?_)))))
  refine JC_region (JL_1 rfl (by exact op_loadPtrsN (n := 12) (Ev.rfl' rfl) memT (by rfl) (by rfl) (by rfl) (by rfl) nrmT) ?_)
  refine JL_s0 (op_storeN (Ev.rfl' rfl) (Ev.rfl' rfl) cellsT replT nrmT (by rfl) (by rfl) (by rfl)) ?_
  refine JL_1 rfl (op_assign rfl) (JL_1 rfl (op_assign rfl) (JL_1 rfl (op_assign rfl) (JL_nil ?_)))
  refine JQ_then (JC_ret ?_)
  exact JQ_retP (Bs := [IsEst ⟨stP o ks (linV o).length, stE o g (linV o).length, i17, i18⟩, Is (.slice none 0 0), Is (.int .i64 (-1)), Is (.int .i64 0)]) Tryz.results57 ⟨⟨_, _, _, _, rfl, memT, rfl, .inr ⟨rfl, _, rfl, rfl, subT⟩⟩, ⟨⟨_, rfl, subT⟩, ⟨⟨_, rfl, subT⟩, ⟨⟨_, rfl, subT⟩, trivial⟩⟩⟩⟩ (i17, i18) SubL.rfl' lessT
end Go.Proofs.YtfkmbdpnjcgimaaGreat

/- Rules: a block stays as it is from here on, in a call that got own memory. Own work. -/
namespace Go.Proofs.YtfkmbdpnjcgimaaGreat
open Go.RowKit
set_option linter.unusedVariables false
set_option linter.unusedSimpArgs false
section
variable {P : Program} {c : Ctx} {A : Nat → Option VP} {L : List Item}
theorem HP.freezeBX {φ : Fz} {w : World} {b : Nat} {t : TypeId} {As : List VP} {L' : List Item} (hm : HP c φ L w) (hr : Repl L (blk b t As) (fact (.pointer (some ⟨b, 0, none⟩)) (IsRef As)) L') (hX : ∀ x, x ∈ c.X → x ∈ names L') : ∃ φ', Fle φ φ' ∧ HP c φ' L' w := by
  obtain ⟨vs, e1, f1, f2⟩ := own_blk hm hr.mem
  have hit := hm.mem.items _ hr.mem
  have hown : ∀ i, φ b i = none := fun i => (hit.2 b rfl).2 i
  let φ' : Fz := fun b' i => if b' = b then vs[i]? else φ b' i
  have hsame : ∀ i, φ' b i = vs[i]? := fun i => if_pos rfl
  have hoth : ∀ b' i, b' ≠ b → φ' b' i = φ b' i := fun b' i h => if_neg h
  have hle : Fle φ φ' := fun b' i u hu => by
    rw [hoth b' i (fun e => by subst e; rw [hown i] at hu; cases hu)]; exact hu
  have hg0 : c.w.heap.size ≤ b := (hm.mine b (mem_names.2 ⟨_, hr.mem, rfl⟩)).resolve_right fun hx => by
    obtain ⟨x, hx1, hx2⟩ := mem_names.1 (hX b hx)
    rcases hr.mem' hx1 with rfl | ⟨hx', hap⟩
    · cases hx2
    · exact (hap hm.mem.sep).1 b hx2 rfl
  refine ⟨φ', hle, ⟨⟨fun b' i u hu => ?_, fun x hx => ?_, hr.sep hm.mem.sep fun x hx _ _ => ⟨fun b _ (hb : none = some b) => (nomatch hb), fun b (hb : none = some b) => (nomatch hb)⟩⟩, hm.kept, fun b' hb => ?_, fun b' i hb => ?_⟩⟩
  · by_cases hbg : b' = b
    · subst hbg
      rw [hsame] at hu
      rw [cell_blk e1]; exact hu
    · rw [hoth b' i hbg] at hu
      exact hm.mem.base b' i u hu
  · rcases hr.mem' hx with rfl | ⟨hx', hap⟩
    · refine ⟨⟨b, 0, rfl, fun j B hB => ?_⟩, fun b (hb : none = some b) => (nomatch hb)⟩
      obtain ⟨u, h1, h2⟩ := f1.get hB
      exact ⟨u, by rw [hsame, Nat.zero_add]; exact h1, B.mono hle h2, f2 u (List.mem_of_getElem? h1)⟩
    · obtain ⟨h1, h2⟩ := hm.mem.items x hx'
      refine ⟨x.mono hle h1, fun b' hb => ⟨(h2 b' hb).1, fun i => ?_⟩⟩
      rw [hoth b' i (fun e => (hap hm.mem.sep).1 b' hb (by rw [e]; rfl))]
      exact (h2 b' hb).2 i
  · obtain ⟨x, hx, hxb⟩ := mem_names.1 hb
    rcases hr.mem' hx with rfl | ⟨hx', _⟩
    · cases hxb
    · exact hm.mine b' (mem_names.2 ⟨x, hx', hxb⟩)
  · rw [hoth b' i (by omega)]
    exact hm.old b' i hb
variable {Q : Exit → Act → World → Prop} {N : Nat} {E : Env} {b : Nat} {t : TypeId} {As : List VP} {L' : List Item}
theorem JC_freezeBX {x : Code} (hr : Repl L (blk b t As) (fact (.pointer (some ⟨b, 0, none⟩)) (IsRef As)) L') (hX : ∀ x, x ∈ c.X → x ∈ names L') (h : JC P c N x E L' Q) : JC P c N x E L Q := fun φ a w st =>
  let ⟨φ', h1, h2⟩ := HP.freezeBX st.mem hr hX
  h φ' a w ⟨st.defers, st.size, fun t B hB => B.mono h1 (st.env t B hB), h2⟩
end
theorem names_nil {M : List Item} : ∀ b, b ∈ names ([] : List Item) → b ∈ names M := fun b hb => by simp [names] at hb
theorem names_cons {x : Item} {L M : List Item} (h : ∃ z, z ∈ M ∧ z.at_ = x.at_) (h2 : ∀ b, b ∈ names L → b ∈ names M) : ∀ b, b ∈ names (x :: L) → b ∈ names M := fun b hb => by
  obtain ⟨it, h3, h4⟩ := mem_names.1 hb
  rcases List.mem_cons.1 h3 with rfl | h3
  · obtain ⟨z, h5, h6⟩ := h
    exact mem_names.2 ⟨z, h5, h6.trans h4⟩
  · exact h2 b (mem_names.2 ⟨it, h3, h4⟩)
theorem namesT {X : List Nat} {L M : List Item} {p : Prop} (hX : X = names L ∧ p) (h : ∀ b, b ∈ names L → b ∈ names M := by
    (repeat (refine names_cons (by first
      | exact ⟨_, .head _, rfl⟩ | exact ⟨_, .tail _ (.head _), rfl⟩ | exact ⟨_, .tail _ (.tail _ (.head _)), rfl⟩ | exact ⟨_, .tail _ (.tail _ (.tail _ (.head _))), rfl⟩
      | exact ⟨_, .tail _ (.tail _ (.tail _ (.tail _ (.head _)))), rfl⟩ | exact ⟨_, .tail _ (.tail _ (.tail _ (.tail _ (.tail _ (.head _))))), rfl⟩ | exact ⟨_, .tail _ (.tail _ (.tail _ (.tail _ (.tail _ (.tail _ (.head _)))))), rfl⟩
      | exact ⟨_, .tail _ (.tail _ (.tail _ (.tail _ (.tail _ (.tail _ (.tail _ (.head _))))))), rfl⟩
      | exact ⟨_, .tail _ (.tail _ (.tail _ (.tail _ (.tail _ (.tail _ (.tail _ (.tail _ (.head _)))))))), rfl⟩
      | exact ⟨_, .tail _ (.tail _ (.tail _ (.tail _ (.tail _ (.tail _ (.tail _ (.tail _ (.tail _ (.head _))))))))), rfl⟩
      | exact ⟨_, .tail _ (.tail _ (.tail _ (.tail _ (.tail _ (.tail _ (.tail _ (.tail _ (.tail _ (.tail _ (.head _)))))))))), rfl⟩
      | exact ⟨_, .tail _ (.tail _ (.tail _ (.tail _ (.tail _ (.tail _ (.tail _ (.tail _ (.tail _ (.tail _ (.tail _ (.head _))))))))))), rfl⟩) ?_)); exact names_nil) : ∀ b, b ∈ X → b ∈ names M := fun b hb => h b (by rw [← hX.1]; exact hb)
end Go.Proofs.YtfkmbdpnjcgimaaGreat

/- Contracts: pages written, pins. Own work. -/
namespace Go.Proofs.YtfkmbdpnjcgimaaGreat
open Go.RowKit
set_option linter.unusedVariables false
set_option linter.unusedSimpArgs false
set_option maxRecDepth 100000
-- (epoch.state).write: function 74
set_option maxHeartbeats 1000000 in
theorem writeS_ok (s : Est) (n : Nd) (l : List (Int × Pg)) (c0 : Int) (p : Pg) (hmg : mget l c0 = some p) : Fn Tryz.prog 74 [IsEst s, Is (.int .i64 c0), IsNd n] [mp s.b1 IsPg l] (fun _ : Unit => IsSl tPg [(writeN p n).1]) (fun _ => [mp s.b1 IsPg l]) := by
  refine Fn.enterN Tryz.func74 Tryz.ntmps74 rfl rfl ?_
  intro c hX
  refine JC_seq (JC_region ?_)
  (refine JL_n rfl (op_box (Ev.rfl' rfl) cellsT) ?_; intro i3)
  (refine JL_n rfl (op_box (Ev.rfl' rfl) cellsT) ?_; intro i5)
  refine JL_1 rfl (op_assign rfl) (JL_nil ?_)
  refine JQ_then (JC_seq ?_)
  refine JC_region (JL_1 rfl (by exact op_fieldPtr (k := 10) (Ev.rfl' rfl) rfl rfl rfl rfl) ?_)
  refine JL_1 rfl (by exact op_loadPtr (Ev.rfl' rfl) memT (by rfl) (by rfl) (by rfl)) ?_
  refine JL_1 rfl (op_move rfl) (JL_1 rfl (op_lookupS hmg (Ev.rfl' rfl) memT (Ev.rfl' rfl) rfl rfl rfl) ?_)
  refine JL_1 rfl (by exact op_loadPtrsN (n := 16) (Ev.rfl' rfl) memT (by rfl) (by rfl) (by rfl) (by rfl) nrmT) ?_
  refine JL_1 rfl (op_call Tryz.call33 (WriteNode_ok _ _) ⟨evS, ⟨evS, trivial⟩⟩) ?_
  refine JL_1 rfl (op_move rfl) (JL_1 rfl (op_extract (Ev.rfl' rfl) rfl) (JL_1 rfl (op_extract (Ev.rfl' rfl) rfl) ?_))
  (refine JL_n rfl (op_allocN rfl nrmT rfl) ?_; intro i7)
  refine JL_s0 (op_storeN (Ev.rfl' rfl) (Ev.rfl' rfl) cellsT replT nrmT (by rfl) (by rfl) (by rfl)) ?_
  refine JL_1 rfl (op_assign rfl) (JL_nil ?_)
  refine JQ_then (JC_seq ?_)
  refine JC_region (JL_1 rfl (by exact op_loadPtrsN (n := 9) (Ev.rfl' rfl) memT (by rfl) (by rfl) (by rfl) (by rfl) nrmT) ?_)
  refine JL_1 rfl (op_buildSlice (size := 9) (qs := [(0, _)]) rfl rfl rfl ⟨⟨rfl, _, (Ev.rfl' rfl), cellsT⟩, trivial⟩ (by rfl) (by rfl)) ?_
  refine JL_1 rfl (op_assign rfl) (JL_nil ?_)
  refine JQ_then (JC_ret ?_)
  exact JQ_ret1 Tryz.results74 rfl () (SubL.row (xs := [(writeN p n).1]) (by rfl) (by rfl) subsT) (by repeat (first | exact List.Sublist.refl _ | apply List.Sublist.cons))
theorem row97 : ∀ φ v, (IsRow 1 1 [Is (.int .i64 97)]).ok φ v → (IsSl tI64 [97]).ok φ v := fun φ v h => SubL.row (L := []) (T := tI64) (xs := [(97 : Int)]) (As := [Is (.int .i64 97)]) (by rfl) (by rfl) (show SubLs [] [Is (.int .i64 97)] [Is (.int .i64 97)] from ⟨SubL.rfl', trivial⟩) φ v (fun _ hx => nomatch hx) h
def pinN (n : Nd) (g : BitVec 32) (inc : Int) : Nd := { n with pin := true, ep := g, inc := inc }
def pinE (s : Est) (o : Eop) (n : Nd) (p : Pg) : List Pg × Eout := if (n.pin && (n.inc == o.inc)) = true then ([], ⟨17, 0#32, 0, [], []⟩) else ([(writeN p (pinN n s.ep o.inc)).1], ⟨0, s.ep, 0, [], [97]⟩)
-- (epoch.state).pin: function 58
set_option maxHeartbeats 1000000 in
theorem pin_ok (s : Est) (o : Eop) (l : List (Int × Pg)) (ln : List (Int × Nd)) (n : Nd) (p : Pg) (hmp : mget l o.client = some p) (hmn : mget ln o.client = some n) : Fn Tryz.prog 58 [IsEst s, IsEop o] [mp s.b1 IsPg l, mp s.b2 IsNd ln]
    (fun _ : Unit => IsTup [IsSl tPg (pinE s o n p).1, IsEout (pinE s o n p).2]) (fun _ => [mp s.b1 IsPg l, mp s.b2 IsNd ln]) := by
  refine Fn.enterN Tryz.func58 Tryz.ntmps58 rfl rfl ?_
  intro c hX
  refine JC_seq (JC_region ?_)
  (refine JL_n rfl (op_box (Ev.rfl' rfl) cellsT) ?_; intro i2)
  (refine JL_n rfl (op_box (Ev.rfl' rfl) cellsT) ?_; intro i3)
  refine JL_1 rfl (op_assign rfl) ?_
  (refine JL_n rfl (op_allocN rfl nrmT rfl) ?_; intro i5)
  refine JL_nil ?_
  refine JQ_then (JC_seq ?_)
  refine JC_region (JL_1 rfl (by exact op_fieldPtr (k := 11) (Ev.rfl' rfl) rfl rfl rfl rfl) ?_)
  refine JL_1 rfl (by exact op_loadPtr (Ev.rfl' rfl) memT (by rfl) (by rfl) (by rfl)) ?_
  refine JL_1 rfl (by exact op_fieldPtr (k := 1) (Ev.rfl' rfl) rfl rfl rfl rfl) ?_
  refine JL_1 rfl (by exact op_loadPtr (Ev.rfl' rfl) memT (by rfl) (by rfl) (by rfl)) ?_
  refine JL_1 rfl (op_lookupS hmn (Ev.rfl' rfl) memT (Ev.rfl' rfl) rfl rfl rfl) ?_
  (refine JL_n rfl (op_allocN rfl nrmT rfl) ?_; intro i6)
  refine JL_s0 (op_storeN (Ev.rfl' rfl) (Ev.rfl' rfl) cellsT replT nrmT (by rfl) (by rfl) (by rfl)) ?_
  refine JL_nil ?_
  refine JQ_then (JC_seq (JC_seq ?_))
  refine JC_region (JL_1 rfl (by exact op_fieldPtr (k := 0) (Ev.rfl' rfl) rfl rfl rfl rfl) ?_)
  refine JL_1 rfl (by exact op_loadPtr (Ev.rfl' rfl) memT (by rfl) (by rfl) (by rfl)) ?_
  refine JL_1 rfl (op_move rfl) ?_
  (refine JL_i0 rfl rfl rfl (fun hg => (by have hg0 := hg; (try simp at hg); exact op_fieldPtr (k := 3) evG rfl rfl rfl rfl)) ?_)
  (refine JL_i0 rfl rfl rfl (fun hg => (by have hg0 := hg; (try simp at hg); exact op_loadPtr evG memT (by rfl) (by rfl) (by rfl))) ?_)
  (refine JL_i0 rfl rfl rfl (fun hg => (by have hg0 := hg; (try simp at hg); exact op_fieldPtr (k := 2) evG rfl rfl rfl rfl)) ?_)
  (refine JL_i0 rfl rfl rfl (fun hg => (by have hg0 := hg; (try simp at hg); exact op_loadPtr evG memT (by rfl) (by rfl) (by rfl))) ?_)
  (refine JL_i0 rfl rfl rfl (fun hg => (by have hg0 := hg; (try simp at hg); exact op_eql evG evG)) ?_)
  refine JL_1 rfl (op_and (Ev.rfl' rfl) rfl (fun h => by exact SubL.iteT (by (rw [h]; rfl)) SubL.rfl')) ?_
  refine JL_nil (JQ_then ?_)
  refine JC_cond (Ev.rfl' rfl) (fun h2 => ?_) (fun h2 => ?_)
  · have e : pinE s o n p = ([], ⟨17, 0#32, 0, [], []⟩) := by unfold pinE; rw [if_pos h2]
    rw [e]
    refine JC_seq (JC_region (JL_1 rfl (op_buildN (qs := [(0, _)]) rfl rfl rfl rfl ⟨⟨rfl, _, (Ev.rfl' rfl), cellsT⟩, trivial⟩ (by rfl) nrmT) ?_))
    refine JL_1 rfl (op_assign rfl) (JL_s0 (op_storeN (Ev.rfl' rfl) (Ev.rfl' rfl) cellsT replT nrmT (by rfl) (by rfl) (by rfl)) ?_)
    refine JL_nil ?_
    refine JQ_then (JC_ret (JQ_then_ret ?_))
    exact JQ_retP (Bs := [IsSl tPg [], IsEout ⟨17, 0#32, 0, [], []⟩]) Tryz.results58 ⟨⟨_, rfl, subT⟩, ⟨⟨_, _, _, _, rfl, memT, rfl, .inr ⟨rfl, _, rfl, rfl, subT⟩⟩, trivial⟩⟩ () SubL.rfl' lessT
  have e : pinE s o n p = ([(writeN p (pinN n s.ep o.inc)).1], ⟨0, s.ep, 0, [], [97]⟩) := by unfold pinE; rw [if_neg (by rw [h2]; simp)]
  rw [e]
  refine JC_skip (JQ_then (JC_seq ?_))
  refine JC_dr rfl (by kernel_rfl) ?_
  refine JD_front (it := blk i6 44 _) (by repeat (exact Drop1.here _ _)) ?_
  refine JD_fl (its := [_]) (JF_1 0 rfl (by kernel_rfl) (by exact op_fieldPtr (k := 9) (Ev.rfl' rfl) rfl rfl rfl rfl) ?_)
  refine JF_1 1 rfl (by kernel_rfl) (by exact op_loadPtr (Ev.rfl' rfl) memT (by rfl) (by rfl) (by rfl)) ?_
  refine JF_1 2 rfl (by kernel_rfl) (by exact op_fieldPtr (k := 2) (Ev.rfl' rfl) rfl rfl rfl rfl) ?_
  refine JF_1 3 rfl (by kernel_rfl) (by exact op_loadPtr (Ev.rfl' rfl) memT (by rfl) (by rfl) (by rfl)) ?_
  refine JF_1 4 rfl (by kernel_rfl) (by exact op_fieldPtr (k := 0) (Ev.rfl' rfl) rfl rfl rfl rfl) ?_
  refine JF_g (s := 38) 5 rfl (by kernel_rfl) rfl (by kernel_rfl) (fun c' => by exact op_store (Ev.rfl' rfl) (Ev.rfl' rfl) cellsT replT (by rfl) (by rfl) (by rfl)) ?_
  refine JF_1 6 rfl (by kernel_rfl) (by exact op_fieldPtr (k := 1) (Ev.rfl' rfl) rfl rfl rfl rfl) ?_
  refine JF_g (s := 38) 7 rfl (by kernel_rfl) rfl (by kernel_rfl) (fun c' => by exact op_store (Ev.rfl' rfl) (Ev.rfl' rfl) cellsT replT (by rfl) (by rfl) (by rfl)) ?_
  refine JF_1 8 rfl (by kernel_rfl) (by exact op_fieldPtr (k := 3) (Ev.rfl' rfl) rfl rfl rfl rfl) ?_
  refine JF_g (s := 38) 9 rfl (by kernel_rfl) rfl (by kernel_rfl) (fun c' => by exact op_store (Ev.rfl' rfl) (Ev.rfl' rfl) cellsT replT (by rfl) (by rfl) (by rfl)) ?_
  refine JF_end (by kernel_rfl) rfl ?_
  intro _
  refine JQ_then (JC_seq ?_)
  refine JC_freezeBX (b := i2) replT (namesT hX) ?_
  refine JC_set 2 (IsRef (tEst.cells s)) rfl (SubL.fact memT) ?_
  refine JC_dr rfl (by kernel_rfl) ?_
  refine JD_fl (its := []) (JF_1 0 rfl (by kernel_rfl) (by exact op_loadRefsN (n := 12) (Ev.rfl' rfl) rfl rfl rfl (by rfl) nrmT) ?_)
  refine JF_1 1 rfl (by kernel_rfl) (by exact op_fieldPtr (k := 1) (Ev.rfl' rfl) rfl rfl rfl rfl) ?_
  refine JF_1 2 rfl (by kernel_rfl) (by exact op_loadPtr (Ev.rfl' rfl) memT (by rfl) (by rfl) (by rfl)) ?_
  refine JF_1 3 rfl (by kernel_rfl) (by exact op_loadPtrsN (n := 16) (Ev.rfl' rfl) memT (by rfl) (by rfl) (by rfl) (by rfl) nrmT) ?_
  refine JF_1f 5 rfl (by kernel_rfl) (fun _ => (op_fieldRefN (k := 9) (Rs := [Is (.int .u32 (UV s.ep)), Is (.map (some s.b1)), Is (.map (some s.b2))]) (Ev.rfl' rfl) rfl rfl rfl rfl rfl)) ?_
  refine JF_1f 6 rfl (by kernel_rfl) (fun _ => (op_loadRef (B := Is (.int .u32 (UV s.ep))) (Ev.rfl' rfl) rfl rfl rfl)) ?_
  refine JF_1f 7 rfl (by kernel_rfl) (fun _ => (OpP.sub (op_buildSlice (Rs := [Is (.int .i64 97)]) (size := 1) (qs := [(0, [Is (.int .i64 97)])]) rfl rfl rfl ⟨⟨rfl, _, (Ev.rfl' rfl), cellsT⟩, trivial⟩ (by rfl) (by rfl)) row97)) ?_
  refine JF_1f 8 rfl (by kernel_rfl) (fun _ => (op_buildN (qs := [(1, [Is (.int .u32 (UV s.ep))]), (4, [IsSl tI64 [97]])]) rfl rfl rfl rfl ⟨⟨rfl, _, (Ev.rfl' rfl), cellsT⟩, ⟨⟨rfl, _, (Ev.rfl' rfl), cellsT⟩, trivial⟩⟩ (by rfl) nrmT)) ?_
  (refine JF_b 4 [0, 1, 2, 3, 4] rfl (by kernel_rfl) (fun c' => by exact op_callM (Drops.cons drop1A (Drops.nil _)) Tryz.call74 (writeS_ok s (pinN n s.ep o.inc) l o.client p hmp) ⟨evS, ⟨evS, ⟨evS, trivial⟩⟩⟩) ?_; intro i33)
  refine JF_1 9 rfl (by kernel_rfl) (op_assign rfl) ?_
  refine JF_b0 10 [0, 1, 2, 3, 4, 5, 6, 7, 8, 9, 10] rfl (by kernel_rfl) (fun c' => by exact op_store (Ev.rfl' rfl) (Ev.rfl' rfl) cellsT replT (by rfl) (by rfl) (by rfl)) ?_
  refine JF_end (by kernel_rfl) rfl ?_
  refine JQ_then (JC_ret ?_)
  exact JQ_retP (Bs := [IsSl tPg [(writeN p (pinN n s.ep o.inc)).1], IsEout ⟨0, s.ep, 0, [], [97]⟩]) Tryz.results58 ⟨⟨_, rfl, subT⟩, ⟨⟨_, _, _, _, rfl, memT, rfl, .inr ⟨rfl, _, rfl, rfl, subT⟩⟩, trivial⟩⟩ () SubL.rfl' lessT
def unpN (n : Nd) : Nd := { n with pin := false, ep := 0#32 }
def unpE (same : Bool) (n : Nd) (p : Pg) : List Pg × Eout := if (!n.pin || !same) = true then ([], ⟨16, 0#32, 0, [], []⟩) else ([(writeN p (unpN n)).1], ⟨0, n.ep, 0, [], []⟩)
-- (epoch.state).unpin: function 59
set_option maxHeartbeats 1000000 in
theorem unpin_ok (s : Est) (c0 : Int) (same : Bool) (l : List (Int × Pg)) (ln : List (Int × Nd)) (n : Nd) (p : Pg) (hmp : mget l c0 = some p) (hmn : mget ln c0 = some n) : Fn Tryz.prog 59 [IsEst s, Is (.int .i64 c0), Is (.bool same)] [mp s.b1 IsPg l, mp s.b2 IsNd ln]
    (fun _ : Unit => IsTup [IsSl tPg (unpE same n p).1, IsEout (unpE same n p).2]) (fun _ => [mp s.b1 IsPg l, mp s.b2 IsNd ln]) := by
  refine Fn.enterN Tryz.func59 Tryz.ntmps59 rfl rfl ?_
  intro c hX
  refine JC_seq (JC_region ?_)
  (refine JL_n rfl (op_box (Ev.rfl' rfl) cellsT) ?_; intro i3)
  refine JL_1 rfl (op_assign rfl) ?_
  (refine JL_n rfl (op_allocN rfl nrmT rfl) ?_; intro i7)
  refine JL_nil ?_
  refine JQ_then (JC_seq ?_)
  refine JC_region (JL_1 rfl (by exact op_fieldPtr (k := 11) (Ev.rfl' rfl) rfl rfl rfl rfl) ?_)
  refine JL_1 rfl (by exact op_loadPtr (Ev.rfl' rfl) memT (by rfl) (by rfl) (by rfl)) ?_
  refine JL_1 rfl (op_move rfl) (JL_1 rfl (op_lookupS hmn (Ev.rfl' rfl) memT (Ev.rfl' rfl) rfl rfl rfl) ?_)
  (refine JL_n rfl (op_allocN rfl nrmT rfl) ?_; intro i8)
  refine JL_s0 (op_storeN (Ev.rfl' rfl) (Ev.rfl' rfl) cellsT replT nrmT (by rfl) (by rfl) (by rfl)) ?_
  refine JL_nil ?_
  refine JQ_then (JC_seq (JC_seq ?_))
  refine JC_region (JL_1 rfl (by exact op_fieldPtr (k := 0) (Ev.rfl' rfl) rfl rfl rfl rfl) ?_)
  refine JL_1 rfl (by exact op_loadPtr (Ev.rfl' rfl) memT (by rfl) (by rfl) (by rfl)) ?_
  refine JL_1 rfl (op_not (Ev.rfl' rfl)) (JL_1 rfl (op_move rfl) ?_)
  (refine JL_i0 rfl rfl rfl (fun hg => (by have hg0 := hg; (try simp at hg); exact op_moveE (Ev.rfl' rfl))) ?_)
  (refine JL_i0 rfl rfl rfl (fun hg => (by have hg0 := hg; (try simp at hg); exact op_not evG)) ?_)
  refine JL_1 rfl (op_or (Ev.rfl' rfl) rfl (fun h => by exact SubL.iteT (by (rw [h]; rfl)) SubL.rfl')) ?_
  refine JL_nil (JQ_then ?_)
  refine JC_cond (Ev.rfl' rfl) (fun h2 => ?_) (fun h2 => ?_)
  · have e : unpE same n p = ([], ⟨16, 0#32, 0, [], []⟩) := by unfold unpE; rw [if_pos h2]
    rw [e]
    refine JC_seq (JC_region (JL_1 rfl (op_buildN (qs := [(0, _)]) rfl rfl rfl rfl ⟨⟨rfl, _, (Ev.rfl' rfl), cellsT⟩, trivial⟩ (by rfl) nrmT) ?_))
    refine JL_1 rfl (op_assign rfl) (JL_s0 (op_storeN (Ev.rfl' rfl) (Ev.rfl' rfl) cellsT replT nrmT (by rfl) (by rfl) (by rfl)) ?_)
    refine JL_nil ?_
    refine JQ_then (JC_ret (JQ_then_ret ?_))
    exact JQ_retP (Bs := [IsSl tPg [], IsEout ⟨16, 0#32, 0, [], []⟩]) Tryz.results59 ⟨⟨_, rfl, subT⟩, ⟨⟨_, _, _, _, rfl, memT, rfl, .inr ⟨rfl, _, rfl, rfl, subT⟩⟩, trivial⟩⟩ () SubL.rfl' lessT
  have e : unpE same n p = ([(writeN p (unpN n)).1], ⟨0, n.ep, 0, [], []⟩) := by unfold unpE; rw [if_neg (by rw [h2]; simp)]
  rw [e]
  refine JC_skip (JQ_then (JC_seq ?_))
  refine JC_region (JL_1 rfl (by exact op_fieldPtr (k := 1) (Ev.rfl' rfl) rfl rfl rfl rfl) ?_)
  refine JL_1 rfl (by exact op_loadPtr (Ev.rfl' rfl) memT (by rfl) (by rfl) (by rfl)) ?_
  refine JL_1 rfl (op_buildN (qs := [(1, _)]) rfl rfl rfl rfl ⟨⟨rfl, _, (Ev.rfl' rfl), cellsT⟩, trivial⟩ (by rfl) nrmT) ?_
  (refine JL_n rfl (op_allocN rfl nrmT rfl) ?_; intro i9)
  refine JL_s0 (op_storeN (Ev.rfl' rfl) (Ev.rfl' rfl) cellsT replT nrmT (by rfl) (by rfl) (by rfl)) ?_
  refine JL_nil ?_
  refine JQ_then (JC_seq ?_)
  refine JC_region (JL_1 rfl (by exact op_fieldPtr (k := 0) (Ev.rfl' rfl) rfl rfl rfl rfl) ?_)
  refine JL_s0 (op_storeN (Ev.rfl' rfl) (Ev.rfl' rfl) cellsT replT nrmT (by rfl) (by rfl) (by rfl)) ?_
  refine JL_1 rfl (by exact op_fieldPtr (k := 1) (Ev.rfl' rfl) rfl rfl rfl rfl) ?_
  refine JL_s0 (op_storeN (Ev.rfl' rfl) (Ev.rfl' rfl) cellsT replT nrmT (by rfl) (by rfl) (by rfl)) ?_
  refine JL_nil ?_
  refine JQ_then (JC_seq ?_)
  refine JC_freezeBX (b := i9) replT (namesT hX) ?_
  refine JC_set 9 (IsRef [Is (.int .i64 0), Is (.int .u32 (UV n.ep)), Is (.int .i64 0), Is (.slice none 0 0), Is (.slice none 0 0)]) rfl (SubL.fact memT) ?_
  refine JC_dr rfl (by kernel_rfl) ?_
  refine JD_fl (its := []) (JF_1 0 rfl (by kernel_rfl) (by exact op_loadPtrsN (n := 12) (Ev.rfl' rfl) memT (by rfl) (by rfl) (by rfl) (by rfl) nrmT) ?_)
  refine JF_1 1 rfl (by kernel_rfl) (op_move rfl) ?_
  refine JF_1 2 rfl (by kernel_rfl) (by exact op_loadPtrsN (n := 16) (Ev.rfl' rfl) memT (by rfl) (by rfl) (by rfl) (by rfl) nrmT) ?_
  refine JF_1f 4 rfl (by kernel_rfl) (fun _ => (by exact op_loadRefsN (n := 5) (Ev.rfl' rfl) rfl rfl rfl (by rfl) nrmT)) ?_
  (refine JF_b 3 [0, 1, 2, 3] rfl (by kernel_rfl) (fun c' => by exact op_callM (Drops.cons drop1A (Drops.nil _)) Tryz.call74 (writeS_ok s (unpN n) l c0 p hmp) ⟨evS, ⟨evS, ⟨evS, trivial⟩⟩⟩) ?_; intro i30)
  refine JF_1 5 rfl (by kernel_rfl) (op_assign rfl) ?_
  refine JF_b0 6 [0, 1, 2, 3, 4, 5, 6] rfl (by kernel_rfl) (fun c' => by exact op_store (Ev.rfl' rfl) (Ev.rfl' rfl) cellsT replT (by rfl) (by rfl) (by rfl)) ?_
  refine JF_end (by kernel_rfl) rfl ?_
  refine JQ_then (JC_ret ?_)
  exact JQ_retP (Bs := [IsSl tPg [(writeN p (unpN n)).1], IsEout ⟨0, n.ep, 0, [], []⟩]) Tryz.results59 ⟨⟨_, rfl, subT⟩, ⟨⟨_, _, _, _, rfl, memT, rfl, .inr ⟨rfl, _, rfl, rfl, subT⟩⟩, trivial⟩⟩ () SubL.rfl' lessT
end Go.Proofs.YtfkmbdpnjcgimaaGreat

/- Contracts: the epoch goes on. Own work. -/
namespace Go.Proofs.YtfkmbdpnjcgimaaGreat
open Go.RowKit
set_option linter.unusedVariables false
set_option linter.unusedSimpArgs false
set_option maxRecDepth 100000
theorem wadd1 {e : BitVec 32} (h : ¬ UV e = 4294967295) : IntKind.u32.wrap (UV e + 1) = UV (e + 1#32) := by
  have h1 := UV_lt e
  have h2 := UV_nonneg e
  rw [wU32 ⟨by omega, by omega⟩]
  unfold UV at *
  rw [BitVec.toNat_add]
  simp at *
  omega
theorem six_at {k : Nat} (h : k < 6) : six[k]? = some (k : Int) := by
  match k, h with
  | 0, _ | 1, _ | 2, _ | 3, _ | 4, _ | 5, _ => rfl
def lagE (N : Int → Nd) (g : BitVec 32) (c : Int) : Bool := (N c).pin && (UV (N c).ep != UV g)
theorem find_first {α : Type} {f : α → Bool} {l : List α} {k : Nat} {x : α} (hx : l[k]? = some x) (h : ∀ y, y ∈ l.take k → f y = false) (hf : f x = true) : l.find? f = some x := by
  obtain ⟨hk, hxe⟩ := List.getElem?_eq_some_iff.1 hx
  have e : l = l.take k ++ x :: l.drop (k + 1) := by
    conv => lhs; rw [← List.take_append_drop k l]
    rw [List.drop_eq_getElem_cons hk, hxe]
  rw [e, List.find?_append, show (l.take k).find? f = none from List.find?_eq_none.2 (fun y hy => by rw [h y hy]; simp), List.find?_cons_of_pos hf]
  rfl
def advE (s : Est) (N : Int → Nd) : List Pg × Eout := match six.find? (lagE N s.ep) with
  | some c => ([], ⟨3, 0#32, c, [], []⟩)
  | none => ([(writeE s.pg (s.ep + 1#32)).1], ⟨0, s.ep + 1#32, 0, [], six.map (fun c => 98 + c)⟩)
-- (epoch.state).advance: function 60
set_option maxHeartbeats 2000000 in
theorem advance_ok (s : Est) (o : Eop) (N : Int → Nd) (ln : List (Int × Nd)) (hk3 : o.kind = 3) (hg : ¬ UV s.ep = 4294967295) (hmn : ∀ c, c ∈ six → mget ln c = some (N c)) : Fn Tryz.prog 60 [IsEst s, IsEop o] [mp s.b2 IsNd ln]
    (fun _ : Unit => IsTup [IsSl tPg (advE s N).1, IsEout (advE s N).2]) (fun _ => [mp s.b2 IsNd ln]) := by
  have hnv : nodesV o = six := by unfold nodesV; rw [if_neg (by omega), if_pos hk3]
  have hE : hasE o = true := by unfold hasE; rw [hk3]; rfl
  have hlv : linV o = 97 :: six.map (fun c => 98 + c) := by unfold linV; rw [if_pos hE, hnv]; rfl
  have hns := nodes_ok o
  rw [hnv] at hns
  have hls := lines_ok o (fun c hc => by rw [hnv] at hc; simp [six] at hc; omega)
  rw [hlv] at hls
  have hwa := wadd1 hg
  refine Fn.enterN Tryz.func60 Tryz.ntmps60 rfl rfl ?_
  intro c hX
  refine JC_seq (JC_region ?_)
  (refine JL_n rfl (op_box (Ev.rfl' rfl) cellsT) ?_; intro i2)
  (refine JL_n rfl (op_box (Ev.rfl' rfl) cellsT) ?_; intro i3)
  refine JL_1 rfl (op_assign rfl) ?_
  (refine JL_n rfl (op_allocN rfl nrmT rfl) ?_; intro i5)
  refine JL_nil ?_
  refine JQ_then (JC_seq (JC_seq ?_))
  refine JC_region (JL_1 rfl (by exact op_loadPtrsN (n := 6) (Ev.rfl' rfl) memT (by rfl) (by rfl) (by rfl) (by rfl) nrmT) ?_)
  refine JL_1 rfl (op_call Tryz.call75 (hns) ⟨evS, trivial⟩) ?_
  refine JL_1 rfl (by exact op_len (Ev.rfl' rfl) rfl) ?_
  refine JL_1 rfl (op_move rfl) (JL_nil ?_)
  refine JQ_then (JC_block ?_)
  refine JC_loopP (fun k : Nat => k ≤ 6 ∧ ∀ c, c ∈ six.take k → lagE N s.ep c = false) (fun k => [(2, Is (.pointer (some ⟨i2, 0, none⟩))), (3, Is (.pointer (some ⟨i3, 0, none⟩))), (5, Is (.pointer (some ⟨i5, 0, none⟩))), (12, IsSl tI64 six), (13, Is (.int .i64 (6 : Nat))), (14, Is (.int .i64 (k : Nat)))]) (fun k => [blk i2 131 (tEst.cells s), blk i3 85 (tEop.cells o), blk i5 81 [Is (.int .i64 0), Is (.int .u32 0), Is (.int .i64 0), Is (.slice none 0 0), Is (.slice none 0 0)], mp s.b2 IsNd ln]) (fun k => 6 - k) 0 ⟨Nat.zero_le _, fun c hc => by simp at hc⟩ esubT lessT ?_
  rintro k ⟨hk, hno⟩
  refine JC_seq (JC_region (JL_1 rfl (op_lss (Ev.rfl' rfl) (Ev.rfl' rfl)) (JL_nil ?_)))
  refine JQ_then (JC_seq ?_)
  refine JC_cond (Ev.rfl' rfl) (fun h2 => ?_) (fun h2 => ?_)
  · have hlt : k < 6 := by have := of_decide_eq_true h2; omega
    clear h2
    have hx := six_at hlt
    have hmk := hmn _ (List.mem_of_getElem? hx)
    refine JC_skip (JQ_then (JC_seq (JC_block (JC_seq ?_))))
    refine JC_region (JL_1 rfl (by exact op_index (j := k) (Ev.rfl' rfl) (Ev.rfl' rfl) rfl rfl (by rfl) hx) ?_)
    refine JL_1 rfl (by exact op_loadRef (Ev.rfl' rfl) rfl rfl rfl) ?_
    refine JL_1 rfl (op_assign rfl) (JL_nil ?_)
    refine JQ_then (JC_seq ?_)
    refine JC_region (JL_1 rfl (by exact op_fieldPtr (k := 11) (Ev.rfl' rfl) rfl rfl rfl rfl) ?_)
    refine JL_1 rfl (by exact op_loadPtr (Ev.rfl' rfl) memT (by rfl) (by rfl) (by rfl)) ?_
    refine JL_1 rfl (op_move rfl) (JL_1 rfl (op_lookupS hmk (Ev.rfl' rfl) memT (Ev.rfl' rfl) rfl rfl rfl) ?_)
    (refine JL_n rfl (op_allocN rfl nrmT rfl) ?_; intro i8)
    refine JL_s0 (op_storeN (Ev.rfl' rfl) (Ev.rfl' rfl) cellsT replT nrmT (by rfl) (by rfl) (by rfl)) ?_
    refine JL_nil ?_
    refine JQ_then (JC_seq ?_)
    refine JC_region (JL_1 rfl (by exact op_fieldPtr (k := 0) (Ev.rfl' rfl) rfl rfl rfl rfl) ?_)
    refine JL_1 rfl (by exact op_loadPtr (Ev.rfl' rfl) memT (by rfl) (by rfl) (by rfl)) ?_
    refine JL_1 rfl (op_move rfl) ?_
    (refine JL_i0 rfl rfl rfl (fun hg => (by have hg0 := hg; (try simp at hg); exact op_fieldPtr (k := 1) evG rfl rfl rfl rfl)) ?_)
    (refine JL_i0 rfl rfl rfl (fun hg => (by have hg0 := hg; (try simp at hg); exact op_loadPtr evG memT (by rfl) (by rfl) (by rfl))) ?_)
    (refine JL_i0 rfl rfl rfl (fun hg => (by have hg0 := hg; (try simp at hg); exact op_fieldPtr (k := 9) evG rfl rfl rfl rfl)) ?_)
    (refine JL_i0 rfl rfl rfl (fun hg => (by have hg0 := hg; (try simp at hg); exact op_loadPtr evG memT (by rfl) (by rfl) (by rfl))) ?_)
    (refine JL_i0 rfl rfl rfl (fun hg => (by have hg0 := hg; (try simp at hg); exact op_neq evG evG)) ?_)
    refine JL_1 rfl (op_and (Ev.rfl' rfl) rfl (fun h => by exact SubL.iteT (by (rw [h]; rfl)) SubL.rfl')) ?_
    refine JL_nil (JQ_then ?_)
    refine JC_cond (Ev.rfl' rfl) (fun h5 => ?_) (fun h5 => ?_)
    · have hb : lagE N s.ep (k : Int) = true := h5
      have e : advE s N = ([], ⟨3, 0#32, (k : Int), [], []⟩) := by unfold advE; rw [find_first hx hno hb]
      rw [e]
      refine JC_seq (JC_region (JL_1 rfl (op_move rfl) (JL_1 rfl (op_buildN (qs := [(0, _), (2, _)]) rfl rfl rfl rfl ⟨⟨rfl, _, (Ev.rfl' rfl), cellsT⟩, ⟨⟨rfl, _, (Ev.rfl' rfl), cellsT⟩, trivial⟩⟩ (by rfl) nrmT) ?_)))
      refine JL_1 rfl (op_assign rfl) (JL_s0 (op_storeN (Ev.rfl' rfl) (Ev.rfl' rfl) cellsT replT nrmT (by rfl) (by rfl) (by rfl)) ?_)
      refine JL_nil ?_
      refine JQ_then (JC_ret (JQ_block_ret (JQ_then_ret (JQ_then_ret (JQ_block_ret (JQ_then_ret ?_))))))
      exact JQ_retP (Bs := [IsSl tPg [], IsEout ⟨3, 0#32, (k : Int), [], []⟩]) Tryz.results60 ⟨⟨_, rfl, subT⟩, ⟨⟨_, _, _, _, rfl, memT, rfl, .inr ⟨rfl, _, rfl, rfl, subT⟩⟩, trivial⟩⟩ () SubL.rfl' lessT
    have hb : lagE N s.ep (k : Int) = false := h5
    refine JC_skip (JQ_block (JQ_then ?_))
    refine JC_region (JL_1 rfl (op_add (Ev.rfl' rfl) (Ev.rfl' rfl) wrapT) ?_)
    refine JL_1 rfl (op_move rfl) (JL_nil ?_)
    exact JQ_roundP (k + 1) ⟨by omega, fun c hc => by
      rw [List.take_add_one, hx] at hc
      rcases List.mem_append.1 hc with hc | hc
      · exact hno c hc
      · simp at hc; rw [hc]; exact hb⟩ (by omega) esubT lessT
  have hke : k = 6 := by have := of_decide_eq_false h2; omega
  clear h2
  subst hke
  have e : advE s N = ([(writeE s.pg (s.ep + 1#32)).1], ⟨0, s.ep + 1#32, 0, [], six.map (fun c => 98 + c)⟩) := by
    unfold advE
    rw [show six.find? (lagE N s.ep) = none from List.find?_eq_none.2 (fun y hy => by rw [hno y hy]; simp)]
  rw [e]
  refine JC_exit (JQ_then_exit (JQ_then_exit (JQ_hit (JQ_then (JC_seq (JC_seq ?_))))))
  refine JC_region (JL_1 rfl (by exact op_fieldPtr (k := 9) (Ev.rfl' rfl) rfl rfl rfl rfl) ?_)
  refine JL_1 rfl (by exact op_loadPtr (Ev.rfl' rfl) memT (by rfl) (by rfl) (by rfl)) ?_
  refine JL_1 rfl (op_eql (Ev.rfl' rfl) (Ev.rfl' rfl)) (JL_nil (JQ_then ?_))
  refine JC_cond (Ev.rfl' rfl) (fun h8 => ?_) (fun h8 => ?_)
  · exact absurd (by simpa using h8) hg
  refine JC_skip (JQ_then (JC_seq ?_))
  refine JC_region (JL_1 rfl (by exact op_fieldPtr (k := 0) (Ev.rfl' rfl) rfl rfl rfl rfl) ?_)
  refine JL_1 rfl (by exact op_loadPtrsN (n := 9) (Ev.rfl' rfl) memT (by rfl) (by rfl) (by rfl) (by rfl) nrmT) ?_
  refine JL_1 rfl (by exact op_fieldPtr (k := 9) (Ev.rfl' rfl) rfl rfl rfl rfl) ?_
  refine JL_1 rfl (by exact op_loadPtr (Ev.rfl' rfl) memT (by rfl) (by rfl) (by rfl)) ?_
  refine JL_1 rfl (op_add (Ev.rfl' rfl) (Ev.rfl' rfl) hwa) (JL_1 rfl (op_call Tryz.call76 (WriteEpoch_ok _ _) ⟨evS, ⟨evS, trivial⟩⟩) ?_)
  refine JL_1 rfl (op_move rfl) (JL_1 rfl (op_extract (Ev.rfl' rfl) rfl) (JL_1 rfl (op_extract (Ev.rfl' rfl) rfl) ?_))
  (refine JL_n rfl (op_allocN rfl nrmT rfl) ?_; intro i9)
  refine JL_s0 (op_storeN (Ev.rfl' rfl) (Ev.rfl' rfl) cellsT replT nrmT (by rfl) (by rfl) (by rfl)) ?_
  refine JL_1 rfl (op_assign rfl) (JL_nil ?_)
  refine JQ_then (JC_seq ?_)
  refine JC_dr rfl (by kernel_rfl) ?_
  refine JD_stretch 10 (by kernel_rfl) ?_
  refine JW_1 (by exact op_loadPtrsN (n := 9) (Ev.rfl' rfl) memT (by rfl) (by rfl) (by rfl) (by rfl) nrmT) ?_
  refine JW_1 (op_buildSlice (size := 9) (qs := [(0, _)]) rfl rfl rfl ⟨⟨rfl, _, (Ev.rfl' rfl), cellsT⟩, trivial⟩ (by rfl) (by rfl)) ?_
  refine JW_1 (by exact op_fieldPtr (k := 9) (Ev.rfl' rfl) rfl rfl rfl rfl) ?_
  refine JW_1 (by exact op_loadPtr (Ev.rfl' rfl) memT (by rfl) (by rfl) (by rfl)) ?_
  refine JW_1 (op_add (Ev.rfl' rfl) (Ev.rfl' rfl) hwa) (JW_1 (by exact op_loadPtrsN (n := 6) (Ev.rfl' rfl) memT (by rfl) (by rfl) (by rfl) (by rfl) nrmT) ?_)
  refine JW_1 (op_call Tryz.call72 (hls) ⟨evS, trivial⟩) ?_
  refine JW_1 (op_slice (Ev.rfl' rfl) rfl rfl ⟨_, _, (Ev.rfl' rfl), (show _ = ((1 : Nat) : Int) from rfl)⟩ rfl (by simp) (by exact Nat.le_refl _)) ?_
  refine JW_1 (op_buildN (qs := [(1, _), (4, _)]) rfl rfl rfl rfl ⟨⟨rfl, _, (Ev.rfl' rfl), cellsT⟩, ⟨⟨rfl, _, (Ev.rfl' rfl), cellsT⟩, trivial⟩⟩ (by rfl) nrmT) ?_
  refine JW_1 (op_assign rfl) ?_
  refine ⟨rfl, ?_⟩
  refine JD_s0 (by kernel_rfl) rfl (op_storeN (Ev.rfl' rfl) (Ev.rfl' rfl) cellsT replT nrmT (by rfl) (by rfl) (by rfl)) ?_
  refine JD_end ?_
  refine JQ_then (JC_ret ?_)
  exact JQ_retP (Bs := [IsSl tPg [(writeE s.pg (s.ep + 1#32)).1], IsEout ⟨0, s.ep + 1#32, 0, [], six.map (fun c => 98 + c)⟩]) Tryz.results60 ⟨⟨_, rfl, subT⟩, ⟨⟨_, _, _, _, rfl, memT, rfl, .inr ⟨rfl, _, rfl, rfl, subT⟩⟩, trivial⟩⟩ () SubL.rfl' lessT
end Go.Proofs.YtfkmbdpnjcgimaaGreat

/- Contracts: a page is retired. Own work. -/
namespace Go.Proofs.YtfkmbdpnjcgimaaGreat
open Go.RowKit
set_option linter.unusedVariables false
set_option linter.unusedSimpArgs false
set_option maxRecDepth 100000
def setR (n : Nd) (j : Nat) (r : Re) : Nd := match j with
  | 0 => { n with r0 := r }
  | 1 => { n with r1 := r }
  | 2 => { n with r2 := r }
  | 3 => { n with r3 := r }
  | _ => n
theorem ovr_setR (n : Nd) (r : Re) {k : Nat} (hk : k < 4) : ovr (tNd.cells n) (0 + 4 + k * 3) (tRe.cells r) = tNd.cells (setR n k r) := by
  match k, hk with
  | 0, _ | 1, _ | 2, _ | 3, _ => rfl
theorem ble_setR (n : Nd) {k : Nat} (hk : k < 4) : Nat.ble (0 + 4 + k * 3 + 3) (tNd.cells n).length = true := by
  match k, hk with
  | 0, _ | 1, _ | 2, _ | 3, _ => rfl
theorem idx_rj (n : Nd) {k : Nat} (hk : k < 4) : (((tNd.cells n).drop 4).drop (k * 3)).take 3 = tRe.cells (rj n k) := by
  match k, hk with
  | 0, _ | 1, _ | 2, _ | 3, _ => rfl
def cntR (n : Nd) : Nat → Nat
  | 0 => 0
  | k + 1 => cntR n k + if rj n k = Re.nil then 1 else 0
theorem cntR_le (n : Nd) : ∀ k, cntR n k ≤ k
  | 0 => Nat.le_refl _
  | k + 1 => by
    have := cntR_le n k
    unfold cntR
    split <;> omega
def firstR (n : Nd) : Nat := if n.r0 = Re.nil then 0 else if n.r1 = Re.nil then 1 else if n.r2 = Re.nil then 2 else if n.r3 = Re.nil then 3 else 4
theorem firstR_no (n : Nd) {i : Nat} (h : i < firstR n) : ¬ rj n i = Re.nil := by
  unfold firstR at h
  by_cases h0 : n.r0 = Re.nil
  · rw [if_pos h0] at h; omega
  rw [if_neg h0] at h
  by_cases h1 : n.r1 = Re.nil
  · rw [if_pos h1] at h
    match i, h with
    | 0, _ => exact h0
  rw [if_neg h1] at h
  by_cases h2 : n.r2 = Re.nil
  · rw [if_pos h2] at h
    match i, h with
    | 0, _ => exact h0
    | 1, _ => exact h1
  rw [if_neg h2] at h
  by_cases h3 : n.r3 = Re.nil
  · rw [if_pos h3] at h
    match i, h with
    | 0, _ => exact h0
    | 1, _ => exact h1
    | 2, _ => exact h2
  rw [if_neg h3] at h
  match i, h with
  | 0, _ => exact h0
  | 1, _ => exact h1
  | 2, _ => exact h2
  | 3, _ => exact h3
theorem firstR_yes (n : Nd) (h : firstR n < 4) : rj n (firstR n) = Re.nil := by
  by_cases h0 : n.r0 = Re.nil
  · rw [show firstR n = 0 by unfold firstR; rw [if_pos h0]]; exact h0
  by_cases h1 : n.r1 = Re.nil
  · rw [show firstR n = 1 by unfold firstR; rw [if_neg h0, if_pos h1]]; exact h1
  by_cases h2 : n.r2 = Re.nil
  · rw [show firstR n = 2 by unfold firstR; rw [if_neg h0, if_neg h1, if_pos h2]]; exact h2
  by_cases h3 : n.r3 = Re.nil
  · rw [show firstR n = 3 by unfold firstR; rw [if_neg h0, if_neg h1, if_neg h2, if_pos h3]]; exact h3
  · rw [show firstR n = 4 by unfold firstR; rw [if_neg h0, if_neg h1, if_neg h2, if_neg h3]] at h; omega
theorem firstR_le (n : Nd) : firstR n ≤ 4 := by
  unfold firstR
  repeat' split
  all_goals omega
theorem cntR_zero (n : Nd) : cntR n 4 < 1 ↔ firstR n = 4 := by
  show ((((0 + if n.r0 = Re.nil then 1 else 0) + if n.r1 = Re.nil then 1 else 0) + if n.r2 = Re.nil then 1 else 0) + if n.r3 = Re.nil then 1 else 0) < 1 ↔ _
  unfold firstR
  repeat' split
  all_goals omega
def retrE (s : Est) (n : Nd) (p : Pt) (pg : Pg) : List Pg × Eout := if firstR n = 4 then ([], ⟨12, 0#32, 0, [], []⟩) else ([(writeN pg (setR n (firstR n) ⟨p, s.ep⟩)).1], ⟨0, s.ep, 0, [], [97]⟩)
def restJ (p : Pt) (j k : Nat) : List Pt := if j < k then [] else [p]
def ndJ (n : Nd) (j : Nat) (r : Re) (k : Nat) : Nd := if j < k then setR n j r else n
-- (epoch.state).retire: function 61
set_option maxHeartbeats 4000000 in
theorem retire_ok (s : Est) (cl inc lns fr : Int) (p : Pt) (l : List (Int × Pg)) (ln : List (Int × Nd)) (n : Nd) (pg : Pg) (hmp : mget l cl = some pg) (hmn : mget ln cl = some n) (hno : ∀ j, j < 4 → ¬ rj n j = Re.nil → ¬ (rj n j).to = p) :
    Fn Tryz.prog 61 [IsEst s, IsEop ⟨4, cl, inc, lns, fr, [p]⟩] [mp s.b1 IsPg l, mp s.b2 IsNd ln]
    (fun _ : Unit => IsTup [IsSl tPg (retrE s n p pg).1, IsEout (retrE s n p pg).2]) (fun _ => [mp s.b1 IsPg l, mp s.b2 IsNd ln]) := by
  obtain ⟨j, hj⟩ : ∃ j, j = firstR n := ⟨_, rfl⟩
  have hp1 : ([p] : List Pt).length ≤ 1048576 := by simp
  have hj1 : ∀ i, i < j → ¬ rj n i = Re.nil := fun i h => firstR_no n (by rw [← hj]; exact h)
  have hj2 : j < 4 → rj n j = Re.nil := fun h => by rw [hj]; exact firstR_yes n (by rw [← hj]; exact h)
  have hj4 : j ≤ 4 := by rw [hj]; exact firstR_le n
  refine Fn.enterN Tryz.func61 Tryz.ntmps61 rfl rfl ?_
  intro c hX
  refine JC_seq (JC_region ?_)
  (refine JL_n rfl (op_box (Ev.rfl' rfl) cellsT) ?_; intro i2)
  (refine JL_n rfl (op_box (Ev.rfl' rfl) cellsT) ?_; intro i3)
  refine JL_1 rfl (op_assign rfl) ?_
  (refine JL_n rfl (op_allocN rfl nrmT rfl) ?_; intro i5)
  refine JL_nil ?_
  refine JQ_then (JC_seq ?_)
  refine JC_region (JL_1 rfl (by exact op_fieldPtr (k := 11) (Ev.rfl' rfl) rfl rfl rfl rfl) ?_)
  refine JL_1 rfl (by exact op_loadPtr (Ev.rfl' rfl) memT (by rfl) (by rfl) (by rfl)) ?_
  refine JL_1 rfl (by exact op_fieldPtr (k := 1) (Ev.rfl' rfl) rfl rfl rfl rfl) ?_
  refine JL_1 rfl (by exact op_loadPtr (Ev.rfl' rfl) memT (by rfl) (by rfl) (by rfl)) ?_
  refine JL_1 rfl (op_lookupS hmn (Ev.rfl' rfl) memT (Ev.rfl' rfl) rfl rfl rfl) ?_
  (refine JL_n rfl (op_allocN rfl nrmT rfl) ?_; intro i6)
  refine JL_s0 (op_storeN (Ev.rfl' rfl) (Ev.rfl' rfl) cellsT replT nrmT (by rfl) (by rfl) (by rfl)) ?_
  refine JL_nil ?_
  refine JQ_then (JC_seq ?_)
  refine JC_region (JL_1 rfl (op_assign rfl) (JL_nil ?_))
  refine JQ_then (JC_seq (JC_seq ?_))
  refine JC_region (JL_1 rfl (by exact op_fieldPtr (k := 4) (Ev.rfl' rfl) rfl rfl rfl rfl) ?_)
  refine JL_1 rfl (by exact op_loadPtrsN (n := 12) (Ev.rfl' rfl) memT (by rfl) (by rfl) (by rfl) (by rfl) nrmT) ?_
  refine JL_1 rfl (op_move rfl) (JL_nil ?_)
  refine JQ_then (JC_block ?_)
  refine JC_loopP (fun k : Nat => k ≤ 4) (fun k => [(2, Is (.pointer (some ⟨i2, 0, none⟩))), (3, Is (.pointer (some ⟨i3, 0, none⟩))), (5, Is (.pointer (some ⟨i5, 0, none⟩))), (6, Is (.pointer (some ⟨i6, 0, none⟩))), (7, Is (.int .i64 (cntR n k : Nat))), (19, IsAgg ((tNd.cells n).drop 4)), (20, Is (.int .i64 (k : Nat)))]) (fun _ => [blk i2 131 (tEst.cells s), blk i3 85 (tEop.cells ⟨4, cl, inc, lns, fr, [p]⟩), blk i5 81 [Is (.int .i64 0), Is (.int .u32 0), Is (.int .i64 0), Is (.slice none 0 0), Is (.slice none 0 0)], blk i6 44 (tNd.cells n), mp s.b1 IsPg l, mp s.b2 IsNd ln]) (fun k => 4 - k) 0 (Nat.zero_le _) esubT lessT ?_
  intro k hk
  refine JC_seq (JC_region (JL_1 rfl (op_lss (Ev.rfl' rfl) (Ev.rfl' rfl)) (JL_nil ?_)))
  refine JQ_then (JC_seq ?_)
  refine JC_cond (Ev.rfl' rfl) (fun h4 => ?_) (fun h4 => ?_)
  · have hk4 : k < 4 := by have := of_decide_eq_true h4; omega
    clear h4
    have hcl := cntR_le n k
    refine JC_skip (JQ_then (JC_seq (JC_block (JC_seq ?_))))
    refine JC_region (JL_1 rfl (op_indexV (k := k) (sz := 3) (Ev.rfl' rfl) (Ev.rfl' rfl) rfl rfl rfl rfl rfl hk4 (idx_rj n hk4)) ?_)
    (refine JL_n rfl (op_allocN rfl nrmT rfl) ?_; intro i9)
    refine JL_s0 (op_storeN (Ev.rfl' rfl) (Ev.rfl' rfl) cellsT replT nrmT (by rfl) (by rfl) (by rfl)) ?_
    refine JL_nil ?_
    refine JQ_then (JC_block (JC_seq ?_))
    refine JC_region (JL_1 rfl (by exact op_loadPtrsN (n := 3) (Ev.rfl' rfl) memT (by rfl) (by rfl) (by rfl) (by rfl) nrmT) ?_)
    refine JL_1 rfl (op_buildN (qs := []) rfl rfl rfl rfl trivial (by rfl) nrmT) ?_
    refine JL_1 rfl (op_cmpA (vs := Re.cells (rj n k)) (ws := Re.cells Re.nil) (Ev.rfl' rfl) evS (eqRe_guard _ _ _ (rj n k) Re.nil) (eqRe_eql (rj n k) Re.nil)) ?_
    refine JL_1 rfl (op_assign rfl) (JL_nil (JQ_then ?_))
    refine JC_cond (Ev.rfl' rfl) (fun h6 => ?_) (fun h6 => ?_)
    · have hz : rj n k = Re.nil := of_decide_eq_true h6
      have hc : cntR n (k + 1) = cntR n k + 1 := by show cntR n k + (if rj n k = Re.nil then 1 else 0) = _; rw [if_pos hz]
      refine JC_region (JL_1 rfl (op_move rfl) (JL_1 rfl (op_add (Ev.rfl' rfl) (Ev.rfl' rfl) wrapT) ?_))
      refine JL_1 rfl (op_assign rfl) (JL_nil ?_)
      refine JQ_block (JQ_block (JQ_then ?_))
      refine JC_region (JL_1 rfl (op_add (Ev.rfl' rfl) (Ev.rfl' rfl) wrapT) ?_)
      refine JL_1 rfl (op_move rfl) (JL_nil ?_)
      exact JQ_roundP (k + 1) (by omega) (by omega) (by rw [hc]; exact esubT) lessT
    have hz : ¬ rj n k = Re.nil := of_decide_eq_false h6
    have hc : cntR n (k + 1) = cntR n k := by show cntR n k + (if rj n k = Re.nil then 1 else 0) = _; rw [if_neg hz, Nat.add_zero]
    refine JC_seq (JC_region (JL_1 rfl (by exact op_fieldPtr (k := 5) (Ev.rfl' rfl) rfl rfl rfl rfl) ?_))
    refine JL_1 rfl (by exact op_loadPtr (Ev.rfl' rfl) memT (by rfl) (by rfl) (by rfl)) ?_
    refine JL_1 rfl (by exact op_fieldPtr (k := 0) (Ev.rfl' rfl) rfl rfl rfl rfl) ?_
    refine JL_1 rfl (by exact op_loadPtrsN (n := 2) (Ev.rfl' rfl) memT (by rfl) (by rfl) (by rfl) (by rfl) nrmT) ?_
    refine JL_1 rfl (op_call Tryz.call77 (ContainsPt_ok [p] _ hp1) ⟨evS, ⟨evS, trivial⟩⟩) ?_
    refine JL_1 rfl (op_assign rfl) (JL_nil (JQ_then ?_))
    refine JC_cond (Ev.rfl' rfl) (fun h8 => ?_) (fun h8 => ?_)
    · exact absurd (of_decide_eq_true h8) (by simp; exact hno k hk4 hz)
    clear h8
    refine JC_skip (JQ_block (JQ_block (JQ_then ?_)))
    refine JC_region (JL_1 rfl (op_add (Ev.rfl' rfl) (Ev.rfl' rfl) wrapT) ?_)
    refine JL_1 rfl (op_move rfl) (JL_nil ?_)
    exact JQ_roundP (k + 1) (by omega) (by omega) (by rw [hc]; exact esubT) lessT
  have hke : k = 4 := by have := of_decide_eq_false h4; omega
  clear h4
  subst hke
  have hcz := cntR_zero n
  have hcl := cntR_le n 4
  refine JC_exit (JQ_then_exit (JQ_then_exit (JQ_hit (JQ_then (JC_seq (JC_seq ?_))))))
  refine JC_region (JL_1 rfl (op_move rfl) (JL_1 rfl (by exact op_fieldPtr (k := 5) (Ev.rfl' rfl) rfl rfl rfl rfl) ?_))
  refine JL_1 rfl (by exact op_loadPtr (Ev.rfl' rfl) memT (by rfl) (by rfl) (by rfl)) ?_
  refine JL_1 rfl (by exact op_len (Ev.rfl' rfl) rfl) ?_
  refine JL_1 rfl (op_lss (Ev.rfl' rfl) (Ev.rfl' rfl)) (JL_nil (JQ_then ?_))
  refine JC_cond (Ev.rfl' rfl) (fun h11 => ?_) (fun h11 => ?_)
  · have hz : firstR n = 4 := hcz.1 (by have h : ((cntR n 4 : Nat) : Int) < ((1 : Nat) : Int) := of_decide_eq_true h11; omega)
    have e : retrE s n p pg = ([], ⟨12, 0#32, 0, [], []⟩) := by unfold retrE; rw [if_pos hz]
    rw [e]
    refine JC_seq (JC_region (JL_1 rfl (op_buildN (qs := [(0, _)]) rfl rfl rfl rfl ⟨⟨rfl, _, (Ev.rfl' rfl), cellsT⟩, trivial⟩ (by rfl) nrmT) ?_))
    refine JL_1 rfl (op_assign rfl) (JL_s0 (op_storeN (Ev.rfl' rfl) (Ev.rfl' rfl) cellsT replT nrmT (by rfl) (by rfl) (by rfl)) ?_)
    refine JL_nil ?_
    refine JQ_then (JC_ret (JQ_then_ret ?_))
    exact JQ_retP (Bs := [IsSl tPg [], IsEout ⟨12, 0#32, 0, [], []⟩]) Tryz.results61 ⟨⟨_, rfl, subT⟩, ⟨⟨_, _, _, _, rfl, memT, rfl, .inr ⟨rfl, _, rfl, rfl, subT⟩⟩, trivial⟩⟩ () SubL.rfl' lessT
  have hz : ¬ firstR n = 4 := fun h => by have h' : ¬ ((cntR n 4 : Nat) : Int) < ((1 : Nat) : Int) := of_decide_eq_false h11; have := hcz.2 h; omega
  have hj4' : j < 4 := by omega
  have e : retrE s n p pg = ([(writeN pg (setR n j ⟨p, s.ep⟩)).1], ⟨0, s.ep, 0, [], [97]⟩) := by unfold retrE; rw [if_neg hz, ← hj]
  rw [e]
  clear h11
  refine JC_skip (JQ_then (JC_seq ?_))
  refine JC_region (JL_1 rfl (by exact op_fieldPtr (k := 5) (Ev.rfl' rfl) rfl rfl rfl rfl) ?_)
  refine JL_1 rfl (by exact op_loadPtr (Ev.rfl' rfl) memT (by rfl) (by rfl) (by rfl)) ?_
  refine JL_1 rfl (op_assign rfl) (JL_nil ?_)
  refine JQ_then (JC_seq (JC_seq ?_))
  refine JC_region (JL_1 rfl (by exact op_fieldPtr (k := 4) (Ev.rfl' rfl) rfl rfl rfl rfl) ?_)
  refine JL_1 rfl (by exact op_loadPtrsN (n := 12) (Ev.rfl' rfl) memT (by rfl) (by rfl) (by rfl) (by rfl) nrmT) ?_
  refine JL_1 rfl (op_move rfl) (JL_nil ?_)
  refine JQ_then (JC_block ?_)
  refine JC_loopP (fun k : Nat => k ≤ 4) (fun k => [(2, Is (.pointer (some ⟨i2, 0, none⟩))), (3, Is (.pointer (some ⟨i3, 0, none⟩))), (5, Is (.pointer (some ⟨i5, 0, none⟩))), (6, Is (.pointer (some ⟨i6, 0, none⟩))), (10, IsSl tPt (restJ p j k)), (46, IsAgg ((tNd.cells n).drop 4)), (47, Is (.int .i64 (k : Nat)))]) (fun k => [blk i2 131 (tEst.cells s), blk i3 85 (tEop.cells ⟨4, cl, inc, lns, fr, [p]⟩), blk i5 81 [Is (.int .i64 0), Is (.int .u32 0), Is (.int .i64 0), Is (.slice none 0 0), Is (.slice none 0 0)], blk i6 44 (tNd.cells (ndJ n j ⟨p, s.ep⟩ k)), mp s.b1 IsPg l, mp s.b2 IsNd ln]) (fun k => 4 - k) 0 (Nat.zero_le _) esubT lessT ?_
  intro k hk
  refine JC_seq (JC_region (JL_1 rfl (op_lss (Ev.rfl' rfl) (Ev.rfl' rfl)) (JL_nil ?_)))
  refine JQ_then (JC_seq ?_)
  refine JC_cond (Ev.rfl' rfl) (fun h15 => ?_) (fun h15 => ?_)
  · have hk4 : k < 4 := by have := of_decide_eq_true h15; omega
    clear h15
    refine JC_skip (JQ_then (JC_seq (JC_block (JC_seq ?_))))
    refine JC_region (JL_1 rfl (op_move rfl) (JL_1 rfl (op_indexV (k := k) (sz := 3) (Ev.rfl' rfl) (Ev.rfl' rfl) rfl rfl rfl rfl rfl hk4 (idx_rj n hk4)) ?_))
    (refine JL_n rfl (op_allocN rfl nrmT rfl) ?_; intro i12)
    refine JL_1 rfl (op_assign rfl) (JL_s0 (op_storeN (Ev.rfl' rfl) (Ev.rfl' rfl) cellsT replT nrmT (by rfl) (by rfl) (by rfl)) ?_)
    refine JL_nil ?_
    refine JQ_then (JC_seq ?_)
    refine JC_region (JL_1 rfl (by exact op_loadPtrsN (n := 3) (Ev.rfl' rfl) memT (by rfl) (by rfl) (by rfl) (by rfl) nrmT) ?_)
    refine JL_1 rfl (op_buildN (qs := []) rfl rfl rfl rfl trivial (by rfl) nrmT) ?_
    refine JL_1 rfl (op_cmpA (vs := Re.cells (rj n k)) (ws := Re.cells Re.nil) (Ev.rfl' rfl) evS (eqRe_guard _ _ _ (rj n k) Re.nil) (eqRe_eql (rj n k) Re.nil)) ?_
    refine JL_1 rfl (op_move rfl) ?_
    (refine JL_i0 rfl rfl rfl (fun hg => (by have hg0 := hg; (try simp at hg); exact op_moveE (Ev.rfl' rfl))) ?_)
    (refine JL_i0 rfl rfl rfl (fun hg => (by have hg0 := hg; (try simp at hg); exact op_len evG rfl)) ?_)
    (refine JL_i0 rfl rfl rfl (fun hg => (by have hg0 := hg; (try simp at hg); exact op_gtr evG evG)) ?_)
    refine JL_1 rfl (op_and (Ev.rfl' rfl) rfl (fun h => by exact SubL.iteT (by (rw [h]; rfl)) SubL.rfl')) ?_
    refine JL_nil (JQ_then ?_)
    refine JC_cond (Ev.rfl' rfl) (fun h17 => ?_) (fun h17 => ?_)
    · have hh := Bool.and_eq_true_iff.1 h17
      have hz : rj n k = Re.nil := of_decide_eq_true hh.1
      have hrl := of_decide_eq_true hh.2
      clear h17 hh
      have hjk : k = j := by
        have h1 : ¬ j < k := fun h => by rw [show restJ p j k = [] by unfold restJ; rw [if_pos h]] at hrl; simp at hrl
        have h2 : ¬ k < j := fun h => hj1 k h hz
        omega
      subst hjk
      have e1 : restJ p k k = [p] := by unfold restJ; rw [if_neg (by omega)]
      have e2 : ndJ n k ⟨p, s.ep⟩ k = n := by unfold ndJ; rw [if_neg (by omega)]
      have e3 : restJ p k (k + 1) = [] := by unfold restJ; rw [if_pos (by omega)]
      have e4 : ndJ n k ⟨p, s.ep⟩ (k + 1) = setR n k ⟨p, s.ep⟩ := by unfold ndJ; rw [if_pos (by omega)]
      have hp0 : ([p] : List Pt)[0]? = some p := rfl
      rw [e1, e2]
      refine JC_seq (JC_dr rfl (by kernel_rfl) ?_)
      refine JD_stretch 9 (by kernel_rfl) ?_
      refine JW_1 (op_move rfl) (JW_1 (op_move rfl) (JW_1 (by exact op_index (j := 0) (Ev.rfl' rfl) (Ev.rfl' rfl) rfl rfl (by rfl) hp0) ?_))
      refine JW_1 (by exact op_loadRefsN (n := 2) (Ev.rfl' rfl) rfl rfl rfl (by rfl) nrmT) ?_
      refine JW_1 (by exact op_fieldPtr (k := 9) (Ev.rfl' rfl) rfl rfl rfl rfl) ?_
      refine JW_1 (by exact op_loadPtr (Ev.rfl' rfl) memT (by rfl) (by rfl) (by rfl)) ?_
      refine JW_1 (op_buildN (qs := [(0, _), (1, _)]) rfl rfl rfl rfl ⟨⟨rfl, _, (Ev.rfl' rfl), cellsT⟩, ⟨⟨rfl, _, (Ev.rfl' rfl), cellsT⟩, trivial⟩⟩ (by rfl) nrmT) ?_
      refine JW_1 (by exact op_fieldPtr (k := 4) (Ev.rfl' rfl) rfl rfl rfl rfl) ?_
      refine JW_1 (op_indexArr (k := k) (sz := 3) (Ev.rfl' rfl) (Ev.rfl' rfl) rfl rfl rfl hk4) ?_
      refine ⟨rfl, ?_⟩
      refine JD_s0 (by kernel_rfl) rfl (op_storeN (Rs := tNd.cells (setR n k ⟨p, s.ep⟩)) (Ev.rfl' rfl) (Ev.rfl' rfl) cellsT replT (ovr_setR n ⟨p, s.ep⟩ hk4) (by rfl) (by rfl) (ble_setR n hk4)) ?_
      refine JD_end (JQ_then (JC_region (JL_1 rfl (op_move rfl) (JL_1 rfl (op_slice (Ev.rfl' rfl) rfl rfl ⟨_, _, (Ev.rfl' rfl), (show _ = ((1 : Nat) : Int) from rfl)⟩ rfl (by simp) (by exact Nat.le_refl _)) ?_))))
      refine JL_1 rfl (op_assign rfl) (JL_nil ?_)
      refine JQ_block (JQ_then ?_)
      refine JC_region (JL_1 rfl (op_add (Ev.rfl' rfl) (Ev.rfl' rfl) wrapT) ?_)
      refine JL_1 rfl (op_move rfl) (JL_nil ?_)
      exact JQ_roundP (k + 1) (by omega) (by omega) (by rw [e3]; exact esubT) (by rw [e4]; exact lessT)
    have hjk : ¬ j = k := fun h => by
      subst h
      rw [decide_eq_true (hj2 hk4), show restJ p j j = [p] by unfold restJ; rw [if_neg (by omega)]] at h17
      simp at h17
    have e3 : restJ p j (k + 1) = restJ p j k := by unfold restJ; by_cases h : j < k <;> simp [h] <;> omega
    have e4 : ndJ n j ⟨p, s.ep⟩ (k + 1) = ndJ n j ⟨p, s.ep⟩ k := by unfold ndJ; by_cases h : j < k <;> simp [h] <;> omega
    refine JC_skip (JQ_block (JQ_then ?_))
    refine JC_region (JL_1 rfl (op_add (Ev.rfl' rfl) (Ev.rfl' rfl) wrapT) ?_)
    refine JL_1 rfl (op_move rfl) (JL_nil ?_)
    exact JQ_roundP (k + 1) (by omega) (by omega) (by rw [e3]; exact esubT) (by rw [e4]; exact lessT)
  have hke : k = 4 := by have := of_decide_eq_false h15; omega
  clear h15
  subst hke
  rw [show ndJ n j ⟨p, s.ep⟩ 4 = setR n j ⟨p, s.ep⟩ by unfold ndJ; rw [if_pos hj4']]
  refine JC_freezeBX (b := i2) replT (namesT hX) ?_
  refine JC_set 2 (IsRef (tEst.cells s)) rfl (SubL.fact memT) ?_
  refine JC_exit (JQ_then_exit (JQ_then_exit (JQ_hit (JQ_then (JC_seq ?_)))))
  refine JC_dr rfl (by kernel_rfl) ?_
  refine JD_fl (its := []) (JF_1 0 rfl (by kernel_rfl) (by exact op_loadRefsN (n := 12) (Ev.rfl' rfl) rfl rfl rfl (by rfl) nrmT) ?_)
  refine JF_1 1 rfl (by kernel_rfl) (by exact op_fieldPtr (k := 1) (Ev.rfl' rfl) rfl rfl rfl rfl) ?_
  refine JF_1 2 rfl (by kernel_rfl) (by exact op_loadPtr (Ev.rfl' rfl) memT (by rfl) (by rfl) (by rfl)) ?_
  refine JF_1 3 rfl (by kernel_rfl) (by exact op_loadPtrsN (n := 16) (Ev.rfl' rfl) memT (by rfl) (by rfl) (by rfl) (by rfl) nrmT) ?_
  refine JF_1f 5 rfl (by kernel_rfl) (fun _ => (op_fieldRefN (k := 9) (Rs := [Is (.int .u32 (UV s.ep)), Is (.map (some s.b1)), Is (.map (some s.b2))]) (Ev.rfl' rfl) rfl rfl rfl rfl rfl)) ?_
  refine JF_1f 6 rfl (by kernel_rfl) (fun _ => (op_loadRef (B := Is (.int .u32 (UV s.ep))) (Ev.rfl' rfl) rfl rfl rfl)) ?_
  refine JF_1f 7 rfl (by kernel_rfl) (fun _ => (OpP.sub (op_buildSlice (Rs := [Is (.int .i64 97)]) (size := 1) (qs := [(0, [Is (.int .i64 97)])]) rfl rfl rfl ⟨⟨rfl, _, (Ev.rfl' rfl), cellsT⟩, trivial⟩ (by rfl) (by rfl)) row97)) ?_
  refine JF_1f 8 rfl (by kernel_rfl) (fun _ => (op_buildN (qs := [(1, [Is (.int .u32 (UV s.ep))]), (4, [IsSl tI64 [97]])]) rfl rfl rfl rfl ⟨⟨rfl, _, (Ev.rfl' rfl), cellsT⟩, ⟨⟨rfl, _, (Ev.rfl' rfl), cellsT⟩, trivial⟩⟩ (by rfl) nrmT)) ?_
  (refine JF_b 4 [0, 1, 2, 3, 4] rfl (by kernel_rfl) (fun c' => by exact op_callM (Drops.cons drop1A (Drops.nil _)) Tryz.call74 (writeS_ok s (setR n j ⟨p, s.ep⟩) l cl pg hmp) ⟨evS, ⟨evS, ⟨evS, trivial⟩⟩⟩) ?_; intro i75)
  refine JF_1 9 rfl (by kernel_rfl) (op_assign rfl) ?_
  refine JF_b0 10 [0, 1, 2, 3, 4, 5, 6, 7, 8, 9, 10] rfl (by kernel_rfl) (fun c' => by exact op_store (Ev.rfl' rfl) (Ev.rfl' rfl) cellsT replT (by rfl) (by rfl) (by rfl)) ?_
  refine JF_end (by kernel_rfl) rfl ?_
  refine JQ_then (JC_ret ?_)
  exact JQ_retP (Bs := [IsSl tPg [(writeN pg (setR n j ⟨p, s.ep⟩)).1], IsEout ⟨0, s.ep, 0, [], [97]⟩]) Tryz.results61 ⟨⟨_, rfl, subT⟩, ⟨⟨_, _, _, _, rfl, memT, rfl, .inr ⟨rfl, _, rfl, rfl, subT⟩⟩, trivial⟩⟩ () SubL.rfl' lessT
end Go.Proofs.YtfkmbdpnjcgimaaGreat

/- Contracts: retired pages collected. Own work. -/
namespace Go.Proofs.YtfkmbdpnjcgimaaGreat
open Go.RowKit
set_option linter.unusedVariables false
set_option linter.unusedSimpArgs false
set_option maxRecDepth 100000
def okC (n : Nd) (g : BitVec 32) (k : Nat) : Bool := !decide (rj n k = Re.nil) && safeV g (rj n k).ep
def colK (n : Nd) (g : BitVec 32) : Nat → List Pt × Nd
  | 0 => ([], n)
  | k + 1 => if (okC n g k && decide ((colK n g k).1.length < 2)) = true then ((colK n g k).1 ++ [(rj n k).to], setR (colK n g k).2 k Re.nil) else colK n g k
theorem colK_yes {n : Nd} {g : BitVec 32} {k : Nat} (h : (okC n g k && decide ((colK n g k).1.length < 2)) = true) : colK n g (k + 1) = ((colK n g k).1 ++ [(rj n k).to], setR (colK n g k).2 k Re.nil) := by
  show (if _ then _ else _) = _
  rw [if_pos h]
theorem colK_no {n : Nd} {g : BitVec 32} {k : Nat} (h : ¬ (okC n g k && decide ((colK n g k).1.length < 2)) = true) : colK n g (k + 1) = colK n g k := by
  show (if _ then _ else _) = _
  rw [if_neg h]
theorem colK_len (n : Nd) (g : BitVec 32) : ∀ k, (colK n g k).1.length ≤ 2
  | 0 => Nat.zero_le _
  | k + 1 => by
    have ih := colK_len n g k
    by_cases h : (okC n g k && decide ((colK n g k).1.length < 2)) = true
    · rw [colK_yes h, List.length_append]
      have := of_decide_eq_true (Bool.and_eq_true_iff.1 h).2
      simp; omega
    · rw [colK_no h]; exact ih
theorem colK_cells (n : Nd) (g : BitVec 32) (k : Nat) {j : Nat} (hj : j < 4) : ovr (tNd.cells (colK n g k).2) (0 + 4 + j * 3) (tRe.cells Re.nil) = tNd.cells (setR (colK n g k).2 j Re.nil) := ovr_setR _ _ hj
def colE (s : Est) (n : Nd) (pg : Pg) (ws : List Pg) : List Pg × Eout := if (colK n s.ep 4).1 = [] then ([], ⟨16, 0#32, 0, [], []⟩) else (mergeV ws [(writeN pg (colK n s.ep 4).2).1], ⟨0, s.ep, 0, (colK n s.ep 4).1, [97]⟩)
-- (epoch.state).collect: function 62
set_option maxHeartbeats 4000000 in
theorem collect_ok (s : Est) (o : Eop) (ks : List Pg) (l : List (Int × Pg)) (ln : List (Int × Nd)) (n : Nd) (pg : Pg) (ws : List Pg) (hmp : mget l o.for_ = some pg) (hmn : mget ln o.for_ = some n) (hws : ws.length ≤ 3)
    (hfree0 : (colK n s.ep 4).1 ≠ [] → Fn Tryz.prog 78 [Is (.int .i64 o.lines), IsSl tPt (colK n s.ep 4).1, IsSl tPg ks] [] (fun i : WA => IsTup [Top, Is (slV ws.length i), Is (.int .i64 0), Is (.bool true)]) (fun i => [buf (slV ws.length i) 51 tPg ws])) :
    Fn Tryz.prog 62 [IsEst s, IsEop o, IsSl tPg ks] [mp s.b1 IsPg l, mp s.b2 IsNd ln]
    (fun _ : Unit => IsTup [IsSl tI64 [], IsSl tPg (colE s n pg ws).1, IsEout (colE s n pg ws).2, Is (.bool true)]) (fun _ => [mp s.b1 IsPg l, mp s.b2 IsNd ln]) := by
  have hwl : ws.length + ([(writeN pg (colK n s.ep 4).2).1] : List Pg).length ≤ 1048576 := by simp; omega
  refine Fn.enterN Tryz.func62 Tryz.ntmps62 rfl rfl ?_
  intro c hX
  refine JC_seq (JC_region ?_)
  (refine JL_n rfl (op_box (Ev.rfl' rfl) cellsT) ?_; intro i3)
  (refine JL_n rfl (op_box (Ev.rfl' rfl) cellsT) ?_; intro i4)
  refine JL_1 rfl (op_assign rfl) (JL_1 rfl (op_assign rfl) ?_)
  (refine JL_n rfl (op_allocN rfl nrmT rfl) ?_; intro i8)
  refine JL_1 rfl (op_assign rfl) (JL_nil ?_)
  refine JQ_then (JC_seq ?_)
  refine JC_region (JL_1 rfl (by exact op_fieldPtr (k := 11) (Ev.rfl' rfl) rfl rfl rfl rfl) ?_)
  refine JL_1 rfl (by exact op_loadPtr (Ev.rfl' rfl) memT (by rfl) (by rfl) (by rfl)) ?_
  refine JL_1 rfl (by exact op_fieldPtr (k := 4) (Ev.rfl' rfl) rfl rfl rfl rfl) ?_
  refine JL_1 rfl (by exact op_loadPtr (Ev.rfl' rfl) memT (by rfl) (by rfl) (by rfl)) ?_
  refine JL_1 rfl (op_lookupS hmn (Ev.rfl' rfl) memT (Ev.rfl' rfl) rfl rfl rfl) ?_
  (refine JL_n rfl (op_allocN rfl nrmT rfl) ?_; intro i10)
  refine JL_s0 (op_storeN (Ev.rfl' rfl) (Ev.rfl' rfl) cellsT replT nrmT (by rfl) (by rfl) (by rfl)) ?_
  refine JL_nil ?_
  refine JQ_then (JC_seq ?_)
  refine JC_region (JL_1 rfl (op_assign rfl) (JL_nil ?_))
  refine JQ_then (JC_seq (JC_seq ?_))
  refine JC_buf0 39 tPt (JC_region (JL_1 rfl (by exact op_fieldPtr (k := 4) (Ev.rfl' rfl) rfl rfl rfl rfl) ?_))
  refine JL_1 rfl (by exact op_loadPtrsN (n := 12) (Ev.rfl' rfl) memT (by rfl) (by rfl) (by rfl) (by rfl) nrmT) ?_
  refine JL_1 rfl (op_move rfl) (JL_nil ?_)
  refine JQ_then (JC_block ?_)
  refine JC_loopP (fun z : Nat × WA => z.1 ≤ 4) (fun z => [(2, IsSl tPg ks), (3, Is (.pointer (some ⟨i3, 0, none⟩))), (4, Is (.pointer (some ⟨i4, 0, none⟩))), (8, Is (.pointer (some ⟨i8, 0, none⟩))), (10, Is (.pointer (some ⟨i10, 0, none⟩))), (11, Is (slV (colK n s.ep z.1).1.length z.2)), (21, IsAgg ((tNd.cells n).drop 4)), (22, Is (.int .i64 (z.1 : Nat)))]) (fun z => [blk i3 131 (tEst.cells s), blk i4 85 (tEop.cells o), blk i8 81 [Is (.int .i64 0), Is (.int .u32 0), Is (.int .i64 0), Is (.slice none 0 0), Is (.slice none 0 0)], blk i10 44 (tNd.cells (colK n s.ep z.1).2), buf (slV (colK n s.ep z.1).1.length z.2) 39 tPt (colK n s.ep z.1).1, mp s.b1 IsPg l, mp s.b2 IsNd ln]) (fun z => 4 - z.1) (0, (none, 0)) (Nat.zero_le _) esubT lessT ?_
  rintro ⟨k, a⟩ hk
  dsimp only at hk ⊢
  refine JC_seq (JC_region (JL_1 rfl (op_lss (Ev.rfl' rfl) (Ev.rfl' rfl)) (JL_nil ?_)))
  refine JQ_then (JC_seq ?_)
  refine JC_cond (Ev.rfl' rfl) (fun h4 => ?_) (fun h4 => ?_)
  · have hk4 : k < 4 := by have := of_decide_eq_true h4; omega
    clear h4
    have hcl := colK_len n s.ep k
    refine JC_skip (JQ_then (JC_seq (JC_block (JC_seq ?_))))
    refine JC_region (JL_1 rfl (op_move rfl) (JL_1 rfl (op_indexV (k := k) (sz := 3) (Ev.rfl' rfl) (Ev.rfl' rfl) rfl rfl rfl rfl rfl hk4 (idx_rj n hk4)) ?_))
    (refine JL_n rfl (op_allocN rfl nrmT rfl) ?_; intro i13)
    refine JL_1 rfl (op_assign rfl) (JL_s0 (op_storeN (Ev.rfl' rfl) (Ev.rfl' rfl) cellsT replT nrmT (by rfl) (by rfl) (by rfl)) ?_)
    refine JL_nil ?_
    refine JQ_then (JC_seq ?_)
    refine JC_region (JL_1 rfl (by exact op_loadPtrsN (n := 3) (Ev.rfl' rfl) memT (by rfl) (by rfl) (by rfl) (by rfl) nrmT) ?_)
    refine JL_1 rfl (op_buildN (qs := []) rfl rfl rfl rfl trivial (by rfl) nrmT) ?_
    refine JL_1 rfl (op_cmpA (vs := Re.cells (rj n k)) (ws := Re.cells Re.nil) (Ev.rfl' rfl) evS (eqRe_guard _ _ _ (rj n k) Re.nil) (eqRe_neq (rj n k) Re.nil)) ?_
    refine JL_1 rfl (op_move rfl) ?_
    (refine JL_i0 rfl rfl rfl (fun hg => (by have hg0 := hg; (try simp at hg); exact op_fieldPtr (k := 9) evG rfl rfl rfl rfl)) ?_)
    (refine JL_i0 rfl rfl rfl (fun hg => (by have hg0 := hg; (try simp at hg); exact op_loadPtr evG memT (by rfl) (by rfl) (by rfl))) ?_)
    (refine JL_i0 rfl rfl rfl (fun hg => (by have hg0 := hg; (try simp at hg); exact op_fieldPtr (k := 2) evG rfl rfl rfl rfl)) ?_)
    (refine JL_i0 rfl rfl rfl (fun hg => (by have hg0 := hg; (try simp at hg); exact op_loadPtr evG memT (by rfl) (by rfl) (by rfl))) ?_)
    (refine JL_i0 rfl rfl rfl (fun hg => (by have hg0 := hg; (try simp at hg); exact op_call Tryz.call10 (Safe_ok _ _) ⟨evS, ⟨evS, trivial⟩⟩)) ?_)
    refine JL_1 rfl (op_and (Ev.rfl' rfl) rfl (fun h => by exact SubL.iteT (by (rw [h]; rfl)) SubL.rfl')) ?_
    refine JL_1 rfl (op_move rfl) ?_
    (refine JL_i0 rfl rfl rfl (fun hg => (by have hg0 := hg; (try simp at hg); exact op_moveE (Ev.rfl' rfl))) ?_)
    (refine JL_i0 rfl rfl rfl (fun hg => (by have hg0 := hg; (try simp at hg); exact op_lenLit evG rfl)) ?_)
    (refine JL_i0 rfl rfl rfl (fun hg => (by have hg0 := hg; (try simp at hg); exact op_lss evG evG)) ?_)
    refine JL_1 rfl (op_and (Ev.rfl' rfl) rfl (fun h => by exact SubL.iteT (by (rw [h]; rfl)) SubL.rfl')) ?_
    refine JL_nil (JQ_then ?_)
    refine JC_cond (Ev.rfl' rfl) (fun h6 => ?_) (fun h6 => ?_)
    · have hh : (okC n s.ep k && decide ((colK n s.ep k).1.length < 2)) = true := by
        rw [← h6]; unfold okC; congr 1; exact decide_eq_decide.2 (by omega)
      have hy := colK_yes hh
      clear h6
      refine JC_seq (JC_region (JL_1 rfl (op_move rfl) (JL_1 rfl (by exact op_fieldPtr (k := 0) (Ev.rfl' rfl) rfl rfl rfl rfl) ?_)))
      refine JL_1 rfl (by exact op_loadPtrsN (n := 2) (Ev.rfl' rfl) memT (by rfl) (by rfl) (by rfl) (by rfl) nrmT) ?_
      refine JL_1 rfl (op_buildSlice (size := 2) (qs := [(0, _)]) rfl rfl rfl ⟨⟨rfl, _, (Ev.rfl' rfl), cellsT⟩, trivial⟩ (by rfl) (by rfl)) ?_
      (refine JL_s rfl (op_app (Ev.rfl' rfl) (fun _ => replT) (by exact Ev.sub rfl (by exact SubL.row (xs := [(rj n k).to]) (by rfl) (by rfl) subsT)) (by exact appT rfl rfl rfl) lenT) ?_; intro i45)
      refine JL_1 rfl (op_assign rfl) (JL_nil (JQ_then (JC_region (JL_1 rfl (op_move rfl) (JL_1 rfl (op_buildN (qs := []) rfl rfl rfl rfl trivial (by rfl) nrmT) ?_)))))
      refine JL_1 rfl (by exact op_fieldPtr (k := 4) (Ev.rfl' rfl) rfl rfl rfl rfl) ?_
      refine JL_1 rfl (op_indexArr (k := k) (sz := 3) (Ev.rfl' rfl) (Ev.rfl' rfl) rfl rfl rfl hk4) (JL_s0 (op_storeN (Rs := tNd.cells (setR (colK n s.ep k).2 k Re.nil)) (Ev.rfl' rfl) (Ev.rfl' rfl) cellsT replT (colK_cells n s.ep k hk4) (by rfl) (by rfl) (ble_setR _ hk4)) ?_)
      refine JL_nil ?_
      refine JQ_block (JQ_then ?_)
      refine JC_region (JL_1 rfl (op_add (Ev.rfl' rfl) (Ev.rfl' rfl) wrapT) ?_)
      refine JL_1 rfl (op_move rfl) (JL_nil ?_)
      first
      | exact JQ_roundP (k + 1, i45) (by dsimp only; omega) (by dsimp only; omega) (by dsimp only; rw [hy]; exact esubT) (by dsimp only; rw [hy]; exact lessT)
      | exact JQ_roundP (k + 1, a) (by dsimp only; omega) (by dsimp only; omega) (by dsimp only; rw [hy]; exact esubT) (by dsimp only; rw [hy]; exact lessT)
    have hh : ¬ (okC n s.ep k && decide ((colK n s.ep k).1.length < 2)) = true := by
      intro h
      have : (okC n s.ep k && decide ((colK n s.ep k).1.length < 2)) = false := by
        rw [← h6]; unfold okC; congr 1; exact decide_eq_decide.2 (by omega)
      rw [this] at h; cases h
    have hy := colK_no hh
    clear h6
    refine JC_skip (JQ_block (JQ_then ?_))
    refine JC_region (JL_1 rfl (op_add (Ev.rfl' rfl) (Ev.rfl' rfl) wrapT) ?_)
    refine JL_1 rfl (op_move rfl) (JL_nil ?_)
    first
    | exact JQ_roundP (k + 1, i45) (by dsimp only; omega) (by dsimp only; omega) (by dsimp only; rw [hy]; exact esubT) (by dsimp only; rw [hy]; exact lessT)
    | exact JQ_roundP (k + 1, a) (by dsimp only; omega) (by dsimp only; omega) (by dsimp only; rw [hy]; exact esubT) (by dsimp only; rw [hy]; exact lessT)
  have hke : k = 4 := by have := of_decide_eq_false h4; omega
  clear h4
  subst hke
  have hcl := colK_len n s.ep 4
  refine JC_exit (JQ_then_exit (JQ_then_exit (JQ_hit (JQ_then (JC_seq (JC_seq ?_))))))
  refine JC_region (JL_1 rfl (op_move rfl) (JL_1 rfl (by exact op_lenLit (Ev.rfl' rfl) rfl) ?_))
  refine JL_1 rfl (op_eql (Ev.rfl' rfl) (Ev.rfl' rfl)) (JL_nil (JQ_then ?_))
  refine JC_cond (Ev.rfl' rfl) (fun h10 => ?_) (fun h10 => ?_)
  · have hz : (colK n s.ep 4).1 = [] := by simpa using h10
    have e : colE s n pg ws = ([], ⟨16, 0#32, 0, [], []⟩) := by unfold colE; rw [if_pos hz]
    rw [e]
    refine JC_seq (JC_region (JL_1 rfl (op_buildN (qs := [(0, _)]) rfl rfl rfl rfl ⟨⟨rfl, _, (Ev.rfl' rfl), cellsT⟩, trivial⟩ (by rfl) nrmT) ?_))
    refine JL_1 rfl (op_assign rfl) (JL_1 rfl (op_assign rfl) (JL_s0 (op_storeN (Ev.rfl' rfl) (Ev.rfl' rfl) cellsT replT nrmT (by rfl) (by rfl) (by rfl)) ?_))
    refine JL_1 rfl (op_assign rfl) (JL_nil ?_)
    refine JQ_then (JC_ret (JQ_then_ret ?_))
    exact JQ_retP (Bs := [IsSl tI64 [], IsSl tPg [], IsEout ⟨16, 0#32, 0, [], []⟩, Is (.bool true)]) Tryz.results62 ⟨⟨_, rfl, subT⟩, ⟨⟨_, rfl, subT⟩, ⟨⟨_, _, _, _, rfl, memT, rfl, .inr ⟨rfl, _, rfl, rfl, subT⟩⟩, ⟨⟨_, rfl, subT⟩, trivial⟩⟩⟩⟩ () SubL.rfl' lessT
  have hz : ¬ (colK n s.ep 4).1 = [] := fun h => by rw [h] at h10; simp at h10
  have hfree := hfree0 hz
  have e : colE s n pg ws = (mergeV ws [(writeN pg (colK n s.ep 4).2).1], ⟨0, s.ep, 0, (colK n s.ep 4).1, [97]⟩) := by unfold colE; rw [if_neg hz]
  rw [e]
  refine JC_freezeX (v := slV (colK n s.ep 4).1.length a) (T := tPt) (xs := (colK n s.ep 4).1) replT (namesT hX) ?_
  refine JC_set 11 (IsSl tPt (colK n s.ep 4).1) rfl (SubL.fact memT) ?_
  refine JC_skip (JQ_then (JC_seq ?_))
  refine JC_region (JL_1 rfl (by exact op_fieldPtr (k := 3) (Ev.rfl' rfl) rfl rfl rfl rfl) ?_)
  refine JL_1 rfl (by exact op_loadPtr (Ev.rfl' rfl) memT (by rfl) (by rfl) (by rfl)) ?_
  refine JL_1 rfl (op_move rfl) (JL_1 rfl (op_move rfl) ?_)
  (refine JL_s rfl (op_callN Tryz.call78 (hfree) ⟨evS, ⟨evS, ⟨evS, trivial⟩⟩⟩) ?_; intro i60)
  refine JL_1 rfl (op_move rfl) (JL_1 rfl (op_extract (Ev.rfl' rfl) rfl) (JL_1 rfl (op_extract (Ev.rfl' rfl) rfl) (JL_1 rfl (op_extract (Ev.rfl' rfl) rfl) (JL_1 rfl (op_extract (Ev.rfl' rfl) rfl) (JL_1 rfl (op_assign rfl) (JL_1 rfl (op_assign rfl) (JL_1 rfl (op_assign rfl) (JL_1 rfl (op_assign rfl) (JL_nil ?_)))))))))
  refine JQ_then (JC_seq (JC_block (JC_seq ?_)))
  refine JC_freezeX (v := slV ws.length i60) (T := tPg) (xs := ws) replT (namesT hX) ?_
  refine JC_set 7 (IsSl tPg ws) rfl (SubL.fact memT) ?_
  refine JC_region (JL_1 rfl (op_move rfl) (JL_1 rfl (op_not (Ev.rfl' rfl)) (JL_1 rfl (op_assign rfl) (JL_nil (JQ_then ?_)))))
  refine JC_cond (Ev.rfl' rfl) (fun h13 => ?_) (fun h13 => ?_)
  · exact absurd h13 (by simp)
  refine JC_seq (JC_region (JL_1 rfl (op_move rfl) (JL_1 rfl (op_eql (Ev.rfl' rfl) (Ev.rfl' rfl)) (JL_1 rfl (op_assign rfl) (JL_nil (JQ_then ?_))))))
  refine JC_cond (Ev.rfl' rfl) (fun h15 => ?_) (fun h15 => ?_)
  · exact absurd h15 (by simp)
  refine JC_skip (JQ_block (JQ_then (JC_seq (JC_seq ?_))))
  refine JC_region (JL_1 rfl (op_move rfl) (JL_1 rfl (op_neq (Ev.rfl' rfl) (Ev.rfl' rfl)) (JL_nil (JQ_then ?_))))
  refine JC_cond (Ev.rfl' rfl) (fun h17 => ?_) (fun h17 => ?_)
  · exact absurd h17 (by simp)
  refine JC_skip (JQ_then (JC_seq ?_))
  refine JC_region (JL_1 rfl (op_move rfl) (JL_1 rfl (by exact op_loadPtrsN (n := 12) (Ev.rfl' rfl) memT (by rfl) (by rfl) (by rfl) (by rfl) nrmT) ?_))
  refine JL_1 rfl (by exact op_fieldPtr (k := 4) (Ev.rfl' rfl) rfl rfl rfl rfl) ?_
  refine JL_1 rfl (by exact op_loadPtr (Ev.rfl' rfl) memT (by rfl) (by rfl) (by rfl)) ?_
  refine JL_1 rfl (by exact op_loadPtrsN (n := 16) (Ev.rfl' rfl) memT (by rfl) (by rfl) (by rfl) (by rfl) nrmT) ?_
  (refine JL_s rfl (op_callM (Drops.cons drop1A (Drops.nil _)) Tryz.call74 (writeS_ok s (colK n s.ep 4).2 l o.for_ pg hmp) ⟨evS, ⟨evS, ⟨evS, trivial⟩⟩⟩) ?_; intro i82)
  (refine JL_s rfl (op_callN Tryz.call79 (MergeN_ok ws [(writeN pg (colK n s.ep 4).2).1] hwl) ⟨evS, ⟨evS, trivial⟩⟩) ?_; intro i83)
  refine JL_1 rfl (op_assign rfl) (JL_nil ?_)
  refine JQ_then (JC_seq ?_)
  refine JC_freezeX (v := slV (mergeV ws [(writeN pg (colK n s.ep 4).2).1]).length i83) (T := tPg) (xs := mergeV ws [(writeN pg (colK n s.ep 4).2).1]) replT (namesT hX) ?_
  refine JC_set 7 (IsSl tPg (mergeV ws [(writeN pg (colK n s.ep 4).2).1])) rfl (SubL.fact memT) ?_
  refine JC_dr rfl (by kernel_rfl) ?_
  refine JD_stretch 8 (by kernel_rfl) ?_
  refine JW_1 (op_move rfl) (JW_1 (by exact op_fieldPtr (k := 9) (Ev.rfl' rfl) rfl rfl rfl rfl) ?_)
  refine JW_1 (by exact op_loadPtr (Ev.rfl' rfl) memT (by rfl) (by rfl) (by rfl)) ?_
  refine JW_1 (op_move rfl) (JW_1 (OpP.sub (op_buildSlice (Rs := [Is (.int .i64 97)]) (size := 1) (qs := [(0, [Is (.int .i64 97)])]) rfl rfl rfl ⟨⟨rfl, _, (Ev.rfl' rfl), cellsT⟩, trivial⟩ (by rfl) (by rfl)) row97) ?_)
  refine JW_1 (op_buildN (qs := [(1, _), (3, _), (4, _)]) rfl rfl rfl rfl ⟨⟨rfl, _, (Ev.rfl' rfl), cellsT⟩, ⟨⟨rfl, _, (Ev.rfl' rfl), cellsT⟩, ⟨⟨rfl, _, (Ev.rfl' rfl), cellsT⟩, trivial⟩⟩⟩ (by rfl) nrmT) ?_
  refine JW_1 (op_assign rfl) (JW_1 (op_assign rfl) ?_)
  refine ⟨rfl, ?_⟩
  refine JD_s0 (by kernel_rfl) rfl (op_storeN (Ev.rfl' rfl) (Ev.rfl' rfl) cellsT replT nrmT (by rfl) (by rfl) (by rfl)) ?_
  refine JD_1 (by kernel_rfl) rfl rfl (op_assign rfl) ?_
  refine JD_end ?_
  refine JQ_then (JC_ret ?_)
  exact JQ_retP (Bs := [IsSl tI64 [], IsSl tPg (mergeV ws [(writeN pg (colK n s.ep 4).2).1]), IsEout ⟨0, s.ep, 0, (colK n s.ep 4).1, [97]⟩, Is (.bool true)]) Tryz.results62 ⟨⟨_, rfl, subT⟩, ⟨⟨_, rfl, subT⟩, ⟨⟨_, _, _, _, rfl, memT, rfl, .inr ⟨rfl, _, rfl, rfl, subT⟩⟩, ⟨⟨_, rfl, subT⟩, trivial⟩⟩⟩⟩ () SubL.rfl' lessT
end Go.Proofs.YtfkmbdpnjcgimaaGreat

/- Contracts: epoch.Next, pin. Own work. -/
namespace Go.Proofs.YtfkmbdpnjcgimaaGreat
open Go.RowKit
set_option linter.unusedVariables false
set_option linter.unusedSimpArgs false
set_option maxRecDepth 100000
theorem mget_one {α : Type} (f : Int → α) (c : Int) : mget (mpF f [c]) c = some (f c) := by
  simp [mpF, mput, mget]
def blkE (e : Eout) : Eout := { e with blk := -1 }
def nx1 (o : Eop) (ks : List Pg) (g : BitVec 32) (N : Int → Nd) : List Pg × Eout := pinE ⟨Pg.nil, g, 0, 0⟩ o (N o.client) (latP ks (98 + o.client))
theorem pinE_len (s : Est) (o : Eop) (n : Nd) (p : Pg) : (pinE s o n p).1.length ≤ 1 := by
  unfold pinE
  split <;> simp
theorem asc_le1 {ws : List Pg} (h : ws.length ≤ 1) : AscP ws := by
  match ws, h with
  | [], _ => exact List.Pairwise.nil
  | [x], _ => exact List.pairwise_singleton _ _
-- epoch.Next: function 43
set_option maxHeartbeats 4000000 in
theorem next1_ok (o : Eop) (ks : List Pg) (g : BitVec 32) (N : Int → Nd) (hok : OkE o) (hrd : Rdy o ks g N) (hk1 : o.kind = 1) : FnP Tryz.prog 43 [IsEop o, IsSl tPg ks]
    (IsTup [IsSl tI64 [], IsSl tPg (nx1 o ks g N).1, IsEout (blkE (nx1 o ks g N).2), Is (.bool true)]) := by
  have hnv : nodesV o = [o.client] := by unfold nodesV; rw [if_neg (by omega), if_neg (by omega)]
  have hmp : mget (pgM o ks (linV o).length) o.client = some (latP ks (98 + o.client)) := by unfold pgM; rw [cK_all, hnv]; exact mget_one _ _
  have hmn : mget (ndM o N (linV o).length) o.client = some (N o.client) := by unfold ndM; rw [cK_all, hnv]; exact mget_one _ _
  have hE : hasE o = true := by unfold hasE; rw [hk1]; rfl
  have hep : stE o g (linV o).length = g := by unfold stE; rw [if_pos ⟨hE, linE_pos o⟩]
  have hlen := pinE_len ⟨Pg.nil, g, 0, 0⟩ o (N o.client) (latP ks (98 + o.client))
  have hasc : AscP (nx1 o ks g N).1 := asc_le1 hlen
  have hln : (nx1 o ks g N).1.length ≤ 4 := Nat.le_trans hlen (by decide)
  refine FnP.enter Tryz.func43 Tryz.ntmps43 rfl rfl ?_
  intro c hX
  refine JC_seq (JC_region ?_)
  (refine JL_n rfl (op_box (Ev.rfl' rfl) cellsT) ?_; intro i2)
  refine JL_1 rfl (op_assign rfl) (JL_1 rfl (op_assign rfl) ?_)
  (refine JL_n rfl (op_allocN rfl nrmT rfl) ?_; intro i6)
  refine JL_1 rfl (op_assign rfl) (JL_nil ?_)
  refine JQ_then (JC_seq (JC_seq ?_))
  refine JC_region (JL_1 rfl (by exact op_loadPtrsN (n := 6) (Ev.rfl' rfl) memT (by rfl) (by rfl) (by rfl) (by rfl) nrmT) ?_)
  refine JL_1 rfl (op_call Tryz.call56 (isValidE_ok o hok) ⟨evS, trivial⟩) ?_
  refine JL_1 rfl (op_not (Ev.rfl' rfl)) (JL_nil (JQ_then ?_))
  refine JC_cond (Ev.rfl' rfl) (fun h1 => ?_) (fun h1 => ?_)
  · exact absurd h1 (by simp)
  clear h1
  refine JC_skip (JQ_then (JC_seq ?_))
  refine JC_region (JL_1 rfl (by exact op_loadPtrsN (n := 6) (Ev.rfl' rfl) memT (by rfl) (by rfl) (by rfl) (by rfl) nrmT) ?_)
  refine JL_1 rfl (op_move rfl) ?_
  (refine JL_s rfl (op_callN Tryz.call57 (readS_ok o ks g N hrd) ⟨evS, ⟨evS, trivial⟩⟩) ?_; intro i18)
  refine JL_1 rfl (op_move rfl) (JL_1 rfl (op_extract (Ev.rfl' rfl) rfl) (JL_1 rfl (op_extract (Ev.rfl' rfl) rfl) (JL_1 rfl (op_extract (Ev.rfl' rfl) rfl) (JL_1 rfl (op_extract (Ev.rfl' rfl) rfl) ?_))))
  (refine JL_n rfl (op_allocN rfl nrmT rfl) ?_; intro i8)
  refine JL_s0 (op_storeN (Ev.rfl' rfl) (Ev.rfl' rfl) cellsT replT nrmT (by rfl) (by rfl) (by rfl)) ?_
  refine JL_1 rfl (op_assign rfl) (JL_1 rfl (op_assign rfl) (JL_1 rfl (op_assign rfl) (JL_nil ?_)))
  refine JQ_then (JC_seq (JC_seq ?_))
  have hpe : pinE ⟨stP o ks (linV o).length, stE o g (linV o).length, i18.1, i18.2⟩ o (N o.client) (latP ks (98 + o.client)) = nx1 o ks g N := by rw [hep]; rfl
  refine JC_region (JL_1 rfl (op_move rfl) (JL_1 rfl (by exact op_lenLit (Ev.rfl' rfl) rfl) ?_))
  refine JL_1 rfl (op_gtr (Ev.rfl' rfl) (Ev.rfl' rfl)) (JL_nil (JQ_then ?_))
  refine JC_cond (Ev.rfl' rfl) (fun h4 => ?_) (fun h4 => ?_)
  · exact absurd h4 (by simp)
  refine JC_skip (JQ_then (JC_seq (JC_seq ?_)))
  refine JC_region (JL_1 rfl (op_move rfl) (JL_1 rfl (op_neq (Ev.rfl' rfl) (Ev.rfl' rfl)) (JL_nil (JQ_then ?_))))
  refine JC_cond (Ev.rfl' rfl) (fun h6 => ?_) (fun h6 => ?_)
  · exact absurd h6 (by simp)
  refine JC_skip (JQ_then (JC_seq ?_))
  refine JC_region (JL_1 rfl (op_assign rfl) (JL_nil ?_))
  refine JQ_then (JC_seq (JC_seq ?_))
  refine JC_region (JL_1 rfl (by exact op_fieldPtr (k := 0) (Ev.rfl' rfl) rfl rfl rfl rfl) ?_)
  refine JL_1 rfl (by exact op_loadPtr (Ev.rfl' rfl) memT (by rfl) (by rfl) (by rfl)) ?_
  refine JL_nil ?_
  refine JQ_then (JC_block (JC_seq ?_))
  refine JC_region (JL_1 rfl (op_eql (Ev.rfl' rfl) (Ev.rfl' rfl)) (JL_1 rfl (op_assign rfl) (JL_nil (JQ_then ?_))))
  refine JC_cond (Ev.rfl' rfl) (fun h10 => ?_) (fun h10 => ?_)
  · refine JC_region (JL_1 rfl (by exact op_loadPtrsN (n := 12) (Ev.rfl' rfl) memT (by rfl) (by rfl) (by rfl) (by rfl) nrmT) ?_)
    refine JL_1 rfl (by exact op_loadPtrsN (n := 6) (Ev.rfl' rfl) memT (by rfl) (by rfl) (by rfl) (by rfl) nrmT) ?_
    (refine JL_s rfl (op_callM (Drops.cons drop1A (Drops.cons drop1A (Drops.nil _))) Tryz.call58 (pin_ok ⟨stP o ks (linV o).length, stE o g (linV o).length, i18.1, i18.2⟩ o _ _ (N o.client) (latP ks (98 + o.client)) hmp hmn) ⟨evS, ⟨evS, trivial⟩⟩) ?_; intro i40)
    refine JL_1 rfl (op_move rfl) (JL_1 rfl (op_extract (Ev.rfl' rfl) rfl) (JL_1 rfl (op_extract (Ev.rfl' rfl) rfl) (JL_1 rfl (op_assign rfl) (JL_s0 (op_storeN (Ev.rfl' rfl) (Ev.rfl' rfl) cellsT replT nrmT (by rfl) (by rfl) (by rfl)) ?_))))
    refine JL_nil ?_
    refine JQ_block (JQ_then (JC_seq (JC_seq ?_)))
    rw [hpe]
    refine JC_region (JL_1 rfl (op_move rfl) (JL_1 rfl (op_move rfl) ?_))
    (refine JL_i0 rfl rfl rfl (fun hg => (by have hg0 := hg; (try simp at hg); exact op_fieldPtr (k := 0) evG rfl rfl rfl rfl)) ?_)
    (refine JL_i0 rfl rfl rfl (fun hg => (by have hg0 := hg; (try simp at hg); exact op_loadPtr evG memT (by rfl) (by rfl) (by rfl))) ?_)
    (refine JL_i0 rfl rfl rfl (fun hg => (by have hg0 := hg; (try simp at hg); exact op_eql evG evG)) ?_)
    (refine JL_i0 rfl rfl rfl (fun hg => (by have hg0 := hg; (try simp at hg); exact op_moveE (Ev.sub rfl (SubL.iteT (by assumption) SubL.rfl')))) ?_)
    (refine JL_i0 rfl rfl rfl (fun hg => (by have hg0 := hg; (try simp at hg); exact op_fieldPtr (k := 0) evG rfl rfl rfl rfl)) ?_)
    (refine JL_i0 rfl rfl rfl (fun hg => (by have hg0 := hg; (try simp at hg); exact op_loadPtr evG memT (by rfl) (by rfl) (by rfl))) ?_)
    (refine JL_i0 rfl rfl rfl (fun hg => (by have hg0 := hg; (try simp at hg); exact op_eql evG evG)) ?_)
    (refine JL_i0 rfl rfl rfl (fun hg => (by have hg0 := hg; (try simp at hg); exact op_and evG rfl (fun h => by exact SubL.iteT (by (rw [h]; rfl)) SubL.rfl'))) ?_)
    (refine JL_i0 rfl rfl rfl (fun hg => (by have hg0 := hg; (try simp at hg); exact op_not evG)) ?_)
    refine JL_1 rfl (op_and (Ev.rfl' rfl) rfl (fun h => by exact SubL.rfl')) ?_
    refine JL_nil (JQ_then ?_)
    refine JC_cond (Ev.rfl' rfl) (fun h22 => ?_) (fun h22 => ?_)
    · refine JC_region (JL_1 rfl (by exact op_fieldPtr (k := 2) (Ev.rfl' rfl) rfl rfl rfl rfl) ?_)
      refine JL_s0 (op_storeN (Ev.rfl' rfl) (Ev.rfl' rfl) cellsT replT nrmT (by rfl) (by rfl) (by rfl)) ?_
      refine JL_nil ?_
      refine JQ_then (JC_seq ?_)
      refine JC_region (JL_1 rfl (op_move rfl) (JL_1 rfl (op_call Tryz.call63 (SortFunc_ok _ hasc hln) ⟨evS, ⟨evS, trivial⟩⟩) ?_))
      refine JL_nil ?_
      refine JQ_then (JC_seq ?_)
      refine JC_dr rfl (by kernel_rfl) ?_
      refine JD_fl (its := []) (JF_1 0 rfl (by kernel_rfl) (op_move rfl) ?_)
      refine JF_1 1 rfl (by kernel_rfl) (op_move rfl) ?_
      refine JF_1 2 rfl (by kernel_rfl) (by exact op_loadPtrsN (n := 5) (Ev.rfl' rfl) memT (by rfl) (by rfl) (by rfl) (by rfl) nrmT) ?_
      refine JF_1f 3 rfl (by kernel_rfl) (fun _ => (op_move rfl)) ?_
      refine JF_1 4 rfl (by kernel_rfl) (op_assign rfl) ?_
      refine JF_1 5 rfl (by kernel_rfl) (op_assign rfl) ?_
      refine JF_b0 6 [0, 1, 2, 4, 5, 6] rfl (by kernel_rfl) (fun c' => by exact op_store (Ev.rfl' rfl) (Ev.rfl' rfl) cellsT replT (by rfl) (by rfl) (by rfl)) ?_
      refine JF_1 7 rfl (by kernel_rfl) (op_assign rfl) ?_
      refine JF_end (by kernel_rfl) rfl ?_
      refine JQ_then (JC_ret ?_)
      exact JQ_retP (Bs := [IsSl tI64 [], IsSl tPg (nx1 o ks g N).1, IsEout (blkE (nx1 o ks g N).2), Is (.bool true)]) Tryz.results43 ⟨⟨_, rfl, subT⟩, ⟨⟨_, rfl, subT⟩, ⟨⟨_, _, _, _, rfl, memT, rfl, .inr ⟨rfl, _, rfl, rfl, subT⟩⟩, ⟨⟨_, rfl, subT⟩, trivial⟩⟩⟩⟩ () SubL.rfl' lessT
    exact absurd h22 (by simp [hk1])
  exact absurd h10 (by simp [hk1])
end Go.Proofs.YtfkmbdpnjcgimaaGreat

/- Contracts: epoch.Next, the other kinds. Own work. -/
namespace Go.Proofs.YtfkmbdpnjcgimaaGreat
open Go.RowKit
set_option linter.unusedVariables false
set_option linter.unusedSimpArgs false
set_option maxRecDepth 100000
theorem unpE_len (b : Bool) (n : Nd) (p : Pg) : (unpE b n p).1.length ≤ 1 := by
  unfold unpE
  split <;> simp
theorem retrE_len (s : Est) (n : Nd) (p : Pt) (pg : Pg) : (retrE s n p pg).1.length ≤ 1 := by
  unfold retrE
  split <;> simp
theorem advE_len (s : Est) (N : Int → Nd) : (advE s N).1.length ≤ 1 := by
  unfold advE
  split <;> simp
theorem mget_mput {α : Type} (v : α) (k c : Int) : ∀ m : List (Int × α), mget (mput m k v) c = if k = c then some v else mget m c
  | [] => by
    by_cases h : k = c
    · simp [mput, mget, h]
    · simp [mput, mget, h]
  | (a, x) :: m => by
    have ih := mget_mput v k c m
    by_cases h : k = c
    · subst h
      by_cases h2 : a = k
      · simp [mput, mget, h2]
      · simp only [mput, if_neg h2, mget, ih]
    · by_cases h2 : a = k
      · subst h2
        simp [mput, mget, h]
      · simp only [mput, if_neg h2, mget, ih, if_neg h]
def nx2 (o : Eop) (ks : List Pg) (N : Int → Nd) : List Pg × Eout := unpE ((N o.client).inc == o.inc) (N o.client) (latP ks (98 + o.client))
-- epoch.Next: function 43
set_option maxHeartbeats 4000000 in
theorem next2_ok (o : Eop) (ks : List Pg) (g : BitVec 32) (N : Int → Nd) (hok : OkE o) (hrd : Rdy o ks g N) (hk1 : o.kind = 2) : FnP Tryz.prog 43 [IsEop o, IsSl tPg ks]
    (IsTup [IsSl tI64 [], IsSl tPg (nx2 o ks N).1, IsEout (blkE (nx2 o ks N).2), Is (.bool true)]) := by
  have hnv : nodesV o = [o.client] := by unfold nodesV; rw [if_neg (by omega), if_neg (by omega)]
  have hmp : mget (pgM o ks (linV o).length) o.client = some (latP ks (98 + o.client)) := by unfold pgM; rw [cK_all, hnv]; exact mget_one _ _
  have hmn : mget (ndM o N (linV o).length) o.client = some (N o.client) := by unfold ndM; rw [cK_all, hnv]; exact mget_one _ _
  have hlen : (nx2 o ks N).1.length ≤ 1 := unpE_len _ _ _
  have hasc : AscP (nx2 o ks N).1 := asc_le1 hlen
  have hln : (nx2 o ks N).1.length ≤ 4 := Nat.le_trans hlen (by decide)
  refine FnP.enter Tryz.func43 Tryz.ntmps43 rfl rfl ?_
  intro c hX
  refine JC_seq (JC_region ?_)
  (refine JL_n rfl (op_box (Ev.rfl' rfl) cellsT) ?_; intro i2)
  refine JL_1 rfl (op_assign rfl) (JL_1 rfl (op_assign rfl) ?_)
  (refine JL_n rfl (op_allocN rfl nrmT rfl) ?_; intro i6)
  refine JL_1 rfl (op_assign rfl) (JL_nil ?_)
  refine JQ_then (JC_seq (JC_seq ?_))
  refine JC_region (JL_1 rfl (by exact op_loadPtrsN (n := 6) (Ev.rfl' rfl) memT (by rfl) (by rfl) (by rfl) (by rfl) nrmT) ?_)
  refine JL_1 rfl (op_call Tryz.call56 (isValidE_ok o hok) ⟨evS, trivial⟩) ?_
  refine JL_1 rfl (op_not (Ev.rfl' rfl)) (JL_nil (JQ_then ?_))
  refine JC_cond (Ev.rfl' rfl) (fun h1 => ?_) (fun h1 => ?_)
  · exact absurd h1 (by simp)
  clear h1
  refine JC_skip (JQ_then (JC_seq ?_))
  refine JC_region (JL_1 rfl (by exact op_loadPtrsN (n := 6) (Ev.rfl' rfl) memT (by rfl) (by rfl) (by rfl) (by rfl) nrmT) ?_)
  refine JL_1 rfl (op_move rfl) ?_
  (refine JL_s rfl (op_callN Tryz.call57 (readS_ok o ks g N hrd) ⟨evS, ⟨evS, trivial⟩⟩) ?_; intro i18)
  refine JL_1 rfl (op_move rfl) (JL_1 rfl (op_extract (Ev.rfl' rfl) rfl) (JL_1 rfl (op_extract (Ev.rfl' rfl) rfl) (JL_1 rfl (op_extract (Ev.rfl' rfl) rfl) (JL_1 rfl (op_extract (Ev.rfl' rfl) rfl) ?_))))
  (refine JL_n rfl (op_allocN rfl nrmT rfl) ?_; intro i8)
  refine JL_s0 (op_storeN (Ev.rfl' rfl) (Ev.rfl' rfl) cellsT replT nrmT (by rfl) (by rfl) (by rfl)) ?_
  refine JL_1 rfl (op_assign rfl) (JL_1 rfl (op_assign rfl) (JL_1 rfl (op_assign rfl) (JL_nil ?_)))
  refine JQ_then (JC_seq (JC_seq ?_))
  refine JC_region (JL_1 rfl (op_move rfl) (JL_1 rfl (by exact op_lenLit (Ev.rfl' rfl) rfl) ?_))
  refine JL_1 rfl (op_gtr (Ev.rfl' rfl) (Ev.rfl' rfl)) (JL_nil (JQ_then ?_))
  refine JC_cond (Ev.rfl' rfl) (fun h4 => ?_) (fun h4 => ?_)
  · exact absurd h4 (by simp)
  refine JC_skip (JQ_then (JC_seq (JC_seq ?_)))
  refine JC_region (JL_1 rfl (op_move rfl) (JL_1 rfl (op_neq (Ev.rfl' rfl) (Ev.rfl' rfl)) (JL_nil (JQ_then ?_))))
  refine JC_cond (Ev.rfl' rfl) (fun h6 => ?_) (fun h6 => ?_)
  · exact absurd h6 (by simp)
  refine JC_skip (JQ_then (JC_seq ?_))
  refine JC_region (JL_1 rfl (op_assign rfl) (JL_nil ?_))
  refine JQ_then (JC_seq (JC_seq ?_))
  refine JC_region (JL_1 rfl (by exact op_fieldPtr (k := 0) (Ev.rfl' rfl) rfl rfl rfl rfl) ?_)
  refine JL_1 rfl (by exact op_loadPtr (Ev.rfl' rfl) memT (by rfl) (by rfl) (by rfl)) ?_
  refine JL_nil ?_
  refine JQ_then (JC_block (JC_seq ?_))
  refine JC_region (JL_1 rfl (op_eql (Ev.rfl' rfl) (Ev.rfl' rfl)) (JL_1 rfl (op_assign rfl) (JL_nil (JQ_then ?_))))
  refine JC_cond (Ev.rfl' rfl) (fun h10 => ?_) (fun h10 => ?_)
  · exact absurd h10 (by simp [hk1])
  refine JC_seq (JC_region (JL_1 rfl (op_eql (Ev.rfl' rfl) (Ev.rfl' rfl)) (JL_1 rfl (op_assign rfl) (JL_nil (JQ_then ?_)))))
  refine JC_cond (Ev.rfl' rfl) (fun h12 => ?_) (fun h12 => ?_)
  · refine JC_region (JL_1 rfl (by exact op_loadPtrsN (n := 12) (Ev.rfl' rfl) memT (by rfl) (by rfl) (by rfl) (by rfl) nrmT) ?_)
    refine JL_1 rfl (by exact op_fieldPtr (k := 1) (Ev.rfl' rfl) rfl rfl rfl rfl) ?_
    refine JL_1 rfl (by exact op_loadPtr (Ev.rfl' rfl) memT (by rfl) (by rfl) (by rfl)) ?_
    refine JL_1 rfl (by exact op_fieldPtr (k := 11) (Ev.rfl' rfl) rfl rfl rfl rfl) ?_
    refine JL_1 rfl (by exact op_loadPtr (Ev.rfl' rfl) memT (by rfl) (by rfl) (by rfl)) ?_
    refine JL_1 rfl (by exact op_fieldPtr (k := 1) (Ev.rfl' rfl) rfl rfl rfl rfl) ?_
    refine JL_1 rfl (by exact op_loadPtr (Ev.rfl' rfl) memT (by rfl) (by rfl) (by rfl)) ?_
    refine JL_1 rfl (op_lookupS hmn (Ev.rfl' rfl) memT (Ev.rfl' rfl) rfl rfl rfl) ?_
    refine JL_1 rfl (op_fieldV1 (Ev.rfl' rfl) rfl rfl rfl rfl rfl) (JL_1 rfl (by exact op_fieldPtr (k := 2) (Ev.rfl' rfl) rfl rfl rfl rfl) ?_)
    refine JL_1 rfl (by exact op_loadPtr (Ev.rfl' rfl) memT (by rfl) (by rfl) (by rfl)) ?_
    refine JL_1 rfl (op_eql (Ev.rfl' rfl) (Ev.rfl' rfl)) ?_
    (refine JL_s rfl (op_callM (Drops.cons drop1A (Drops.cons drop1A (Drops.nil _))) Tryz.call59 (unpin_ok ⟨stP o ks (linV o).length, stE o g (linV o).length, i18.1, i18.2⟩ o.client ((N o.client).inc == o.inc) _ _ (N o.client) (latP ks (98 + o.client)) hmp hmn) ⟨evS, ⟨evS, ⟨evS, trivial⟩⟩⟩) ?_; intro i58)
    refine JL_1 rfl (op_move rfl) (JL_1 rfl (op_extract (Ev.rfl' rfl) rfl) (JL_1 rfl (op_extract (Ev.rfl' rfl) rfl) (JL_1 rfl (op_assign rfl) (JL_s0 (op_storeN (Ev.rfl' rfl) (Ev.rfl' rfl) cellsT replT nrmT (by rfl) (by rfl) (by rfl)) ?_))))
    refine JL_nil ?_
    refine JQ_block (JQ_then (JC_seq (JC_seq ?_)))
    rw [show unpE ((N o.client).inc == o.inc) (N o.client) (latP ks (98 + o.client)) = nx2 o ks N from rfl]
    refine JC_region (JL_1 rfl (op_move rfl) (JL_1 rfl (op_move rfl) ?_))
    (refine JL_i0 rfl rfl rfl (fun hg => (by have hg0 := hg; (try simp at hg); exact op_fieldPtr (k := 0) evG rfl rfl rfl rfl)) ?_)
    (refine JL_i0 rfl rfl rfl (fun hg => (by have hg0 := hg; (try simp at hg); exact op_loadPtr evG memT (by rfl) (by rfl) (by rfl))) ?_)
    (refine JL_i0 rfl rfl rfl (fun hg => (by have hg0 := hg; (try simp at hg); exact op_eql evG evG)) ?_)
    (refine JL_i0 rfl rfl rfl (fun hg => (by have hg0 := hg; (try simp at hg); exact op_moveE (Ev.sub rfl (SubL.iteT (by assumption) SubL.rfl')))) ?_)
    (refine JL_i0 rfl rfl rfl (fun hg => (by have hg0 := hg; (try simp at hg); exact op_fieldPtr (k := 0) evG rfl rfl rfl rfl)) ?_)
    (refine JL_i0 rfl rfl rfl (fun hg => (by have hg0 := hg; (try simp at hg); exact op_loadPtr evG memT (by rfl) (by rfl) (by rfl))) ?_)
    (refine JL_i0 rfl rfl rfl (fun hg => (by have hg0 := hg; (try simp at hg); exact op_eql evG evG)) ?_)
    (refine JL_i0 rfl rfl rfl (fun hg => (by have hg0 := hg; (try simp at hg); exact op_and evG rfl (fun h => by exact SubL.iteT (by (rw [h]; rfl)) SubL.rfl'))) ?_)
    (refine JL_i0 rfl rfl rfl (fun hg => (by have hg0 := hg; (try simp at hg); exact op_not evG)) ?_)
    refine JL_1 rfl (op_and (Ev.rfl' rfl) rfl (fun h => by exact SubL.rfl')) ?_
    refine JL_nil (JQ_then ?_)
    refine JC_cond (Ev.rfl' rfl) (fun h22 => ?_) (fun h22 => ?_)
    · refine JC_region (JL_1 rfl (by exact op_fieldPtr (k := 2) (Ev.rfl' rfl) rfl rfl rfl rfl) ?_)
      refine JL_s0 (op_storeN (Ev.rfl' rfl) (Ev.rfl' rfl) cellsT replT nrmT (by rfl) (by rfl) (by rfl)) ?_
      refine JL_nil ?_
      refine JQ_then (JC_seq ?_)
      refine JC_region (JL_1 rfl (op_move rfl) (JL_1 rfl (op_call Tryz.call63 (SortFunc_ok _ hasc hln) ⟨evS, ⟨evS, trivial⟩⟩) ?_))
      refine JL_nil ?_
      refine JQ_then (JC_seq ?_)
      refine JC_dr rfl (by kernel_rfl) ?_
      refine JD_fl (its := []) (JF_1 0 rfl (by kernel_rfl) (op_move rfl) ?_)
      refine JF_1 1 rfl (by kernel_rfl) (op_move rfl) ?_
      refine JF_1 2 rfl (by kernel_rfl) (by exact op_loadPtrsN (n := 5) (Ev.rfl' rfl) memT (by rfl) (by rfl) (by rfl) (by rfl) nrmT) ?_
      refine JF_1f 3 rfl (by kernel_rfl) (fun _ => (op_move rfl)) ?_
      refine JF_1 4 rfl (by kernel_rfl) (op_assign rfl) ?_
      refine JF_1 5 rfl (by kernel_rfl) (op_assign rfl) ?_
      refine JF_b0 6 [0, 1, 2, 4, 5, 6] rfl (by kernel_rfl) (fun c' => by exact op_store (Ev.rfl' rfl) (Ev.rfl' rfl) cellsT replT (by rfl) (by rfl) (by rfl)) ?_
      refine JF_1 7 rfl (by kernel_rfl) (op_assign rfl) ?_
      refine JF_end (by kernel_rfl) rfl ?_
      refine JQ_then (JC_ret ?_)
      exact JQ_retP (Bs := [IsSl tI64 [], IsSl tPg (nx2 o ks N).1, IsEout (blkE (nx2 o ks N).2), Is (.bool true)]) Tryz.results43 ⟨⟨_, rfl, subT⟩, ⟨⟨_, rfl, subT⟩, ⟨⟨_, _, _, _, rfl, memT, rfl, .inr ⟨rfl, _, rfl, rfl, subT⟩⟩, ⟨⟨_, rfl, subT⟩, trivial⟩⟩⟩⟩ () SubL.rfl' lessT
    exact absurd h22 (by simp [hk1])
  exact absurd h12 (by simp [hk1])
def nx6 (o : Eop) (ks : List Pg) (N : Int → Nd) : List Pg × Eout := unpE (decide ((N o.for_).inc ≤ o.inc)) (N o.for_) (latP ks (98 + o.for_))
-- epoch.Next: function 43
set_option maxHeartbeats 4000000 in
theorem next6_ok (o : Eop) (ks : List Pg) (g : BitVec 32) (N : Int → Nd) (hok : OkE o) (hrd : Rdy o ks g N) (hk1 : o.kind = 6) : FnP Tryz.prog 43 [IsEop o, IsSl tPg ks]
    (IsTup [IsSl tI64 [], IsSl tPg (nx6 o ks N).1, IsEout (blkE (nx6 o ks N).2), Is (.bool true)]) := by
  have hnv : nodesV o = [o.for_] := by unfold nodesV; rw [if_pos (by omega)]
  have hmp : mget (pgM o ks (linV o).length) o.for_ = some (latP ks (98 + o.for_)) := by unfold pgM; rw [cK_all, hnv]; exact mget_one _ _
  have hmn : mget (ndM o N (linV o).length) o.for_ = some (N o.for_) := by unfold ndM; rw [cK_all, hnv]; exact mget_one _ _
  have hlen : (nx6 o ks N).1.length ≤ 1 := unpE_len _ _ _
  have hasc : AscP (nx6 o ks N).1 := asc_le1 hlen
  have hln : (nx6 o ks N).1.length ≤ 4 := Nat.le_trans hlen (by decide)
  refine FnP.enter Tryz.func43 Tryz.ntmps43 rfl rfl ?_
  intro c hX
  refine JC_seq (JC_region ?_)
  (refine JL_n rfl (op_box (Ev.rfl' rfl) cellsT) ?_; intro i2)
  refine JL_1 rfl (op_assign rfl) (JL_1 rfl (op_assign rfl) ?_)
  (refine JL_n rfl (op_allocN rfl nrmT rfl) ?_; intro i6)
  refine JL_1 rfl (op_assign rfl) (JL_nil ?_)
  refine JQ_then (JC_seq (JC_seq ?_))
  refine JC_region (JL_1 rfl (by exact op_loadPtrsN (n := 6) (Ev.rfl' rfl) memT (by rfl) (by rfl) (by rfl) (by rfl) nrmT) ?_)
  refine JL_1 rfl (op_call Tryz.call56 (isValidE_ok o hok) ⟨evS, trivial⟩) ?_
  refine JL_1 rfl (op_not (Ev.rfl' rfl)) (JL_nil (JQ_then ?_))
  refine JC_cond (Ev.rfl' rfl) (fun h1 => ?_) (fun h1 => ?_)
  · exact absurd h1 (by simp)
  clear h1
  refine JC_skip (JQ_then (JC_seq ?_))
  refine JC_region (JL_1 rfl (by exact op_loadPtrsN (n := 6) (Ev.rfl' rfl) memT (by rfl) (by rfl) (by rfl) (by rfl) nrmT) ?_)
  refine JL_1 rfl (op_move rfl) ?_
  (refine JL_s rfl (op_callN Tryz.call57 (readS_ok o ks g N hrd) ⟨evS, ⟨evS, trivial⟩⟩) ?_; intro i18)
  refine JL_1 rfl (op_move rfl) (JL_1 rfl (op_extract (Ev.rfl' rfl) rfl) (JL_1 rfl (op_extract (Ev.rfl' rfl) rfl) (JL_1 rfl (op_extract (Ev.rfl' rfl) rfl) (JL_1 rfl (op_extract (Ev.rfl' rfl) rfl) ?_))))
  (refine JL_n rfl (op_allocN rfl nrmT rfl) ?_; intro i8)
  refine JL_s0 (op_storeN (Ev.rfl' rfl) (Ev.rfl' rfl) cellsT replT nrmT (by rfl) (by rfl) (by rfl)) ?_
  refine JL_1 rfl (op_assign rfl) (JL_1 rfl (op_assign rfl) (JL_1 rfl (op_assign rfl) (JL_nil ?_)))
  refine JQ_then (JC_seq (JC_seq ?_))
  refine JC_region (JL_1 rfl (op_move rfl) (JL_1 rfl (by exact op_lenLit (Ev.rfl' rfl) rfl) ?_))
  refine JL_1 rfl (op_gtr (Ev.rfl' rfl) (Ev.rfl' rfl)) (JL_nil (JQ_then ?_))
  refine JC_cond (Ev.rfl' rfl) (fun h4 => ?_) (fun h4 => ?_)
  · exact absurd h4 (by simp)
  refine JC_skip (JQ_then (JC_seq (JC_seq ?_)))
  refine JC_region (JL_1 rfl (op_move rfl) (JL_1 rfl (op_neq (Ev.rfl' rfl) (Ev.rfl' rfl)) (JL_nil (JQ_then ?_))))
  refine JC_cond (Ev.rfl' rfl) (fun h6 => ?_) (fun h6 => ?_)
  · exact absurd h6 (by simp)
  refine JC_skip (JQ_then (JC_seq ?_))
  refine JC_region (JL_1 rfl (op_assign rfl) (JL_nil ?_))
  refine JQ_then (JC_seq (JC_seq ?_))
  refine JC_region (JL_1 rfl (by exact op_fieldPtr (k := 0) (Ev.rfl' rfl) rfl rfl rfl rfl) ?_)
  refine JL_1 rfl (by exact op_loadPtr (Ev.rfl' rfl) memT (by rfl) (by rfl) (by rfl)) ?_
  refine JL_nil ?_
  refine JQ_then (JC_block (JC_seq ?_))
  refine JC_region (JL_1 rfl (op_eql (Ev.rfl' rfl) (Ev.rfl' rfl)) (JL_1 rfl (op_assign rfl) (JL_nil (JQ_then ?_))))
  refine JC_cond (Ev.rfl' rfl) (fun h10 => ?_) (fun h10 => ?_)
  · exact absurd h10 (by simp [hk1])
  refine JC_seq (JC_region (JL_1 rfl (op_eql (Ev.rfl' rfl) (Ev.rfl' rfl)) (JL_1 rfl (op_assign rfl) (JL_nil (JQ_then ?_)))))
  refine JC_cond (Ev.rfl' rfl) (fun h12 => ?_) (fun h12 => ?_)
  · exact absurd h12 (by simp [hk1])
  refine JC_seq (JC_region (JL_1 rfl (op_eql (Ev.rfl' rfl) (Ev.rfl' rfl)) (JL_1 rfl (op_assign rfl) (JL_nil (JQ_then ?_)))))
  refine JC_cond (Ev.rfl' rfl) (fun h14 => ?_) (fun h14 => ?_)
  · refine JC_region (JL_1 rfl (by exact op_loadPtrsN (n := 12) (Ev.rfl' rfl) memT (by rfl) (by rfl) (by rfl) (by rfl) nrmT) ?_)
    refine JL_1 rfl (by exact op_fieldPtr (k := 4) (Ev.rfl' rfl) rfl rfl rfl rfl) ?_
    refine JL_1 rfl (by exact op_loadPtr (Ev.rfl' rfl) memT (by rfl) (by rfl) (by rfl)) ?_
    refine JL_1 rfl (by exact op_fieldPtr (k := 11) (Ev.rfl' rfl) rfl rfl rfl rfl) ?_
    refine JL_1 rfl (by exact op_loadPtr (Ev.rfl' rfl) memT (by rfl) (by rfl) (by rfl)) ?_
    refine JL_1 rfl (by exact op_fieldPtr (k := 4) (Ev.rfl' rfl) rfl rfl rfl rfl) ?_
    refine JL_1 rfl (by exact op_loadPtr (Ev.rfl' rfl) memT (by rfl) (by rfl) (by rfl)) ?_
    refine JL_1 rfl (op_lookupS hmn (Ev.rfl' rfl) memT (Ev.rfl' rfl) rfl rfl rfl) ?_
    refine JL_1 rfl (op_fieldV1 (Ev.rfl' rfl) rfl rfl rfl rfl rfl) (JL_1 rfl (by exact op_fieldPtr (k := 2) (Ev.rfl' rfl) rfl rfl rfl rfl) ?_)
    refine JL_1 rfl (by exact op_loadPtr (Ev.rfl' rfl) memT (by rfl) (by rfl) (by rfl)) ?_
    refine JL_1 rfl (op_leq (Ev.rfl' rfl) (Ev.rfl' rfl)) ?_
    (refine JL_s rfl (op_callM (Drops.cons drop1A (Drops.cons drop1A (Drops.nil _))) Tryz.call59 (unpin_ok ⟨stP o ks (linV o).length, stE o g (linV o).length, i18.1, i18.2⟩ o.for_ (decide ((N o.for_).inc ≤ o.inc)) _ _ (N o.for_) (latP ks (98 + o.for_)) hmp hmn) ⟨evS, ⟨evS, ⟨evS, trivial⟩⟩⟩) ?_; intro i76)
    refine JL_1 rfl (op_move rfl) (JL_1 rfl (op_extract (Ev.rfl' rfl) rfl) (JL_1 rfl (op_extract (Ev.rfl' rfl) rfl) (JL_1 rfl (op_assign rfl) (JL_s0 (op_storeN (Ev.rfl' rfl) (Ev.rfl' rfl) cellsT replT nrmT (by rfl) (by rfl) (by rfl)) ?_))))
    refine JL_nil ?_
    refine JQ_block (JQ_then (JC_seq (JC_seq ?_)))
    rw [show unpE (decide ((N o.for_).inc ≤ o.inc)) (N o.for_) (latP ks (98 + o.for_)) = nx6 o ks N from rfl]
    refine JC_region (JL_1 rfl (op_move rfl) (JL_1 rfl (op_move rfl) ?_))
    (refine JL_i0 rfl rfl rfl (fun hg => (by have hg0 := hg; (try simp at hg); exact op_fieldPtr (k := 0) evG rfl rfl rfl rfl)) ?_)
    (refine JL_i0 rfl rfl rfl (fun hg => (by have hg0 := hg; (try simp at hg); exact op_loadPtr evG memT (by rfl) (by rfl) (by rfl))) ?_)
    (refine JL_i0 rfl rfl rfl (fun hg => (by have hg0 := hg; (try simp at hg); exact op_eql evG evG)) ?_)
    (refine JL_i0 rfl rfl rfl (fun hg => (by have hg0 := hg; (try simp at hg); exact op_moveE (Ev.sub rfl (SubL.iteT (by assumption) SubL.rfl')))) ?_)
    (refine JL_i0 rfl rfl rfl (fun hg => (by have hg0 := hg; (try simp at hg); exact op_fieldPtr (k := 0) evG rfl rfl rfl rfl)) ?_)
    (refine JL_i0 rfl rfl rfl (fun hg => (by have hg0 := hg; (try simp at hg); exact op_loadPtr evG memT (by rfl) (by rfl) (by rfl))) ?_)
    (refine JL_i0 rfl rfl rfl (fun hg => (by have hg0 := hg; (try simp at hg); exact op_eql evG evG)) ?_)
    (refine JL_i0 rfl rfl rfl (fun hg => (by have hg0 := hg; (try simp at hg); exact op_and evG rfl (fun h => by exact SubL.iteT (by (rw [h]; rfl)) SubL.rfl'))) ?_)
    (refine JL_i0 rfl rfl rfl (fun hg => (by have hg0 := hg; (try simp at hg); exact op_not evG)) ?_)
    refine JL_1 rfl (op_and (Ev.rfl' rfl) rfl (fun h => by exact SubL.rfl')) ?_
    refine JL_nil (JQ_then ?_)
    refine JC_cond (Ev.rfl' rfl) (fun h22 => ?_) (fun h22 => ?_)
    · refine JC_region (JL_1 rfl (by exact op_fieldPtr (k := 2) (Ev.rfl' rfl) rfl rfl rfl rfl) ?_)
      refine JL_s0 (op_storeN (Ev.rfl' rfl) (Ev.rfl' rfl) cellsT replT nrmT (by rfl) (by rfl) (by rfl)) ?_
      refine JL_nil ?_
      refine JQ_then (JC_seq ?_)
      refine JC_region (JL_1 rfl (op_move rfl) (JL_1 rfl (op_call Tryz.call63 (SortFunc_ok _ hasc hln) ⟨evS, ⟨evS, trivial⟩⟩) ?_))
      refine JL_nil ?_
      refine JQ_then (JC_seq ?_)
      refine JC_dr rfl (by kernel_rfl) ?_
      refine JD_fl (its := []) (JF_1 0 rfl (by kernel_rfl) (op_move rfl) ?_)
      refine JF_1 1 rfl (by kernel_rfl) (op_move rfl) ?_
      refine JF_1 2 rfl (by kernel_rfl) (by exact op_loadPtrsN (n := 5) (Ev.rfl' rfl) memT (by rfl) (by rfl) (by rfl) (by rfl) nrmT) ?_
      refine JF_1f 3 rfl (by kernel_rfl) (fun _ => (op_move rfl)) ?_
      refine JF_1 4 rfl (by kernel_rfl) (op_assign rfl) ?_
      refine JF_1 5 rfl (by kernel_rfl) (op_assign rfl) ?_
      refine JF_b0 6 [0, 1, 2, 4, 5, 6] rfl (by kernel_rfl) (fun c' => by exact op_store (Ev.rfl' rfl) (Ev.rfl' rfl) cellsT replT (by rfl) (by rfl) (by rfl)) ?_
      refine JF_1 7 rfl (by kernel_rfl) (op_assign rfl) ?_
      refine JF_end (by kernel_rfl) rfl ?_
      refine JQ_then (JC_ret ?_)
      exact JQ_retP (Bs := [IsSl tI64 [], IsSl tPg (nx6 o ks N).1, IsEout (blkE (nx6 o ks N).2), Is (.bool true)]) Tryz.results43 ⟨⟨_, rfl, subT⟩, ⟨⟨_, rfl, subT⟩, ⟨⟨_, _, _, _, rfl, memT, rfl, .inr ⟨rfl, _, rfl, rfl, subT⟩⟩, ⟨⟨_, rfl, subT⟩, trivial⟩⟩⟩⟩ () SubL.rfl' lessT
    exact absurd h22 (by simp [hk1])
  exact absurd h14 (by simp [hk1])
end Go.Proofs.YtfkmbdpnjcgimaaGreat

/- Contracts: epoch.Next, retire. Own work. -/
namespace Go.Proofs.YtfkmbdpnjcgimaaGreat
open Go.RowKit
set_option linter.unusedVariables false
set_option linter.unusedSimpArgs false
set_option maxRecDepth 100000
theorem retireO_ok (s : Est) (o : Eop) (p : Pt) (l : List (Int × Pg)) (ln : List (Int × Nd)) (n : Nd) (pg : Pg) (hk1 : o.kind = 4) (hls : o.list = [p]) (hmp : mget l o.client = some pg) (hmn : mget ln o.client = some n) (hno : ∀ j, j < 4 → ¬ rj n j = Re.nil → ¬ (rj n j).to = p) :
    Fn Tryz.prog 61 [IsEst s, IsEop o] [mp s.b1 IsPg l, mp s.b2 IsNd ln]
    (fun _ : Unit => IsTup [IsSl tPg (retrE s n p pg).1, IsEout (retrE s n p pg).2]) (fun _ => [mp s.b1 IsPg l, mp s.b2 IsNd ln]) := by
  obtain ⟨kd, cl, inc, lns, fr, ls⟩ := o
  dsimp only at hk1 hls hmp hmn
  subst hk1
  subst hls
  exact retire_ok s cl inc lns fr p l ln n pg hmp hmn hno
def nx4 (o : Eop) (p : Pt) (ks : List Pg) (g : BitVec 32) (N : Int → Nd) : List Pg × Eout := retrE ⟨Pg.nil, g, 0, 0⟩ (N o.client) p (latP ks (98 + o.client))
-- epoch.Next: function 43
set_option maxHeartbeats 4000000 in
theorem next4_ok (o : Eop) (p : Pt) (ks : List Pg) (g : BitVec 32) (N : Int → Nd) (hok : OkE o) (hrd : Rdy o ks g N) (hk1 : o.kind = 4) (hls : o.list = [p]) (hno : ∀ j, j < 4 → ¬ rj (N o.client) j = Re.nil → ¬ (rj (N o.client) j).to = p) : FnP Tryz.prog 43 [IsEop o, IsSl tPg ks]
    (IsTup [IsSl tI64 [], IsSl tPg (nx4 o p ks g N).1, IsEout (blkE (nx4 o p ks g N).2), Is (.bool true)]) := by
  have hnv : nodesV o = [o.client] := by unfold nodesV; rw [if_neg (by omega), if_neg (by omega)]
  have hmp : mget (pgM o ks (linV o).length) o.client = some (latP ks (98 + o.client)) := by unfold pgM; rw [cK_all, hnv]; exact mget_one _ _
  have hmn : mget (ndM o N (linV o).length) o.client = some (N o.client) := by unfold ndM; rw [cK_all, hnv]; exact mget_one _ _
  have hE : hasE o = true := by unfold hasE; rw [hk1]; rfl
  have hep : stE o g (linV o).length = g := by unfold stE; rw [if_pos ⟨hE, linE_pos o⟩]
  have hlen : (nx4 o p ks g N).1.length ≤ 1 := retrE_len _ _ _ _
  have hasc : AscP (nx4 o p ks g N).1 := asc_le1 hlen
  have hln : (nx4 o p ks g N).1.length ≤ 4 := Nat.le_trans hlen (by decide)
  refine FnP.enter Tryz.func43 Tryz.ntmps43 rfl rfl ?_
  intro c hX
  refine JC_seq (JC_region ?_)
  (refine JL_n rfl (op_box (Ev.rfl' rfl) cellsT) ?_; intro i2)
  refine JL_1 rfl (op_assign rfl) (JL_1 rfl (op_assign rfl) ?_)
  (refine JL_n rfl (op_allocN rfl nrmT rfl) ?_; intro i6)
  refine JL_1 rfl (op_assign rfl) (JL_nil ?_)
  refine JQ_then (JC_seq (JC_seq ?_))
  refine JC_region (JL_1 rfl (by exact op_loadPtrsN (n := 6) (Ev.rfl' rfl) memT (by rfl) (by rfl) (by rfl) (by rfl) nrmT) ?_)
  refine JL_1 rfl (op_call Tryz.call56 (isValidE_ok o hok) ⟨evS, trivial⟩) ?_
  refine JL_1 rfl (op_not (Ev.rfl' rfl)) (JL_nil (JQ_then ?_))
  refine JC_cond (Ev.rfl' rfl) (fun h1 => ?_) (fun h1 => ?_)
  · exact absurd h1 (by simp)
  clear h1
  refine JC_skip (JQ_then (JC_seq ?_))
  refine JC_region (JL_1 rfl (by exact op_loadPtrsN (n := 6) (Ev.rfl' rfl) memT (by rfl) (by rfl) (by rfl) (by rfl) nrmT) ?_)
  refine JL_1 rfl (op_move rfl) ?_
  (refine JL_s rfl (op_callN Tryz.call57 (readS_ok o ks g N hrd) ⟨evS, ⟨evS, trivial⟩⟩) ?_; intro i18)
  refine JL_1 rfl (op_move rfl) (JL_1 rfl (op_extract (Ev.rfl' rfl) rfl) (JL_1 rfl (op_extract (Ev.rfl' rfl) rfl) (JL_1 rfl (op_extract (Ev.rfl' rfl) rfl) (JL_1 rfl (op_extract (Ev.rfl' rfl) rfl) ?_))))
  (refine JL_n rfl (op_allocN rfl nrmT rfl) ?_; intro i8)
  refine JL_s0 (op_storeN (Ev.rfl' rfl) (Ev.rfl' rfl) cellsT replT nrmT (by rfl) (by rfl) (by rfl)) ?_
  refine JL_1 rfl (op_assign rfl) (JL_1 rfl (op_assign rfl) (JL_1 rfl (op_assign rfl) (JL_nil ?_)))
  refine JQ_then (JC_seq (JC_seq ?_))
  have hpe : retrE ⟨stP o ks (linV o).length, stE o g (linV o).length, i18.1, i18.2⟩ (N o.client) p (latP ks (98 + o.client)) = nx4 o p ks g N := by rw [hep]; rfl
  refine JC_region (JL_1 rfl (op_move rfl) (JL_1 rfl (by exact op_lenLit (Ev.rfl' rfl) rfl) ?_))
  refine JL_1 rfl (op_gtr (Ev.rfl' rfl) (Ev.rfl' rfl)) (JL_nil (JQ_then ?_))
  refine JC_cond (Ev.rfl' rfl) (fun h4 => ?_) (fun h4 => ?_)
  · exact absurd h4 (by simp)
  refine JC_skip (JQ_then (JC_seq (JC_seq ?_)))
  refine JC_region (JL_1 rfl (op_move rfl) (JL_1 rfl (op_neq (Ev.rfl' rfl) (Ev.rfl' rfl)) (JL_nil (JQ_then ?_))))
  refine JC_cond (Ev.rfl' rfl) (fun h6 => ?_) (fun h6 => ?_)
  · exact absurd h6 (by simp)
  refine JC_skip (JQ_then (JC_seq ?_))
  refine JC_region (JL_1 rfl (op_assign rfl) (JL_nil ?_))
  refine JQ_then (JC_seq (JC_seq ?_))
  refine JC_region (JL_1 rfl (by exact op_fieldPtr (k := 0) (Ev.rfl' rfl) rfl rfl rfl rfl) ?_)
  refine JL_1 rfl (by exact op_loadPtr (Ev.rfl' rfl) memT (by rfl) (by rfl) (by rfl)) ?_
  refine JL_nil ?_
  refine JQ_then (JC_block (JC_seq ?_))
  refine JC_region (JL_1 rfl (op_eql (Ev.rfl' rfl) (Ev.rfl' rfl)) (JL_1 rfl (op_assign rfl) (JL_nil (JQ_then ?_))))
  refine JC_cond (Ev.rfl' rfl) (fun h10 => ?_) (fun h10 => ?_)
  · exact absurd h10 (by simp [hk1])
  refine JC_seq (JC_region (JL_1 rfl (op_eql (Ev.rfl' rfl) (Ev.rfl' rfl)) (JL_1 rfl (op_assign rfl) (JL_nil (JQ_then ?_)))))
  refine JC_cond (Ev.rfl' rfl) (fun h12 => ?_) (fun h12 => ?_)
  · exact absurd h12 (by simp [hk1])
  refine JC_seq (JC_region (JL_1 rfl (op_eql (Ev.rfl' rfl) (Ev.rfl' rfl)) (JL_1 rfl (op_assign rfl) (JL_nil (JQ_then ?_)))))
  refine JC_cond (Ev.rfl' rfl) (fun h14 => ?_) (fun h14 => ?_)
  · exact absurd h14 (by simp [hk1])
  refine JC_seq (JC_region (JL_1 rfl (op_eql (Ev.rfl' rfl) (Ev.rfl' rfl)) (JL_1 rfl (op_assign rfl) (JL_nil (JQ_then ?_)))))
  refine JC_cond (Ev.rfl' rfl) (fun h16 => ?_) (fun h16 => ?_)
  · exact absurd h16 (by simp [hk1])
  refine JC_seq (JC_region (JL_1 rfl (op_eql (Ev.rfl' rfl) (Ev.rfl' rfl)) (JL_1 rfl (op_assign rfl) (JL_nil (JQ_then ?_)))))
  refine JC_cond (Ev.rfl' rfl) (fun h18 => ?_) (fun h18 => ?_)
  · refine JC_region (JL_1 rfl (by exact op_loadPtrsN (n := 12) (Ev.rfl' rfl) memT (by rfl) (by rfl) (by rfl) (by rfl) nrmT) ?_)
    refine JL_1 rfl (by exact op_loadPtrsN (n := 6) (Ev.rfl' rfl) memT (by rfl) (by rfl) (by rfl) (by rfl) nrmT) ?_
    (refine JL_s rfl (op_callM (Drops.cons drop1A (Drops.cons drop1A (Drops.nil _))) Tryz.call61 (retireO_ok ⟨stP o ks (linV o).length, stE o g (linV o).length, i18.1, i18.2⟩ o p _ _ (N o.client) (latP ks (98 + o.client)) hk1 hls hmp hmn hno) ⟨evS, ⟨evS, trivial⟩⟩) ?_; intro i92)
    refine JL_1 rfl (op_move rfl) (JL_1 rfl (op_extract (Ev.rfl' rfl) rfl) (JL_1 rfl (op_extract (Ev.rfl' rfl) rfl) (JL_1 rfl (op_assign rfl) (JL_s0 (op_storeN (Ev.rfl' rfl) (Ev.rfl' rfl) cellsT replT nrmT (by rfl) (by rfl) (by rfl)) ?_))))
    refine JL_nil ?_
    refine JQ_block (JQ_then (JC_seq (JC_seq ?_)))
    rw [hpe]
    refine JC_region (JL_1 rfl (op_move rfl) (JL_1 rfl (op_move rfl) ?_))
    (refine JL_i0 rfl rfl rfl (fun hg => (by have hg0 := hg; (try simp at hg); exact op_fieldPtr (k := 0) evG rfl rfl rfl rfl)) ?_)
    (refine JL_i0 rfl rfl rfl (fun hg => (by have hg0 := hg; (try simp at hg); exact op_loadPtr evG memT (by rfl) (by rfl) (by rfl))) ?_)
    (refine JL_i0 rfl rfl rfl (fun hg => (by have hg0 := hg; (try simp at hg); exact op_eql evG evG)) ?_)
    (refine JL_i0 rfl rfl rfl (fun hg => (by have hg0 := hg; (try simp at hg); exact op_moveE (Ev.sub rfl (SubL.iteT (by assumption) SubL.rfl')))) ?_)
    (refine JL_i0 rfl rfl rfl (fun hg => (by have hg0 := hg; (try simp at hg); exact op_fieldPtr (k := 0) evG rfl rfl rfl rfl)) ?_)
    (refine JL_i0 rfl rfl rfl (fun hg => (by have hg0 := hg; (try simp at hg); exact op_loadPtr evG memT (by rfl) (by rfl) (by rfl))) ?_)
    (refine JL_i0 rfl rfl rfl (fun hg => (by have hg0 := hg; (try simp at hg); exact op_eql evG evG)) ?_)
    (refine JL_i0 rfl rfl rfl (fun hg => (by have hg0 := hg; (try simp at hg); exact op_and evG rfl (fun h => by exact SubL.iteT (by (rw [h]; rfl)) SubL.rfl'))) ?_)
    (refine JL_i0 rfl rfl rfl (fun hg => (by have hg0 := hg; (try simp at hg); exact op_not evG)) ?_)
    refine JL_1 rfl (op_and (Ev.rfl' rfl) rfl (fun h => by exact SubL.rfl')) ?_
    refine JL_nil (JQ_then ?_)
    refine JC_cond (Ev.rfl' rfl) (fun h22 => ?_) (fun h22 => ?_)
    · refine JC_region (JL_1 rfl (by exact op_fieldPtr (k := 2) (Ev.rfl' rfl) rfl rfl rfl rfl) ?_)
      refine JL_s0 (op_storeN (Ev.rfl' rfl) (Ev.rfl' rfl) cellsT replT nrmT (by rfl) (by rfl) (by rfl)) ?_
      refine JL_nil ?_
      refine JQ_then (JC_seq ?_)
      refine JC_region (JL_1 rfl (op_move rfl) (JL_1 rfl (op_call Tryz.call63 (SortFunc_ok _ hasc hln) ⟨evS, ⟨evS, trivial⟩⟩) ?_))
      refine JL_nil ?_
      refine JQ_then (JC_seq ?_)
      refine JC_dr rfl (by kernel_rfl) ?_
      refine JD_fl (its := []) (JF_1 0 rfl (by kernel_rfl) (op_move rfl) ?_)
      refine JF_1 1 rfl (by kernel_rfl) (op_move rfl) ?_
      refine JF_1 2 rfl (by kernel_rfl) (by exact op_loadPtrsN (n := 5) (Ev.rfl' rfl) memT (by rfl) (by rfl) (by rfl) (by rfl) nrmT) ?_
      refine JF_1f 3 rfl (by kernel_rfl) (fun _ => (op_move rfl)) ?_
      refine JF_1 4 rfl (by kernel_rfl) (op_assign rfl) ?_
      refine JF_1 5 rfl (by kernel_rfl) (op_assign rfl) ?_
      refine JF_b0 6 [0, 1, 2, 4, 5, 6] rfl (by kernel_rfl) (fun c' => by exact op_store (Ev.rfl' rfl) (Ev.rfl' rfl) cellsT replT (by rfl) (by rfl) (by rfl)) ?_
      refine JF_1 7 rfl (by kernel_rfl) (op_assign rfl) ?_
      refine JF_end (by kernel_rfl) rfl ?_
      refine JQ_then (JC_ret ?_)
      exact JQ_retP (Bs := [IsSl tI64 [], IsSl tPg (nx4 o p ks g N).1, IsEout (blkE (nx4 o p ks g N).2), Is (.bool true)]) Tryz.results43 ⟨⟨_, rfl, subT⟩, ⟨⟨_, rfl, subT⟩, ⟨⟨_, _, _, _, rfl, memT, rfl, .inr ⟨rfl, _, rfl, rfl, subT⟩⟩, ⟨⟨_, rfl, subT⟩, trivial⟩⟩⟩⟩ () SubL.rfl' lessT
    exact absurd h22 (by simp [hk1])
  exact absurd h18 (by simp [hk1])
end Go.Proofs.YtfkmbdpnjcgimaaGreat
