/- Mouths: copies, what is told again, and that the others come to mouths within bounds; there is no condition beyond those each statement names. -/
import Derived.Test.YtpeejmolbmhjjaaF10
namespace Go.Proofs.Ytpeejmolbmhjjaa.Sx
set_option linter.unusedSimpArgs false
set_option linter.unusedVariables false
open Go
set_option maxRecDepth 100000
set_option maxHeartbeats 0
/-- A function without boxes that comes to something of this kind. -/
def Fx (f : FuncId) (args : List PV) (R : TV → Prop) : Prop := FnM Try.prog f [] args fun o => ∃ v, R v ∧ o = { res := v }
theorem goE {f : FuncId} {args : List PV} {R : TV → Prop} {M : Nat → Option (List AV)} {ok : Nat → Bool} {K : List (Nat × List AV) → Out → Prop} (h : Fx f args R) (hk : ∀ v, R v → K [] { res := v }) :
    ∃ (m : List (Nat × List AV)) (R : Out → Prop), FnM Try.prog f m args R ∧ memIs M ok m ∧ ∀ o, R o → (o.tk.all fun x => Nat.ble 2 x.1 && Nat.blt x.1 9) = true → K m o :=
  ⟨[], _, h, trivial, fun o ho _ => by obtain ⟨v, hv, rfl⟩ := ho; exact hk v hv⟩
theorem retE {T : TT} {rs : List ResultVar} {s : St} {ps : List PV} {R : TV → Prop} (h : resVs T s rs = some ps) (h2 : (ps.all fun p => p.2.all (resA [] 0)) = true) (hR : R (resOf [] 0 ps)) :
    Hold (atRet T rs [] (fun o => ∃ v, R v ∧ o = { res := v }) s) := retG [] 0 h rfl h2 rfl rfl rfl ⟨_, hR, rfl⟩
abbrev byts (l : List Int) : PV := (false, [.lst 0 0 5 (bytes l)])
theorem Mouth.ok_base {m : Mouth} (h : m.ok = true) : m.base := by
  simp only [Mouth.ok, decide_eq_true_eq] at h; exact h.1
theorem Mouth.ok_at {m : Mouth} (h : m.ok = true) (j : Nat) (hj : j < m.early.length) : m.heard < (rat m.early j).fr ∧ (rat m.early j).fr < (rat m.early j).to ∧ (rat m.early j).to ≤ m.heard + m.sent := by
  cases hq : m.okAt j with
  | true => simp only [Mouth.okAt, decide_eq_true_eq] at hq; exact ⟨hq.1, hq.2.1, hq.2.2.1⟩
  | false => rw [Mouth.ok_not (Mouth.ok_base h).2.2.2.2 j hj hq] at h; cases h
theorem clipB_ok (l : List Int) (hl : l.length < 1000000000) : Pure 186 [byts l] (.pv (byts l)) := by
  refine fn_of_vc tab_ok mixed Try.call186 Try.func186 rfl [] _ _ (by kernel_rfl) rfl rfl rfl ?_
  (conv => whnf)
  refine ⟨rfl, by omega, by omega, ?_⟩
  (conv => whnf)
  refine ret1 (by rfl) (by rfl) ?_
  show ({ res := .pv (false, [AV.lst 0 0 5 _]) } : Out) = _
  simp only [Int.toNat_natCast, List.take_length]
theorem cloneB_ok (l : List Int) (hl : l.length < 1000000000) : Pure 160 [byts l] (.pv (byts l)) := by
  have hbl := bytes_len l
  refine fn_of_vc tab_ok mixed Try.call160 Try.func160 rfl [] _ _ (by kernel_rfl) rfl rfl rfl ?_
  (conv => whnf); split <;> rename_i hq
  · (conv => whnf); refine ret1 (by rfl) (by rfl) ?_
    have : l = [] := by simpa using hq
    subst this; rfl
  (conv => whnf)
  refine ⟨by show (0 + (bytes l).length) * 1 ≤ 140737488355328; omega, ?_⟩
  (conv => whnf); refine goP (clipB_ok l hl) ?_
  (conv => whnf)
  refine ret1 (by rfl) (by rfl) ?_
  rfl
theorem copyM_ok (m : Mouth) (hk : m.keep.length < 1000000000) (he : m.early.length < 1000000000) : Pure 184 [m.v] (.pv m.v) := by
  have hbl := bytes_len m.keep
  refine fn_of_vc tab_ok mixed Try.call184 Try.func184 rfl [] _ _ (by kernel_rfl) rfl rfl rfl ?_
  (conv => whnf)
  refine ⟨by show (0 + (bytes m.keep).length) * 1 ≤ 140737488355328; omega, ?_⟩
  (conv => whnf)
  refine ⟨rfl, rfl, ?_⟩
  (conv => whnf)
  refine ⟨by show (0 + (m.early.map Rng.c).length) * 16 ≤ 140737488355328; simp; omega, ?_⟩
  (conv => whnf)
  refine ⟨rfl, rfl, ?_⟩
  (conv => whnf)
  exact ret1 (by rfl) (by rfl) (by rfl)
def mi (a b : Int) : Int := if b < a then b else a
theorem mi_r (a b : Int) : mi a b ≤ a ∧ mi a b ≤ b ∧ (mi a b = a ∨ mi a b = b) := by unfold mi; split <;> omega
theorem mi_comm (a b : Int) : mi a b = mi b a := by have := mi_r a b; have := mi_r b a; omega
/-- How many bytes are told again. -/
def Mouth.againN (m : Mouth) (limit : Int) : Int := match m.early with
  | [] => mi limit m.sent
  | r :: _ => mi (mi limit m.sent) (r.fr - m.heard)
theorem againN_r {m : Mouth} (h : m.ok = true) {limit : Int} (hl : 1 ≤ limit ∧ limit ≤ 12) : 0 ≤ m.againN limit ∧ m.againN limit ≤ m.keep.length ∧ m.againN limit ≤ m.sent ∧ (0 < m.sent → 0 < m.againN limit) ∧ ∀ j, j < m.early.length → m.againN limit ≤ (rat m.early j).fr - m.heard := by
  have hb := Mouth.ok_base h
  have hat := fun j hj => Mouth.ok_at h j hj
  obtain ⟨h1, h2, h3, h4, h5⟩ := hb
  have h0 : ∀ j, j < m.early.length → (rat m.early 0).fr ≤ (rat m.early j).fr := by
    intro j hj
    cases hq : m.okAt j with
    | false => rw [Mouth.ok_not h5 j hj hq] at h; cases h
    | true =>
      simp only [Mouth.okAt, decide_eq_true_eq] at hq
      have h01 := hat 0 (by omega)
      have : j = 0 ∨ j = 1 := by omega
      rcases this with rfl | rfl
      · omega
      · have := hq.2.2.2
        simp at this; omega
  have m1 := mi_r limit m.sent
  unfold Mouth.againN
  cases hm : m.early with
  | nil => dsimp only; exact ⟨by omega, by omega, by omega, by omega, fun j hj => by simp at hj⟩
  | cons r rs =>
    have hr : rat m.early 0 = r := by rw [hm]; rfl
    have h6 := hat 0 (by rw [hm]; simp)
    rw [hr] at h6
    dsimp only
    have m2 := mi_r (mi limit m.sent) (r.fr - m.heard)
    refine ⟨by omega, by omega, by omega, by omega, fun j hj => ?_⟩
    have h7 := h0 j (by rw [hm]; exact hj)
    rw [hr, hm] at h7
    omega
theorem bytes_take (l : List Int) (n : Nat) : (bytes l).take n = bytes (l.take n) := by simp [bytes, List.map_take]
theorem bytes_drop (l : List Int) (n : Nat) : (bytes l).drop n = bytes (l.drop n) := by simp [bytes, List.map_drop]
theorem bytes_app (a b : List Int) : bytes a ++ bytes b = bytes (a ++ b) := by simp [bytes]
theorem again_ok (m : Mouth) (limit : Int) (h : m.ok = true) (hl : 1 ≤ limit ∧ limit ≤ 12) : Pure 126 [m.v, int limit] (.pv (byts (m.keep.take (m.againN limit).toNat))) := by
  obtain ⟨r1, r2, r3, _, _⟩ := againN_r h hl
  have hb := Mouth.ok_base h
  obtain ⟨hd, kp, st, rm, er⟩ := m
  have hbl := bytes_len kp
  obtain ⟨b1, b2, b3, b4, b5⟩ := hb
  dsimp only at *
  cases er with
  | nil =>
    refine fn_of_vc tab_ok mixed Try.call126 Try.func126 rfl [] _ _ (by kernel_rfl) rfl rfl rfl ?_
    (conv => whnf)
    refine ⟨r1, by rw [hbl]; exact r2, ?_⟩
    rw [bytes_take]
    (conv => whnf); refine goP (cloneB_ok _ (by simp; omega)) ?_
    (conv => whnf); exact ret1 (by rfl) (by rfl) (by rfl)
  | cons r rs =>
    have h6 := Mouth.ok_at h 0 (by simp)
    simp [rat] at h6
    refine fn_of_vc tab_ok mixed Try.call126 Try.func126 rfl [] _ _ (by kernel_rfl) rfl rfl rfl ?_
    (conv => whnf)
    split <;> rename_i hq
    · (conv => whnf)
      refine ⟨[0, 1, 2, 3, 4, 5, 6, 7, 8, 9, 10], [(2, [2]), (7, [2])], (by kernel_rfl), ?_⟩
      (conv => whnf)
      refine goIdx r.c (by omega) rfl rfl ?_
      (conv => whnf); refine goW (by first | omega | (dsimp only; omega)) (by first | omega | (dsimp only; omega)) ?_
      (conv => whnf)
      refine ⟨r1, by rw [hbl]; exact r2, ?_⟩
      rw [bytes_take]
      (conv => whnf); refine goP (cloneB_ok _ (by simp; omega)) ?_
      (conv => whnf); exact ret1 (by rfl) (by rfl) (by rfl)
    · simp at hq
theorem mouthAgain_ok (m : Mouth) (limit : Int) (hk : m.keep.length < 1000000000) (he : m.early.length < 1100000) :
    Pure 67 [m.v, int limit] (if m.ok = true ∧ 1 ≤ limit ∧ limit ≤ 12 then .tup [int m.heard, byts (m.keep.take (m.againN limit).toNat)] else .tup [int 0, byts []]) := by
  refine fn_of_vc tab_ok mixed Try.call67 Try.func67 rfl [] _ _ (by kernel_rfl) rfl rfl rfl ?_
  (conv => whnf); refine goP (mouthOk_ok m hk he) ?_
  (conv => whnf)
  cases hok : m.ok with
  | false =>
    (conv => whnf)
    rw [if_neg (by simp)]
    exact retG [] 0 (by rfl) (by rfl) (by rfl) (by rfl) (by rfl) (by rfl) rfl
  | true =>
    (conv => whnf); refine goP (in_ok _ _ _) ?_
    (conv => whnf)
    split <;> rename_i hq
    · (conv => whnf)
      rw [if_neg (by rintro ⟨_, h⟩; simp [inB] at hq; omega)]
      exact retG [] 0 (by rfl) (by rfl) (by rfl) (by rfl) (by rfl) (by rfl) rfl
    · have hl : 1 ≤ limit ∧ limit ≤ 12 := by simpa [inB] using hq
      rw [if_pos ⟨rfl, hl⟩]
      (conv => whnf)
      refine ⟨[0, 1, 2, 3, 4, 5, 6], [(1, [2]), (2, [2])], (by kernel_rfl), ?_⟩
      (conv => whnf)
      refine goP (again_ok m limit hok hl) ?_
      (conv => whnf)
      exact retG [] 0 (by rfl) (by rfl) (by rfl) (by rfl) (by rfl) (by rfl) rfl
theorem mouthAgain_ok' (m : Mouth) (limit : Int) (hk : m.keep.length < 1000000000) (he : m.early.length < 1100000) :
    Pure 68 [m.v, int limit] (if m.ok = true ∧ 1 ≤ limit ∧ limit ≤ 12 then .tup [int m.heard, byts (m.keep.take (m.againN limit).toNat)] else .tup [int 0, byts []]) := by
  refine fn_of_vc tab_ok mixed Try.call68 Try.func68 rfl [] _ _ (by kernel_rfl) rfl rfl rfl ?_
  (conv => whnf); refine goP (mouthOk_ok' m hk he) ?_
  (conv => whnf)
  cases hok : m.ok with
  | false =>
    (conv => whnf)
    rw [if_neg (by simp)]
    exact retG [] 0 (by rfl) (by rfl) (by rfl) (by rfl) (by rfl) (by rfl) rfl
  | true =>
    (conv => whnf); refine goP (l1In_ok _ _ _) ?_
    (conv => whnf)
    split <;> rename_i hq
    · (conv => whnf)
      rw [if_neg (by rintro ⟨_, h⟩; simp [inB] at hq; omega)]
      exact retG [] 0 (by rfl) (by rfl) (by rfl) (by rfl) (by rfl) (by rfl) rfl
    · have hl : 1 ≤ limit ∧ limit ≤ 12 := by simpa [inB] using hq
      rw [if_pos ⟨rfl, hl⟩]
      obtain ⟨r1, r2, r3, _, _⟩ := againN_r hok hl
      obtain ⟨b1, b2, b3, b4, b5⟩ := Mouth.ok_base hok
      have hbl := bytes_len m.keep
      obtain ⟨hd, kp, st, rm, er⟩ := m
      dsimp only at *
      cases er with
      | nil =>
        have hmi : mi st limit = Mouth.againN ⟨hd, kp, st, rm, []⟩ limit := mi_comm _ _
        (conv => whnf)
        refine ⟨[0, 1, 2, 3, 4, 5, 6, 7, 8, 9], [(1, [2]), (4, [2])], (by kernel_rfl), ?_⟩
        (conv => whnf)
        rw [show minList [limit] st = _ from hmi]
        refine ⟨r1, by rw [hbl]; exact r2, ?_⟩
        rw [bytes_take]
        (conv => whnf)
        refine ⟨by show (0 + (bytes _).length) * 1 ≤ 140737488355328; simp; omega, rfl, rfl, ?_⟩
        (conv => whnf)
        exact retG [] 0 (by rfl) (by rfl) (by rfl) (by rfl) (by rfl) (by rfl) rfl
      | cons r rs =>
        have h6 := Mouth.ok_at hok 0 (by simp)
        simp [rat] at h6
        have hmi : mi (mi st limit) (r.fr - hd) = Mouth.againN ⟨hd, kp, st, rm, r :: rs⟩ limit := by rw [mi_comm st limit]; rfl
        (conv => whnf)
        split <;> rename_i hq2
        · (conv => whnf)
          refine ⟨[0, 1, 2, 3, 4, 5, 6, 7, 8, 9, 10], [(2, [2]), (7, [2])], (by kernel_rfl), ?_⟩
          (conv => whnf)
          refine goIdx r.c (by omega) rfl rfl ?_
          (conv => whnf); refine goW (by first | omega | (dsimp only; omega)) (by first | omega | (dsimp only; omega)) ?_
          (conv => whnf)
          refine ⟨[0, 1, 2, 3, 4, 5, 6, 7, 8, 9], [(1, [2]), (4, [2])], (by kernel_rfl), ?_⟩
          (conv => whnf)
          rw [show minList [r.fr - hd] (minList [limit] st) = _ from hmi]
          refine ⟨r1, by rw [hbl]; exact r2, ?_⟩
          rw [bytes_take]
          (conv => whnf)
          refine ⟨by show (0 + (bytes _).length) * 1 ≤ 140737488355328; simp; omega, rfl, rfl, ?_⟩
          (conv => whnf)
          exact retG [] 0 (by rfl) (by rfl) (by rfl) (by rfl) (by rfl) (by rfl) rfl
        · simp at hq2
end Go.Proofs.Ytpeejmolbmhjjaa.Sx
