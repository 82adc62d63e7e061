/- The law FnMixed comes to true; there is no condition beyond those each statement names. -/
import Derived.Test.YtenphmeikbjimaaM1
namespace Go.Proofs.Ytenphmeikbjimaa.Sx
set_option linter.unusedSimpArgs false
set_option linter.unusedVariables false
open Go
open Go.Proofs.Ytenphmeikbjimaa.Pure (Byt SealedR OpenedR mixed_parts strm_byt sealedr_len byt_app byt_take byt_drop byt_nil)
set_option maxRecDepth 100000
set_option maxHeartbeats 0
theorem goDr {all : List Oper} {V : List Nat → List (Nat × List Nat) → Prop} (n : Nat) (π : List Nat) (fps : List (Nat × List Nat)) (hn : (all.head?.bind fun o => o.dst) = some n) (h : drawOk all π fps = true) (hv : V π fps) :
    ∃ (π : List Nat) (fps : List (Nat × List Nat)), drawOk all π fps = true ∧ V π fps := ⟨π, fps, h, hv⟩
theorem opened_of {key : Int} {b x : List Int} {q : Bool} {cells : List (List AV)} (hb : Byt b) (hl : b.length ≤ 2000000) (h : OpenedR key b = (x, q)) (hc : cells = bytes b) : Pure 8 [int key, (false, [.lst 0 0 5 cells])] (.tup [byts x, bool q]) := by
  have := opened_e key hb hl
  rw [h] at this
  rw [hc]
  exact this
/-- What is left when one record is left out. -/
def accL (b : List Int) (j : Nat) : Nat → List Int
  | 0 => []
  | 1 => if j = 0 then [] else b.take 13
  | 2 => (if j = 0 then [] else b.take 13) ++ (if j = 1 then [] else (b.take 26).drop 13)
  | _ => ((if j = 0 then [] else b.take 13) ++ (if j = 1 then [] else (b.take 26).drop 13)) ++ b.drop 26
theorem law3 (l : List Int) (h2 : ∀ x ∈ l, 0 ≤ x ∧ x ≤ 255) : Pure 3 [byts l] (.pv (bool true)) := by
  refine fn_of_vc tab_ok mixed Try.call3 Try.func3 rfl [] _ _ (by kernel_rfl) rfl rfl rfl ?_
  (conv => whnf); split <;> rename_i hq
  · (conv => whnf); exact ret1 (by rfl) (by rfl) (by rfl)
  have hl : l.length ≤ 1048576 := by simp at hq; omega
  (conv => whnf); refine goE (draw_e h2 (by omega)) ?_
  rintro _ ⟨key, d, i, j, hk, hd, ⟨hd1, hd2⟩, hi, hj, rfl⟩
  have hsl := sealedr_len key d
  have hsb : Byt (SealedR key d) := by
    rw [SealedR]; split
    · exact strm_byt _ _ _ _ hd
    · intro x hx; cases hx
  obtain ⟨m0, m1, m2, m3, m4, m5⟩ := mixed_parts hk hd1 hd2
  (conv => whnf); refine goP (isealed_e key hd (by omega)) ?_
  (conv => whnf); refine goP (ssealed_e key hd (by omega)) ?_
  (conv => whnf); refine goP (same_e (SealedR key d) (by omega)) ?_
  (conv => whnf)
  generalize SealedR key d = b at *
  have hbl := bytes_len b
  have t10 : (d.take 10).length = 10 := by rw [List.length_take]; omega
  have t20 : (d.take 20).length = 20 := by rw [List.length_take]; omega
  have b10 := bytes_len (d.take 10)
  have b20 := bytes_len (d.take 20)
  have z0 : Byt (b.take 13) := byt_take hsb _
  have z1 : Byt ((b.take 26).drop 13) := byt_drop (byt_take hsb _) _
  have z2 : Byt (b.drop 26) := byt_drop hsb _
  rcases (by omega : i = 0 ∨ i = 1) with rfl | rfl <;> rcases (by omega : j = 0 ∨ j = 1) with rfl | rfl
  · skip
    repeat' ((conv => whnf); first | refine goDr 40 [0, 1, 2, 3, 4, 5, 6, 7, 8, 9, 10, 11, 12, 13] [] rfl (by kernel_rfl) ?_ | refine goDr 53 [0, 1, 2, 3, 4, 5, 6, 7, 8, 9, 10, 11, 12, 13, 14, 15, 16, 17, 18] [] rfl (by kernel_rfl) ?_ | (refine goIdx _ (by omega) rfl rfl ?_) | (refine ⟨by show (([] : List (List AV)).length + ((bytes b).take 13).length) * 1 ≤ 140737488355328; (simp only [List.length_append, List.length_take, List.length_drop, bytes_len, List.length_nil]; omega), ?_⟩; (conv => whnf); refine ⟨rfl, rfl, ?_⟩) | (refine ⟨by show ((([] ++ (bytes b).take 13) : List (List AV)).length + ((bytes b).take 13).length) * 1 ≤ 140737488355328; (simp only [List.length_append, List.length_take, List.length_drop, bytes_len, List.length_nil]; omega), ?_⟩; (conv => whnf); refine ⟨rfl, rfl, ?_⟩) | (refine ⟨by show (((([] ++ (bytes b).take 13) ++ (bytes b).take 13) : List (List AV)).length + (((bytes b).take 26).drop 13).length) * 1 ≤ 140737488355328; (simp only [List.length_append, List.length_take, List.length_drop, bytes_len, List.length_nil]; omega), ?_⟩; (conv => whnf); refine ⟨rfl, rfl, ?_⟩) | (refine ⟨by show ((((([] ++ (bytes b).take 13) ++ (bytes b).take 13) ++ ((bytes b).take 26).drop 13) : List (List AV)).length + ((bytes b).drop 26).length) * 1 ≤ 140737488355328; (simp only [List.length_append, List.length_take, List.length_drop, bytes_len, List.length_nil]; omega), ?_⟩; (conv => whnf); refine ⟨rfl, rfl, ?_⟩) | (refine ⟨by omega, by omega, by omega, by omega, ?_⟩) | (refine ⟨by omega, by omega, ?_⟩) | (refine goW (by omega) (by omega) ?_))
    (conv => whnf)
    refine ⟨Nat × List (List AV) × Nat, fun x => x.2.1 = bytes (accL b 0 x.1) ∧ x.1 ≤ 3, fun x => ⟨[(3, .one (.i .i64 key)), (4, .one (.lst 0 0 5 (bytes d))), (5, .one (.i .i64 0)), (6, .one (.i .i64 0)), (9, .one (.lst 0 0 22 [[.lst 0 0 5 ((bytes b).take 13)], [.lst 0 0 5 (((bytes b).take 26).drop 13)], [.lst 0 0 5 ((bytes b).drop 26)]])), (10, .one (.lst 0 0 5 (((([] ++ (bytes b).take 13) ++ (bytes b).take 13) ++ ((bytes b).take 26).drop 13) ++ (bytes b).drop 26))), (11, .one (.lst 1136 x.2.2 5 x.2.1)), (12, .one (.i .i64 x.1))], [], [(1136, x.2.2), (1, 0)], [], [1136,1]⟩, fun x => 3 - x.1, (0, [], 0), fun x => rfl, ?_, (by refine ⟨?_, ?_, ?_⟩ <;> repeat' (first | exact trivial | refine ⟨rfl, ?_⟩)), ?_⟩
    · exact ⟨rfl, by simp⟩
    rintro ⟨k, cs, v⟩ ⟨hcs, hk3⟩
    dsimp only at hcs hk3
    subst hcs
    rcases (by omega : k = 0 ∨ k = 1 ∨ k = 2 ∨ k = 3) with rfl | rfl | rfl | rfl
    · (conv => whnf)
      refine goW (by omega) (by omega) ?_
      (conv => whnf)
      refine ⟨(1, bytes (accL b 0 0), v), ?_, (by refine ⟨?_, ?_, ?_⟩ <;> repeat' (first | exact trivial | refine ⟨rfl, ?_⟩)), ?_⟩
      · exact ⟨by simp [accL, bytes, List.map_append, List.map_take, List.map_drop], by dsimp only; omega⟩
      · exact (by decide : 3 - 1 < 3 - 0)
    · (conv => whnf); (try refine goIdx _ (by omega) rfl rfl ?_); (try (conv => whnf))
      refine ⟨by show ((bytes (accL b 0 1)).length + (((bytes b).take 26).drop 13).length) * 1 ≤ 140737488355328; simp [accL, bytes]; omega, rfl, rfl, ?_⟩
      (conv => whnf)
      refine goW (by omega) (by omega) ?_
      (conv => whnf)
      refine ⟨(2, bytes (accL b 0 1) ++ ((bytes b).take 26).drop 13, v + 1), ?_, (by refine ⟨?_, ?_, ?_⟩ <;> repeat' (first | exact trivial | refine ⟨rfl, ?_⟩)), ?_⟩
      · exact ⟨by simp [accL, bytes, List.map_append, List.map_take, List.map_drop], by dsimp only; omega⟩
      · exact (by decide : 3 - 2 < 3 - 1)
    · (conv => whnf); (try refine goIdx _ (by omega) rfl rfl ?_); (try (conv => whnf))
      refine ⟨by show ((bytes (accL b 0 2)).length + ((bytes b).drop 26).length) * 1 ≤ 140737488355328; simp [accL, bytes]; omega, rfl, rfl, ?_⟩
      (conv => whnf)
      refine goW (by omega) (by omega) ?_
      (conv => whnf)
      refine ⟨(3, bytes (accL b 0 2) ++ (bytes b).drop 26, v + 1), ?_, (by refine ⟨?_, ?_, ?_⟩ <;> repeat' (first | exact trivial | refine ⟨rfl, ?_⟩)), ?_⟩
      · exact ⟨by simp [accL, bytes, List.map_append, List.map_take, List.map_drop], by dsimp only; omega⟩
      · exact (by decide : 3 - 3 < 3 - 2)
    · skip
      have o1 : Pure 8 [int key, (false, [.lst 0 0 5 (((([] ++ (bytes b).take 13) ++ (bytes b).take 13) ++ ((bytes b).take 26).drop 13) ++ (bytes b).drop 26)])] (.tup [byts (d.take 10), bool false]) := opened_of (b := b.take 13 ++ b.take 13 ++ (b.take 26).drop 13 ++ b.drop 26) (byt_app (byt_app (byt_app z0 z0) z1) z2) (by simp only [List.length_append, List.length_take, List.length_drop]; omega) m1 (by simp [bytes, List.map_append, List.map_take, List.map_drop])
      have o2 : Pure 8 [int key, (false, [.lst 0 0 5 (bytes (accL b 0 3))])] (.tup [byts [], bool false]) := opened_of (b := (b.take 26).drop 13 ++ b.drop 26) (byt_app z1 z2) (by simp only [List.length_append, List.length_take, List.length_drop]; omega) m3 (by simp [accL, bytes, List.map_append, List.map_take, List.map_drop])
      have o3 : Pure 8 [int key, (false, [.lst 0 0 5 ((([] ++ ((bytes b).take 26).drop 13) ++ (bytes b).take 13) ++ (bytes b).drop 26)])] (.tup [byts [], bool false]) := opened_of (b := (b.take 26).drop 13 ++ b.take 13 ++ b.drop 26) (byt_app (byt_app z1 z0) z2) (by simp only [List.length_append, List.length_take, List.length_drop]; omega) m5 (by simp [bytes, List.map_append, List.map_take, List.map_drop])
      repeat' ((conv => whnf); first | refine goDr 85 [0, 1, 2, 3, 4, 5, 6, 7, 8, 9, 10, 11, 12, 13] [] rfl (by kernel_rfl) ?_ | (refine goIdx _ (by omega) rfl rfl ?_) | (refine ⟨by show (([] : List (List AV)).length + (((bytes b).take 26).drop 13).length) * 1 ≤ 140737488355328; (simp only [List.length_append, List.length_take, List.length_drop, bytes_len, List.length_nil]; omega), ?_⟩; (conv => whnf); refine ⟨rfl, rfl, ?_⟩) | (refine ⟨by show ((([] ++ ((bytes b).take 26).drop 13) : List (List AV)).length + ((bytes b).take 13).length) * 1 ≤ 140737488355328; (simp only [List.length_append, List.length_take, List.length_drop, bytes_len, List.length_nil]; omega), ?_⟩; (conv => whnf); refine ⟨rfl, rfl, ?_⟩) | (refine ⟨by show (((([] ++ ((bytes b).take 26).drop 13) ++ (bytes b).take 13) : List (List AV)).length + ((bytes b).drop 26).length) * 1 ≤ 140737488355328; (simp only [List.length_append, List.length_take, List.length_drop, bytes_len, List.length_nil]; omega), ?_⟩; (conv => whnf); refine ⟨rfl, rfl, ?_⟩) | (refine goP o1 ?_) | (refine goP o2 ?_) | (refine goP o3 ?_))
      repeat' ((conv => whnf); first
          | (refine goP (begins_e d 10 (by omega)) ?_)
          | (refine goP (begins_e d 10 (by omega)) ?_)
          | (refine goP (begins_e d 0 (by omega)) ?_)
          | (refine goP alive_e ?_)
          | (exact ret1 (by rfl) (by rfl) (by rfl))
          | (split <;> rename_i hq <;> (try simp only [Bool.not_eq_eq_eq_not, Bool.not_true, Bool.not_false, decide_eq_true_eq, decide_eq_false_iff_not, inB_t, inB_f, bytes_len, List.length_map, Bool.and_eq_true, Bool.and_eq_false_iff, and_true] at hq) <;> (try (exfalso; first | omega | (simp_all; done))))
          | (refine goW (by first | omega | (simp; omega)) (by first | omega | (simp; omega)) ?_)
          | (refine ret1 (by rfl) (by rfl) (outB ?_); first | rfl | grind [bytes_len])
          | (refine ret1 (by rfl) (by rfl) (outI ?_); first | rfl | omega | grind [bytes_len])
          | (refine ret1 (by rfl) (by rfl) (outB ?_)) | (refine ret1 (by rfl) (by rfl) (outI ?_)))
  · skip
    repeat' ((conv => whnf); first | refine goDr 40 [0, 1, 2, 3, 4, 5, 6, 7, 8, 9, 10, 11, 12, 13] [] rfl (by kernel_rfl) ?_ | refine goDr 53 [0, 1, 2, 3, 4, 5, 6, 7, 8, 9, 10, 11, 12, 13, 14, 15, 16, 17, 18] [] rfl (by kernel_rfl) ?_ | (refine goIdx _ (by omega) rfl rfl ?_) | (refine ⟨by show (([] : List (List AV)).length + ((bytes b).take 13).length) * 1 ≤ 140737488355328; (simp only [List.length_append, List.length_take, List.length_drop, bytes_len, List.length_nil]; omega), ?_⟩; (conv => whnf); refine ⟨rfl, rfl, ?_⟩) | (refine ⟨by show ((([] ++ (bytes b).take 13) : List (List AV)).length + ((bytes b).take 13).length) * 1 ≤ 140737488355328; (simp only [List.length_append, List.length_take, List.length_drop, bytes_len, List.length_nil]; omega), ?_⟩; (conv => whnf); refine ⟨rfl, rfl, ?_⟩) | (refine ⟨by show (((([] ++ (bytes b).take 13) ++ (bytes b).take 13) : List (List AV)).length + (((bytes b).take 26).drop 13).length) * 1 ≤ 140737488355328; (simp only [List.length_append, List.length_take, List.length_drop, bytes_len, List.length_nil]; omega), ?_⟩; (conv => whnf); refine ⟨rfl, rfl, ?_⟩) | (refine ⟨by show ((((([] ++ (bytes b).take 13) ++ (bytes b).take 13) ++ ((bytes b).take 26).drop 13) : List (List AV)).length + ((bytes b).drop 26).length) * 1 ≤ 140737488355328; (simp only [List.length_append, List.length_take, List.length_drop, bytes_len, List.length_nil]; omega), ?_⟩; (conv => whnf); refine ⟨rfl, rfl, ?_⟩) | (refine ⟨by omega, by omega, by omega, by omega, ?_⟩) | (refine ⟨by omega, by omega, ?_⟩) | (refine goW (by omega) (by omega) ?_))
    (conv => whnf)
    refine ⟨Nat × List (List AV) × Nat, fun x => x.2.1 = bytes (accL b 1 x.1) ∧ x.1 ≤ 3, fun x => ⟨[(3, .one (.i .i64 key)), (4, .one (.lst 0 0 5 (bytes d))), (5, .one (.i .i64 0)), (6, .one (.i .i64 1)), (9, .one (.lst 0 0 22 [[.lst 0 0 5 ((bytes b).take 13)], [.lst 0 0 5 (((bytes b).take 26).drop 13)], [.lst 0 0 5 ((bytes b).drop 26)]])), (10, .one (.lst 0 0 5 (((([] ++ (bytes b).take 13) ++ (bytes b).take 13) ++ ((bytes b).take 26).drop 13) ++ (bytes b).drop 26))), (11, .one (.lst 1136 x.2.2 5 x.2.1)), (12, .one (.i .i64 x.1))], [], [(1136, x.2.2), (1, 0)], [], [1136,1]⟩, fun x => 3 - x.1, (0, [], 0), fun x => rfl, ?_, (by refine ⟨?_, ?_, ?_⟩ <;> repeat' (first | exact trivial | refine ⟨rfl, ?_⟩)), ?_⟩
    · exact ⟨rfl, by simp⟩
    rintro ⟨k, cs, v⟩ ⟨hcs, hk3⟩
    dsimp only at hcs hk3
    subst hcs
    rcases (by omega : k = 0 ∨ k = 1 ∨ k = 2 ∨ k = 3) with rfl | rfl | rfl | rfl
    · (conv => whnf); (try refine goIdx _ (by omega) rfl rfl ?_); (try (conv => whnf))
      refine ⟨by show ((bytes (accL b 1 0)).length + ((bytes b).take 13).length) * 1 ≤ 140737488355328; simp [accL, bytes]; omega, rfl, rfl, ?_⟩
      (conv => whnf)
      refine goW (by omega) (by omega) ?_
      (conv => whnf)
      refine ⟨(1, bytes (accL b 1 0) ++ (bytes b).take 13, v + 1), ?_, (by refine ⟨?_, ?_, ?_⟩ <;> repeat' (first | exact trivial | refine ⟨rfl, ?_⟩)), ?_⟩
      · exact ⟨by simp [accL, bytes, List.map_append, List.map_take, List.map_drop], by dsimp only; omega⟩
      · exact (by decide : 3 - 1 < 3 - 0)
    · (conv => whnf)
      refine goW (by omega) (by omega) ?_
      (conv => whnf)
      refine ⟨(2, bytes (accL b 1 1), v), ?_, (by refine ⟨?_, ?_, ?_⟩ <;> repeat' (first | exact trivial | refine ⟨rfl, ?_⟩)), ?_⟩
      · exact ⟨by simp [accL, bytes, List.map_append, List.map_take, List.map_drop], by dsimp only; omega⟩
      · exact (by decide : 3 - 2 < 3 - 1)
    · (conv => whnf); (try refine goIdx _ (by omega) rfl rfl ?_); (try (conv => whnf))
      refine ⟨by show ((bytes (accL b 1 2)).length + ((bytes b).drop 26).length) * 1 ≤ 140737488355328; simp [accL, bytes]; omega, rfl, rfl, ?_⟩
      (conv => whnf)
      refine goW (by omega) (by omega) ?_
      (conv => whnf)
      refine ⟨(3, bytes (accL b 1 2) ++ (bytes b).drop 26, v + 1), ?_, (by refine ⟨?_, ?_, ?_⟩ <;> repeat' (first | exact trivial | refine ⟨rfl, ?_⟩)), ?_⟩
      · exact ⟨by simp [accL, bytes, List.map_append, List.map_take, List.map_drop], by dsimp only; omega⟩
      · exact (by decide : 3 - 3 < 3 - 2)
    · skip
      have o1 : Pure 8 [int key, (false, [.lst 0 0 5 (((([] ++ (bytes b).take 13) ++ (bytes b).take 13) ++ ((bytes b).take 26).drop 13) ++ (bytes b).drop 26)])] (.tup [byts (d.take 10), bool false]) := opened_of (b := b.take 13 ++ b.take 13 ++ (b.take 26).drop 13 ++ b.drop 26) (byt_app (byt_app (byt_app z0 z0) z1) z2) (by simp only [List.length_append, List.length_take, List.length_drop]; omega) m1 (by simp [bytes, List.map_append, List.map_take, List.map_drop])
      have o2 : Pure 8 [int key, (false, [.lst 0 0 5 (bytes (accL b 1 3))])] (.tup [byts (d.take 10), bool false]) := opened_of (b := b.take 13 ++ b.drop 26) (byt_app z0 z2) (by simp only [List.length_append, List.length_take, List.length_drop]; omega) m4 (by simp [accL, bytes, List.map_append, List.map_take, List.map_drop])
      have o3 : Pure 8 [int key, (false, [.lst 0 0 5 ((([] ++ ((bytes b).take 26).drop 13) ++ (bytes b).take 13) ++ (bytes b).drop 26)])] (.tup [byts [], bool false]) := opened_of (b := (b.take 26).drop 13 ++ b.take 13 ++ b.drop 26) (byt_app (byt_app z1 z0) z2) (by simp only [List.length_append, List.length_take, List.length_drop]; omega) m5 (by simp [bytes, List.map_append, List.map_take, List.map_drop])
      repeat' ((conv => whnf); first | refine goDr 85 [0, 1, 2, 3, 4, 5, 6, 7, 8, 9, 10, 11, 12, 13] [] rfl (by kernel_rfl) ?_ | (refine goIdx _ (by omega) rfl rfl ?_) | (refine ⟨by show (([] : List (List AV)).length + (((bytes b).take 26).drop 13).length) * 1 ≤ 140737488355328; (simp only [List.length_append, List.length_take, List.length_drop, bytes_len, List.length_nil]; omega), ?_⟩; (conv => whnf); refine ⟨rfl, rfl, ?_⟩) | (refine ⟨by show ((([] ++ ((bytes b).take 26).drop 13) : List (List AV)).length + ((bytes b).take 13).length) * 1 ≤ 140737488355328; (simp only [List.length_append, List.length_take, List.length_drop, bytes_len, List.length_nil]; omega), ?_⟩; (conv => whnf); refine ⟨rfl, rfl, ?_⟩) | (refine ⟨by show (((([] ++ ((bytes b).take 26).drop 13) ++ (bytes b).take 13) : List (List AV)).length + ((bytes b).drop 26).length) * 1 ≤ 140737488355328; (simp only [List.length_append, List.length_take, List.length_drop, bytes_len, List.length_nil]; omega), ?_⟩; (conv => whnf); refine ⟨rfl, rfl, ?_⟩) | (refine goP o1 ?_) | (refine goP o2 ?_) | (refine goP o3 ?_))
      repeat' ((conv => whnf); first
          | (refine goP (begins_e d 10 (by omega)) ?_)
          | (refine goP (begins_e d 10 (by omega)) ?_)
          | (refine goP (begins_e d 0 (by omega)) ?_)
          | (refine goP alive_e ?_)
          | (exact ret1 (by rfl) (by rfl) (by rfl))
          | (split <;> rename_i hq <;> (try simp only [Bool.not_eq_eq_eq_not, Bool.not_true, Bool.not_false, decide_eq_true_eq, decide_eq_false_iff_not, inB_t, inB_f, bytes_len, List.length_map, Bool.and_eq_true, Bool.and_eq_false_iff, and_true] at hq) <;> (try (exfalso; first | omega | (simp_all; done))))
          | (refine goW (by first | omega | (simp; omega)) (by first | omega | (simp; omega)) ?_)
          | (refine ret1 (by rfl) (by rfl) (outB ?_); first | rfl | grind [bytes_len])
          | (refine ret1 (by rfl) (by rfl) (outI ?_); first | rfl | omega | grind [bytes_len])
          | (refine ret1 (by rfl) (by rfl) (outB ?_)) | (refine ret1 (by rfl) (by rfl) (outI ?_)))
  · skip
    repeat' ((conv => whnf); first | refine goDr 40 [0, 1, 2, 3, 4, 5, 6, 7, 8, 9, 10, 11, 12, 13] [] rfl (by kernel_rfl) ?_ | refine goDr 53 [0, 1, 2, 3, 4, 5, 6, 7, 8, 9, 10, 11, 12, 13, 14, 15, 16, 17, 18] [] rfl (by kernel_rfl) ?_ | (refine goIdx _ (by omega) rfl rfl ?_) | (refine ⟨by show (([] : List (List AV)).length + ((bytes b).take 13).length) * 1 ≤ 140737488355328; (simp only [List.length_append, List.length_take, List.length_drop, bytes_len, List.length_nil]; omega), ?_⟩; (conv => whnf); refine ⟨rfl, rfl, ?_⟩) | (refine ⟨by show ((([] ++ (bytes b).take 13) : List (List AV)).length + (((bytes b).take 26).drop 13).length) * 1 ≤ 140737488355328; (simp only [List.length_append, List.length_take, List.length_drop, bytes_len, List.length_nil]; omega), ?_⟩; (conv => whnf); refine ⟨rfl, rfl, ?_⟩) | (refine ⟨by show (((([] ++ (bytes b).take 13) ++ ((bytes b).take 26).drop 13) : List (List AV)).length + (((bytes b).take 26).drop 13).length) * 1 ≤ 140737488355328; (simp only [List.length_append, List.length_take, List.length_drop, bytes_len, List.length_nil]; omega), ?_⟩; (conv => whnf); refine ⟨rfl, rfl, ?_⟩) | (refine ⟨by show ((((([] ++ (bytes b).take 13) ++ ((bytes b).take 26).drop 13) ++ ((bytes b).take 26).drop 13) : List (List AV)).length + ((bytes b).drop 26).length) * 1 ≤ 140737488355328; (simp only [List.length_append, List.length_take, List.length_drop, bytes_len, List.length_nil]; omega), ?_⟩; (conv => whnf); refine ⟨rfl, rfl, ?_⟩) | (refine ⟨by omega, by omega, by omega, by omega, ?_⟩) | (refine ⟨by omega, by omega, ?_⟩) | (refine goW (by omega) (by omega) ?_))
    (conv => whnf)
    refine ⟨Nat × List (List AV) × Nat, fun x => x.2.1 = bytes (accL b 0 x.1) ∧ x.1 ≤ 3, fun x => ⟨[(3, .one (.i .i64 key)), (4, .one (.lst 0 0 5 (bytes d))), (5, .one (.i .i64 1)), (6, .one (.i .i64 0)), (9, .one (.lst 0 0 22 [[.lst 0 0 5 ((bytes b).take 13)], [.lst 0 0 5 (((bytes b).take 26).drop 13)], [.lst 0 0 5 ((bytes b).drop 26)]])), (10, .one (.lst 0 0 5 (((([] ++ (bytes b).take 13) ++ ((bytes b).take 26).drop 13) ++ ((bytes b).take 26).drop 13) ++ (bytes b).drop 26))), (11, .one (.lst 1136 x.2.2 5 x.2.1)), (12, .one (.i .i64 x.1))], [], [(1136, x.2.2), (1, 0)], [], [1136,1]⟩, fun x => 3 - x.1, (0, [], 0), fun x => rfl, ?_, (by refine ⟨?_, ?_, ?_⟩ <;> repeat' (first | exact trivial | refine ⟨rfl, ?_⟩)), ?_⟩
    · exact ⟨rfl, by simp⟩
    rintro ⟨k, cs, v⟩ ⟨hcs, hk3⟩
    dsimp only at hcs hk3
    subst hcs
    rcases (by omega : k = 0 ∨ k = 1 ∨ k = 2 ∨ k = 3) with rfl | rfl | rfl | rfl
    · (conv => whnf)
      refine goW (by omega) (by omega) ?_
      (conv => whnf)
      refine ⟨(1, bytes (accL b 0 0), v), ?_, (by refine ⟨?_, ?_, ?_⟩ <;> repeat' (first | exact trivial | refine ⟨rfl, ?_⟩)), ?_⟩
      · exact ⟨by simp [accL, bytes, List.map_append, List.map_take, List.map_drop], by dsimp only; omega⟩
      · exact (by decide : 3 - 1 < 3 - 0)
    · (conv => whnf); (try refine goIdx _ (by omega) rfl rfl ?_); (try (conv => whnf))
      refine ⟨by show ((bytes (accL b 0 1)).length + (((bytes b).take 26).drop 13).length) * 1 ≤ 140737488355328; simp [accL, bytes]; omega, rfl, rfl, ?_⟩
      (conv => whnf)
      refine goW (by omega) (by omega) ?_
      (conv => whnf)
      refine ⟨(2, bytes (accL b 0 1) ++ ((bytes b).take 26).drop 13, v + 1), ?_, (by refine ⟨?_, ?_, ?_⟩ <;> repeat' (first | exact trivial | refine ⟨rfl, ?_⟩)), ?_⟩
      · exact ⟨by simp [accL, bytes, List.map_append, List.map_take, List.map_drop], by dsimp only; omega⟩
      · exact (by decide : 3 - 2 < 3 - 1)
    · (conv => whnf); (try refine goIdx _ (by omega) rfl rfl ?_); (try (conv => whnf))
      refine ⟨by show ((bytes (accL b 0 2)).length + ((bytes b).drop 26).length) * 1 ≤ 140737488355328; simp [accL, bytes]; omega, rfl, rfl, ?_⟩
      (conv => whnf)
      refine goW (by omega) (by omega) ?_
      (conv => whnf)
      refine ⟨(3, bytes (accL b 0 2) ++ (bytes b).drop 26, v + 1), ?_, (by refine ⟨?_, ?_, ?_⟩ <;> repeat' (first | exact trivial | refine ⟨rfl, ?_⟩)), ?_⟩
      · exact ⟨by simp [accL, bytes, List.map_append, List.map_take, List.map_drop], by dsimp only; omega⟩
      · exact (by decide : 3 - 3 < 3 - 2)
    · skip
      have o1 : Pure 8 [int key, (false, [.lst 0 0 5 (((([] ++ (bytes b).take 13) ++ ((bytes b).take 26).drop 13) ++ ((bytes b).take 26).drop 13) ++ (bytes b).drop 26)])] (.tup [byts (d.take 20), bool false]) := opened_of (b := b.take 13 ++ (b.take 26).drop 13 ++ (b.take 26).drop 13 ++ b.drop 26) (byt_app (byt_app (byt_app z0 z1) z1) z2) (by simp only [List.length_append, List.length_take, List.length_drop]; omega) m2 (by simp [bytes, List.map_append, List.map_take, List.map_drop])
      have o2 : Pure 8 [int key, (false, [.lst 0 0 5 (bytes (accL b 0 3))])] (.tup [byts [], bool false]) := opened_of (b := (b.take 26).drop 13 ++ b.drop 26) (byt_app z1 z2) (by simp only [List.length_append, List.length_take, List.length_drop]; omega) m3 (by simp [accL, bytes, List.map_append, List.map_take, List.map_drop])
      have o3 : Pure 8 [int key, (false, [.lst 0 0 5 ((([] ++ ((bytes b).take 26).drop 13) ++ (bytes b).take 13) ++ (bytes b).drop 26)])] (.tup [byts [], bool false]) := opened_of (b := (b.take 26).drop 13 ++ b.take 13 ++ b.drop 26) (byt_app (byt_app z1 z0) z2) (by simp only [List.length_append, List.length_take, List.length_drop]; omega) m5 (by simp [bytes, List.map_append, List.map_take, List.map_drop])
      repeat' ((conv => whnf); first | refine goDr 85 [0, 1, 2, 3, 4, 5, 6, 7, 8, 9, 10, 11, 12, 13] [] rfl (by kernel_rfl) ?_ | (refine goIdx _ (by omega) rfl rfl ?_) | (refine ⟨by show (([] : List (List AV)).length + (((bytes b).take 26).drop 13).length) * 1 ≤ 140737488355328; (simp only [List.length_append, List.length_take, List.length_drop, bytes_len, List.length_nil]; omega), ?_⟩; (conv => whnf); refine ⟨rfl, rfl, ?_⟩) | (refine ⟨by show ((([] ++ ((bytes b).take 26).drop 13) : List (List AV)).length + ((bytes b).take 13).length) * 1 ≤ 140737488355328; (simp only [List.length_append, List.length_take, List.length_drop, bytes_len, List.length_nil]; omega), ?_⟩; (conv => whnf); refine ⟨rfl, rfl, ?_⟩) | (refine ⟨by show (((([] ++ ((bytes b).take 26).drop 13) ++ (bytes b).take 13) : List (List AV)).length + ((bytes b).drop 26).length) * 1 ≤ 140737488355328; (simp only [List.length_append, List.length_take, List.length_drop, bytes_len, List.length_nil]; omega), ?_⟩; (conv => whnf); refine ⟨rfl, rfl, ?_⟩) | (refine goP o1 ?_) | (refine goP o2 ?_) | (refine goP o3 ?_))
      repeat' ((conv => whnf); first
          | (refine goP (begins_e d 20 (by omega)) ?_)
          | (refine goP (begins_e d 10 (by omega)) ?_)
          | (refine goP (begins_e d 0 (by omega)) ?_)
          | (refine goP alive_e ?_)
          | (exact ret1 (by rfl) (by rfl) (by rfl))
          | (split <;> rename_i hq <;> (try simp only [Bool.not_eq_eq_eq_not, Bool.not_true, Bool.not_false, decide_eq_true_eq, decide_eq_false_iff_not, inB_t, inB_f, bytes_len, List.length_map, Bool.and_eq_true, Bool.and_eq_false_iff, and_true] at hq) <;> (try (exfalso; first | omega | (simp_all; done))))
          | (refine goW (by first | omega | (simp; omega)) (by first | omega | (simp; omega)) ?_)
          | (refine ret1 (by rfl) (by rfl) (outB ?_); first | rfl | grind [bytes_len])
          | (refine ret1 (by rfl) (by rfl) (outI ?_); first | rfl | omega | grind [bytes_len])
          | (refine ret1 (by rfl) (by rfl) (outB ?_)) | (refine ret1 (by rfl) (by rfl) (outI ?_)))
  · skip
    repeat' ((conv => whnf); first | refine goDr 40 [0, 1, 2, 3, 4, 5, 6, 7, 8, 9, 10, 11, 12, 13] [] rfl (by kernel_rfl) ?_ | refine goDr 53 [0, 1, 2, 3, 4, 5, 6, 7, 8, 9, 10, 11, 12, 13, 14, 15, 16, 17, 18] [] rfl (by kernel_rfl) ?_ | (refine goIdx _ (by omega) rfl rfl ?_) | (refine ⟨by show (([] : List (List AV)).length + ((bytes b).take 13).length) * 1 ≤ 140737488355328; (simp only [List.length_append, List.length_take, List.length_drop, bytes_len, List.length_nil]; omega), ?_⟩; (conv => whnf); refine ⟨rfl, rfl, ?_⟩) | (refine ⟨by show ((([] ++ (bytes b).take 13) : List (List AV)).length + (((bytes b).take 26).drop 13).length) * 1 ≤ 140737488355328; (simp only [List.length_append, List.length_take, List.length_drop, bytes_len, List.length_nil]; omega), ?_⟩; (conv => whnf); refine ⟨rfl, rfl, ?_⟩) | (refine ⟨by show (((([] ++ (bytes b).take 13) ++ ((bytes b).take 26).drop 13) : List (List AV)).length + (((bytes b).take 26).drop 13).length) * 1 ≤ 140737488355328; (simp only [List.length_append, List.length_take, List.length_drop, bytes_len, List.length_nil]; omega), ?_⟩; (conv => whnf); refine ⟨rfl, rfl, ?_⟩) | (refine ⟨by show ((((([] ++ (bytes b).take 13) ++ ((bytes b).take 26).drop 13) ++ ((bytes b).take 26).drop 13) : List (List AV)).length + ((bytes b).drop 26).length) * 1 ≤ 140737488355328; (simp only [List.length_append, List.length_take, List.length_drop, bytes_len, List.length_nil]; omega), ?_⟩; (conv => whnf); refine ⟨rfl, rfl, ?_⟩) | (refine ⟨by omega, by omega, by omega, by omega, ?_⟩) | (refine ⟨by omega, by omega, ?_⟩) | (refine goW (by omega) (by omega) ?_))
    (conv => whnf)
    refine ⟨Nat × List (List AV) × Nat, fun x => x.2.1 = bytes (accL b 1 x.1) ∧ x.1 ≤ 3, fun x => ⟨[(3, .one (.i .i64 key)), (4, .one (.lst 0 0 5 (bytes d))), (5, .one (.i .i64 1)), (6, .one (.i .i64 1)), (9, .one (.lst 0 0 22 [[.lst 0 0 5 ((bytes b).take 13)], [.lst 0 0 5 (((bytes b).take 26).drop 13)], [.lst 0 0 5 ((bytes b).drop 26)]])), (10, .one (.lst 0 0 5 (((([] ++ (bytes b).take 13) ++ ((bytes b).take 26).drop 13) ++ ((bytes b).take 26).drop 13) ++ (bytes b).drop 26))), (11, .one (.lst 1136 x.2.2 5 x.2.1)), (12, .one (.i .i64 x.1))], [], [(1136, x.2.2), (1, 0)], [], [1136,1]⟩, fun x => 3 - x.1, (0, [], 0), fun x => rfl, ?_, (by refine ⟨?_, ?_, ?_⟩ <;> repeat' (first | exact trivial | refine ⟨rfl, ?_⟩)), ?_⟩
    · exact ⟨rfl, by simp⟩
    rintro ⟨k, cs, v⟩ ⟨hcs, hk3⟩
    dsimp only at hcs hk3
    subst hcs
    rcases (by omega : k = 0 ∨ k = 1 ∨ k = 2 ∨ k = 3) with rfl | rfl | rfl | rfl
    · (conv => whnf); (try refine goIdx _ (by omega) rfl rfl ?_); (try (conv => whnf))
      refine ⟨by show ((bytes (accL b 1 0)).length + ((bytes b).take 13).length) * 1 ≤ 140737488355328; simp [accL, bytes]; omega, rfl, rfl, ?_⟩
      (conv => whnf)
      refine goW (by omega) (by omega) ?_
      (conv => whnf)
      refine ⟨(1, bytes (accL b 1 0) ++ (bytes b).take 13, v + 1), ?_, (by refine ⟨?_, ?_, ?_⟩ <;> repeat' (first | exact trivial | refine ⟨rfl, ?_⟩)), ?_⟩
      · exact ⟨by simp [accL, bytes, List.map_append, List.map_take, List.map_drop], by dsimp only; omega⟩
      · exact (by decide : 3 - 1 < 3 - 0)
    · (conv => whnf)
      refine goW (by omega) (by omega) ?_
      (conv => whnf)
      refine ⟨(2, bytes (accL b 1 1), v), ?_, (by refine ⟨?_, ?_, ?_⟩ <;> repeat' (first | exact trivial | refine ⟨rfl, ?_⟩)), ?_⟩
      · exact ⟨by simp [accL, bytes, List.map_append, List.map_take, List.map_drop], by dsimp only; omega⟩
      · exact (by decide : 3 - 2 < 3 - 1)
    · (conv => whnf); (try refine goIdx _ (by omega) rfl rfl ?_); (try (conv => whnf))
      refine ⟨by show ((bytes (accL b 1 2)).length + ((bytes b).drop 26).length) * 1 ≤ 140737488355328; simp [accL, bytes]; omega, rfl, rfl, ?_⟩
      (conv => whnf)
      refine goW (by omega) (by omega) ?_
      (conv => whnf)
      refine ⟨(3, bytes (accL b 1 2) ++ (bytes b).drop 26, v + 1), ?_, (by refine ⟨?_, ?_, ?_⟩ <;> repeat' (first | exact trivial | refine ⟨rfl, ?_⟩)), ?_⟩
      · exact ⟨by simp [accL, bytes, List.map_append, List.map_take, List.map_drop], by dsimp only; omega⟩
      · exact (by decide : 3 - 3 < 3 - 2)
    · skip
      have o1 : Pure 8 [int key, (false, [.lst 0 0 5 (((([] ++ (bytes b).take 13) ++ ((bytes b).take 26).drop 13) ++ ((bytes b).take 26).drop 13) ++ (bytes b).drop 26)])] (.tup [byts (d.take 20), bool false]) := opened_of (b := b.take 13 ++ (b.take 26).drop 13 ++ (b.take 26).drop 13 ++ b.drop 26) (byt_app (byt_app (byt_app z0 z1) z1) z2) (by simp only [List.length_append, List.length_take, List.length_drop]; omega) m2 (by simp [bytes, List.map_append, List.map_take, List.map_drop])
      have o2 : Pure 8 [int key, (false, [.lst 0 0 5 (bytes (accL b 1 3))])] (.tup [byts (d.take 10), bool false]) := opened_of (b := b.take 13 ++ b.drop 26) (byt_app z0 z2) (by simp only [List.length_append, List.length_take, List.length_drop]; omega) m4 (by simp [accL, bytes, List.map_append, List.map_take, List.map_drop])
      have o3 : Pure 8 [int key, (false, [.lst 0 0 5 ((([] ++ ((bytes b).take 26).drop 13) ++ (bytes b).take 13) ++ (bytes b).drop 26)])] (.tup [byts [], bool false]) := opened_of (b := (b.take 26).drop 13 ++ b.take 13 ++ b.drop 26) (byt_app (byt_app z1 z0) z2) (by simp only [List.length_append, List.length_take, List.length_drop]; omega) m5 (by simp [bytes, List.map_append, List.map_take, List.map_drop])
      repeat' ((conv => whnf); first | refine goDr 85 [0, 1, 2, 3, 4, 5, 6, 7, 8, 9, 10, 11, 12, 13] [] rfl (by kernel_rfl) ?_ | (refine goIdx _ (by omega) rfl rfl ?_) | (refine ⟨by show (([] : List (List AV)).length + (((bytes b).take 26).drop 13).length) * 1 ≤ 140737488355328; (simp only [List.length_append, List.length_take, List.length_drop, bytes_len, List.length_nil]; omega), ?_⟩; (conv => whnf); refine ⟨rfl, rfl, ?_⟩) | (refine ⟨by show ((([] ++ ((bytes b).take 26).drop 13) : List (List AV)).length + ((bytes b).take 13).length) * 1 ≤ 140737488355328; (simp only [List.length_append, List.length_take, List.length_drop, bytes_len, List.length_nil]; omega), ?_⟩; (conv => whnf); refine ⟨rfl, rfl, ?_⟩) | (refine ⟨by show (((([] ++ ((bytes b).take 26).drop 13) ++ (bytes b).take 13) : List (List AV)).length + ((bytes b).drop 26).length) * 1 ≤ 140737488355328; (simp only [List.length_append, List.length_take, List.length_drop, bytes_len, List.length_nil]; omega), ?_⟩; (conv => whnf); refine ⟨rfl, rfl, ?_⟩) | (refine goP o1 ?_) | (refine goP o2 ?_) | (refine goP o3 ?_))
      repeat' ((conv => whnf); first
          | (refine goP (begins_e d 20 (by omega)) ?_)
          | (refine goP (begins_e d 10 (by omega)) ?_)
          | (refine goP (begins_e d 0 (by omega)) ?_)
          | (refine goP alive_e ?_)
          | (exact ret1 (by rfl) (by rfl) (by rfl))
          | (split <;> rename_i hq <;> (try simp only [Bool.not_eq_eq_eq_not, Bool.not_true, Bool.not_false, decide_eq_true_eq, decide_eq_false_iff_not, inB_t, inB_f, bytes_len, List.length_map, Bool.and_eq_true, Bool.and_eq_false_iff, and_true] at hq) <;> (try (exfalso; first | omega | (simp_all; done))))
          | (refine goW (by first | omega | (simp; omega)) (by first | omega | (simp; omega)) ?_)
          | (refine ret1 (by rfl) (by rfl) (outB ?_); first | rfl | grind [bytes_len])
          | (refine ret1 (by rfl) (by rfl) (outI ?_); first | rfl | omega | grind [bytes_len])
          | (refine ret1 (by rfl) (by rfl) (outB ?_)) | (refine ret1 (by rfl) (by rfl) (outI ?_)))
end Go.Proofs.Ytenphmeikbjimaa.Sx
