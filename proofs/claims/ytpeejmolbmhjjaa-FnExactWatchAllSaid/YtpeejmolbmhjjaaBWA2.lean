/- Texts of the claim, in few files: what the functions of the program come to; there is no condition beyond those each statement names. -/
import Derived.Test.YtpeejmolbmhjjaaBWA1
import Derived.Test.YtpeejmolbmhjjaaNE10
section
namespace Go.Proofs.Ytpeejmolbmhjjaa.Sx
set_option linter.unusedSimpArgs false
set_option linter.unusedVariables false
open Go Go.RowKit Go.Proofs.YtpeejmolbmhjjaaU.PrintWords Go.Proofs.Ytpeejmolbmhjjaa.GFnExactWatchAll
set_option maxRecDepth 100000
set_option maxHeartbeats 0
theorem cells3 : Try.prog.cellsOf 3 = 1 := by kernel_rfl
theorem add_addr2 {x : Addr} (h : x.spot = none) (i : Nat) : x.add i = ⟨x.block, x.off + i, none⟩ := by
  unfold Addr.add
  split
  · next h2 => subst h2; cases x; simp_all
  · rfl
theorem ints_len (l : List Int) : (l.map ic).length = l.length := List.length_map ..
section
variable {F : Nat → Nat → Prop} {β : Nat → Nat} {U : Nat → Bool} {w w' : World}
theorem argI {l : List Int} {v : Value} (h : Rep Try.prog F β U w (.lst 0 0 3 (l.map ic)) v) (hl : l.length ≤ 9223372036854775807) : ∃ A c, v = .slice A l.length c ∧ l.length ≤ c ∧ Kd.C (Kd.int .i64) w A l.length l := by
  generalize hes : l.map ic = es at h
  cases h with
  | nil =>
    have : l = [] := by simpa using hes
    subst this
    exact ⟨none, 0, rfl, Nat.le_refl _, rfl, by simp, fun h => absurd h (by simp)⟩
  | emp _ _ _ a cap =>
    have : l = [] := by simpa using hes
    subst this
    exact ⟨some a, cap, rfl, Nat.zero_le _, rfl, by simp, fun h => absurd h (by simp)⟩
  | lst _ _ _ _ blk off cap vals hcap h1 h2 h3 =>
    have hll : es.length = l.length := by rw [← hes]; simp
    refine ⟨some ⟨blk, off, none⟩, cap, by rw [hll], by rw [← hll]; exact hcap, rfl, hl, fun _ => ⟨_, rfl, fun j p hp => ⟨[.int .i64 p], rfl, rfl, fun i u hu => ?_⟩⟩⟩
    have hes2 : es[j]? = some [.i .i64 p] := by rw [← hes]; simp [ic, List.getElem?_map, hp]
    cases i with
    | zero =>
      obtain rfl : Value.int .i64 p = u := by simpa using hu
      have h4 := (h2 j 0 _ _ hes2 rfl).2.1
      have h5 := h3 j 0 _ _ hes2 rfl
      rw [cells3] at h4
      cases hv : vals j 0 with
      | int k n =>
        rw [hv] at h5 h4
        cases h5
        rw [add_addr2 rfl]
        exact h4
      | _ => rw [hv] at h5; cases h5
    | succ i => simp at hu
theorem resI {ok : Nat → Prop} {r : List Int} {v : Value} (hF : ∀ b c, F b c → b < w.heap.size) (hβ : β K0 ≤ w.heap.size) (hR : Kd.R (Kd.int .i64) 3 w' w.heap.size ok v r) : Rep Try.prog F β U w' (.nl 3 (r.map ic)) v := by
  obtain ⟨_, inner, ⟨hil, ho⟩, hreps⟩ := id hR
  rcases ho with ⟨rfl, hn⟩ | ⟨g, cap, cur, rfl, hge, hg2, hcap, hq⟩
  · have : r = [] := List.eq_nil_of_length_eq_zero hn
    subst this
    exact .nln ..
  · obtain ⟨_, _, hC⟩ := Kd.R_reads' hR
    have key : ∀ (j c : Nat) (xs : List AV) (x : AV), (r.map ic)[j]? = some xs → xs[c]? = some x → x.clean = true ∧ ∃ n, x = .i .i64 n ∧ w'.cell? ⟨g, 0 + (j * Try.prog.cellsOf 3 + c), none⟩ = some (.int .i64 n) := by
      intro j c xs x hx hy
      have hj : j < r.length := by rw [← ints_len r]; exact (List.getElem?_eq_some_iff.1 hx).1
      simp only [List.getElem?_map, List.getElem?_eq_getElem hj, Option.map_some, Option.some.injEq] at hx
      subst hx
      cases c with
      | succ c => simp [ic] at hy
      | zero =>
        obtain rfl : AV.i .i64 r[j] = x := by simpa [ic] using hy
        obtain ⟨ad, had, hcell⟩ := hC.2.2 (by omega)
        obtain rfl := Option.some.inj had
        obtain ⟨cc, hcl, hcK, hcc⟩ := hcell j _ (List.getElem?_eq_getElem hj)
        have hcc0 : cc = [Value.int .i64 r[j]] := hcK
        subst hcc0
        have := hcc 0 _ rfl
        rw [add_addr2 rfl] at this
        rw [cells3]
        exact ⟨rfl, _, rfl, this⟩
    have := Rep.nl (P := Try.prog) (F := F) (β := β) (U := U) (w := w') 3 (r.map ic) g cap (fun j c => (w'.cell? ⟨g, 0 + (j * Try.prog.cellsOf 3 + c), none⟩).getD undef) (by rw [ints_len]; exact hcap)
      (fun xs hxs => by
        rw [cells3]
        obtain ⟨y, _, rfl⟩ := List.mem_map.1 hxs
        rfl)
      (fun j c xs x hx hy => by
        obtain ⟨h1, n, rfl, h2⟩ := key j c xs x hx hy
        exact ⟨h1, by rw [h2]; rfl, fun hh => by have := hF _ _ hh; omega⟩)
      ⟨⟨_, _, hg2⟩, by omega, fun j c xs x hx hy a n' m' hv' hn' => by
        obtain ⟨h1, n, rfl, h2⟩ := key j c xs x hx hy
        rw [h2] at hv'; cases hv'⟩
      (fun j c xs x hx hy => by
        obtain ⟨h1, n, rfl, h2⟩ := key j c xs x hx hy
        rw [h2]; exact .i _ _)
    rw [ints_len] at this
    exact this
theorem val1 {x : PV} {vals : Array Value} {R : PV → Value → Prop} (hlen : [x].length = vals.size) (h : ∀ (j : Nat) (y : PV) (u : Value), [x][j]? = some y → vals[j]? = some u → R y u) : ∃ u, vals = #[u] ∧ R x u := by
  refine ⟨vals[0]'(by simp at hlen; omega), ?_, h 0 x _ rfl (Array.getElem?_eq_getElem _)⟩
  apply Array.ext
  · simp at hlen; simp; omega
  · intro i h1 h2; simp at h2; subst h2; rfl
theorem clone_run {l : List Int} (hl : l.length < 1000000000) : impl_clone_int.f l = some l := by
  unfold impl_clone_int.f
  split
  · rename_i h; have : l = [] := by simpa using h
    subst this; rfl
  · simp only [Option.bind_some, List.length_nil, Nat.zero_add, List.nil_append]
    rw [if_pos (by omega)]
end
theorem cloneI_okN (l : List Int) (hl : l.length < 1000000000) : Pure 89 [ints l] (.pv (false, [.nl 3 (l.map ic)])) := by
  refine ⟨Try.call89, fun F β U w vals hF hU0 hbox hinj hlen hrep => ?_⟩
  obtain ⟨u, rfl, h1⟩ := val1 hlen hrep
  obtain ⟨A, c, rfl, hc, hC⟩ := argI (RepP.one_inv h1).2 (by omega)
  refine (impl_clone_int.calls A c l l w hC hc (clone_run hl)).mono ?_
  rintro e w' ⟨v, rfl, hR, hb⟩
  refine ⟨_, _, F, 0, fun _ => none, rfl, rfl, ?_⟩
  exact {
    os := hb.os
    tape := hb.tape
    out := hb.output
    size := hb.size
    pln := fun b hp => by obtain ⟨arr, ty, h⟩ := hp; rw [hb.block b (Array.getElem?_eq_some_iff.1 h).1]; exact ⟨arr, ty, h⟩
    block := fun k hk _ => hb.block k hk
    len := rfl
    mem := fun j p cs hp _ => by simp at hp
    F1 := fun _ _ h => h
    F2 := fun _ _ h => .inl h
    F3 := fun b c h => Nat.lt_of_lt_of_le (hF b c h) hb.size
    new := fun cs h => by cases h
    tk := fun t v h => by cases h
    tok := fun t v blk hi top h _ => by cases h
    tin := fun t t' v v' blk hi top hi' top' h _ _ _ => by cases h
    res := RepP.one (Rep.oneCell (resI (F := F) (β := fun _ => 0) (U := U) hF (Nat.zero_le _) hR)) ⟨resI hF (by simp [K0]) hR, trivial⟩ }
theorem watchAll_okN (ws : List Watch) (es : List End) (h1 : ws.length < 100000000) (h2 : es.length < 100000000) (hs : ∀ e ∈ es, e.small) : Pure 28 [wts ws, ens es] (.pv (false, [if ws.length = es.length then .nl 3 ((allWE ws es).map ic) else .lst 0 0 3 []])) := by
  have kw : (ws.map Watch.c).length = ws.length := by simp
  have ke : (es.map End.c).length = es.length := by simp
  refine fn_of_vc tab_ok mixed Try.call28 Try.func28 rfl [] _ _ (by kernel_rfl) rfl rfl rfl ?_
  (conv => whnf); split <;> rename_i hq <;> simp only [decide_eq_true_eq, decide_eq_false_iff_not, Bool.not_eq_eq_eq_not, Bool.not_true, Bool.not_false] at hq
  · (conv => whnf)
    refine ret1 (by rfl) (by rfl) ?_
    rw [if_neg (by omega)]; rfl
  have hlen : ws.length = es.length := by omega
  (conv => whnf)
  refine ⟨Nat × List Int × List (List AV) × Nat, fun x => x.2.2.1 = x.2.1.map ic ∧ x.1 ≤ ws.length ∧ x.2.1.length ≤ x.1 ∧ x.2.1 ++ allW x.1 (ws.drop x.1) (es.drop x.1) = allW 0 ws es, fun x => ⟨[(1, .one (.lst 0 0 34 (es.map End.c))), (5, .one (.lst 80 x.2.2.2 3 x.2.2.1)), (13, .one (.lst 0 0 24 (ws.map Watch.c))), (14, .one (.i .i64 (ws.map Watch.c).length)), (15, .one (.i .i64 x.1))], [], [(80, x.2.2.2), (1, 0)], [], [80,1]⟩, fun x => ws.length - x.1, (0, [], [], 0), fun x => rfl, ?_, (by refine ⟨?_, ?_, ?_⟩ <;> repeat' (first | exact trivial | refine ⟨rfl, ?_⟩)), ?_⟩
  · exact ⟨rfl, by simp, by simp, by simp⟩
  rintro ⟨k, acc, cs, v⟩ ⟨hcs, hk, ha, hinv⟩
  dsimp only at hcs hk ha hinv
  subst hcs
  have kl : (acc.map ic).length = acc.length := by simp
  (conv => whnf); split <;> rename_i h4 <;> simp only [decide_eq_true_eq, decide_eq_false_iff_not] at h4
  case h_2 =>
    have hke : k = ws.length := by omega
    have hacc : acc = allWE ws es := by
      rw [allWE, if_pos hlen, ← hinv, hke, List.drop_length]; simp [allW]
    subst hacc
    rw [if_pos hlen]
    (conv => whnf); refine goP (cloneI_okN _ (by omega)) ?_
    (conv => whnf); refine ret1N (by rfl) (by rfl) ?_
    rfl
  have hlt : k < ws.length := by omega
  rw [allW_step hlt (by omega)] at hinv
  have hlv := level_r (wat ws k) (eat es k)
  (conv => whnf)
  refine goIdx (wat ws k).c (by omega) rfl (by simpa using wat_get hlt) ?_
  (conv => whnf)
  refine ⟨[0, 1, 2, 3, 4, 5, 6], [(0, [7])], (by kernel_rfl), ?_⟩
  (conv => whnf)
  refine goIdx (eat es k).c (by omega) rfl (by simpa using eat_get (hlen ▸ hlt)) ?_
  (conv => whnf); refine goP (watchLevel_ok (wat ws k) (eat es k) (hs _ (eat_mem (hlen ▸ hlt)))) ?_
  (conv => whnf); split <;> rename_i h5 <;> simp only [decide_eq_true_eq, decide_eq_false_iff_not, Bool.not_eq_eq_eq_not, Bool.not_true, Bool.not_false] at h5
  · rw [if_pos (by omega)] at hinv
    (conv => whnf); refine ⟨by show ((acc.map ic).length + 1) * 8 ≤ 140737488355328; omega, rfl, rfl, ?_⟩
    (conv => whnf); refine goW (by omega) (by omega) ?_
    (conv => whnf)
    refine ⟨(k + 1, acc ++ [(k : Int)], acc.map ic ++ [ic k], v + 1), ?_, (by refine ⟨?_, ?_, ?_⟩ <;> repeat' (first | exact trivial | refine ⟨rfl, ?_⟩)), ?_⟩
    · exact ⟨by simp, by dsimp only; omega, by simp; omega, by rw [← hinv]; simp⟩
    · show ws.length - (k + 1) < ws.length - k; omega
  · rw [if_neg (by omega)] at hinv
    (conv => whnf); refine goW (by omega) (by omega) ?_
    (conv => whnf)
    refine ⟨(k + 1, acc, acc.map ic, v), ?_, (by refine ⟨?_, ?_, ?_⟩ <;> repeat' (first | exact trivial | refine ⟨rfl, ?_⟩)), ?_⟩
    · exact ⟨rfl, by dsimp only; omega, by dsimp only; omega, hinv⟩
    · show ws.length - (k + 1) < ws.length - k; omega
end Go.Proofs.Ytpeejmolbmhjjaa.Sx
end

section
namespace Go.Proofs.Ytpeejmolbmhjjaa.Sx
open Go Go.RowKit Go.Proofs.YtpeejmolbmhjjaaU.PrintWords Go.Proofs.YtpeejmolbmhjjaaU.PrintLast Go.Proofs.YtpeejmolbmhjjaaU.PrintMore
set_option linter.unusedSimpArgs false
set_option linter.unusedVariables false
set_option maxHeartbeats 0
set_option maxRecDepth 100000
/-- A block's places: at least s, none of them frozen. -/
def Row (w : World) (b s : Nat) : Prop := ∃ arr ty, w.heap[b]? = some (.cells arr ty (0, 0)) ∧ s ≤ arr.size
section
variable {w w' w'' : World} {b s o : Nat} {S S' : Nat → Prop}
theorem Row.mono {s' : Nat} (h : Row w b s) (hs : s' ≤ s) : Row w b s' := let ⟨arr, ty, h1, h2⟩ := h; ⟨arr, ty, h1, by omega⟩
theorem Row.cell (h : Row w b s) (ho : o < s) : ∃ v, w.cell? ⟨b, o, none⟩ = some v := by
  obtain ⟨arr, ty, h1, h2⟩ := h
  exact ⟨arr[o]'(by omega), by simp [World.cell?, h1, show o < arr.size by omega]⟩
theorem Row.free (h : Row w b s) : w.frozen? ⟨b, o, none⟩ = false := by
  obtain ⟨arr, ty, h1, h2⟩ := h
  simp [World.frozen?, h1]
theorem Row.lt (h : Row w b s) : b < w.heap.size := by obtain ⟨arr, ty, h1, _⟩ := h; exact (Array.getElem?_eq_some_iff.1 h1).1
/-- Only blocks of S are turned, and each stays a row of as many places. -/
structure Chg (S : Nat → Prop) (w w' : World) : Prop where
  os : w'.os = w.os
  tape : w'.tape = w.tape
  out : w'.output = w.output
  size : w'.heap.size = w.heap.size
  block : ∀ k, ¬ S k → w'.heap[k]? = w.heap[k]?
  row : ∀ b s, Row w b s → Row w' b s
theorem Chg.refl (S : Nat → Prop) (w : World) : Chg S w w := ⟨rfl, rfl, rfl, rfl, fun _ _ => rfl, fun _ _ h => h⟩
theorem Chg.trans (h : Chg S w w') (h' : Chg S w' w'') : Chg S w w'' :=
  ⟨h'.os.trans h.os, h'.tape.trans h.tape, h'.out.trans h.out, h'.size.trans h.size, fun k hk => (h'.block k hk).trans (h.block k hk), fun b s hr => h'.row b s (h.row b s hr)⟩
theorem Chg.mono (h : Chg S w w') (hS : ∀ k, S k → S' k) : Chg S' w w' := ⟨h.os, h.tape, h.out, h.size, fun k hk => h.block k fun hh => hk (hS k hh), h.row⟩
theorem Chg.set (hb : S b) (o : Nat) (v : Value) : Chg S w (w.setCell ⟨b, o, none⟩ v) := by
  refine ⟨rfl, rfl, rfl, by simp [World.setCell], fun k hk => ?_, fun b' s hr => ?_⟩
  · simp only [World.setCell]
    rw [Array.getElem?_modify, if_neg fun e => hk (by rw [← e]; exact hb)]
  · obtain ⟨arr, ty, h1, h2⟩ := hr
    unfold Row
    simp only [World.setCell]
    rw [Array.getElem?_modify, h1]
    split
    · exact ⟨_, _, rfl, by simpa using h2⟩
    · exact ⟨arr, ty, rfl, h2⟩
end
theorem wrap_id {n : Nat} (h : n ≤ 2000000000000000) : wrap64 ((n : Int) + 1) = ((n + 1 : Nat) : Int) := by
  unfold wrap64; omega
theorem markByte_ok {A : Option Addr} {n c b k : Nat} {w : World} (hA : 0 < n → A = some ⟨b, 0, none⟩ ∧ Row w b n) (hn : k + n ≤ 1000000000000000) :
    Calls Try.prog 76 #[.slice A n c, .int .i64 (k : Int)] w fun e w' => e = .returned (.int .i64 ((k + n : Nat) : Int)) ∧ Chg (fun x => x = b ∧ 0 < n) w w' := by
  go_enter Try.func76, Try.ntmps76
  go_wp2
  go_loopg [1, 5] (n + 1) (fun kq v1 v5 w' => ∃ (x1 x5 : Int), v1 = .int .i64 x1 ∧ v5 = .int .i64 x5 ∧ Aside0 (∃ i : Nat, x1 = ((k + i : Nat) : Int) ∧ x5 = (i : Int) ∧ i + kq = n + 1 ∧ i ≤ n) ∧ Aside0 (Chg (fun x => x = b ∧ 0 < n) w w'))
  case atStart => exact ⟨k, 0, rfl, rfl, ⟨0, rfl, rfl, by omega, by omega⟩, ⟨Chg.refl _ _⟩⟩
  case round =>
    try clear p2
    obtain ⟨x1, x5, rfl, rfl, h1, hC⟩ := hrel
    obtain ⟨i, hx1, hx5, h2, h3⟩ := id h1.out
    cases gk with
    | zero => exact absurd h2 (by omega)
    | succ k1 =>
      by_cases hi : x5 < (n : Int)
      · have c5 : decide (x5 < (n : Int)) = true := decide_eq_true hi
        have p5 : 0 ≤ x5 := by omega
        have hlt : x5.toNat < n := by omega
        obtain ⟨hAe, hr⟩ := hA (by omega)
        subst hAe
        have hr' := hC.out.row _ _ hr
        obtain ⟨v, hv⟩ := hr'.cell hlt
        have hf : wr.frozen? ⟨b, x5.toNat, none⟩ = false := hr'.free
        have hA' := Aside0.mk hA
        have hi' := Aside0.mk (show i < n by omega)
        have hx1' := Aside0.mk hx1
        have hx5' := Aside0.mk hx5
        have h2' := Aside0.mk h2
        clear hr hr' hA hlt hx1 hx5 h2 h3
        replace p5 := eq_true p5
        replace hi := eq_true hi
        go_wp2_with (first | ((with_reducible refine gate_store (t := 5) (p := 16) rfl ?_); refine store_event (t := 5) (p := 16) (v := ?vo_w8) (w1 := (wr.setCell ⟨b, x5.toNat, none⟩ (.int .u8 (x1 % 256)))) ?hg ?ho ?hn ?hr ?_; (case ho => rfl); (case hg => rfl); (case hn => rfl); (case hr => first | (go_simp; done) | (go_simp; rfl)); intro w8 hw; have n0_ := Aside0.mk (show Chg (fun x => x = b ∧ 0 < n) w w8 by rw [hw]; exact hC.out.trans (Chg.set ⟨rfl, by have := hi'.out; omega⟩ _ _)); clear hC; have hC := n0_; clear n0_ hw hv hf))
        go_roundg k1
        case measure => omega
        case rel => exact ⟨_, _, rfl, rfl, ⟨i + 1, by rw [hx1'.out]; exact wrap_id (by have := hi'.out; omega), by rw [hx5'.out]; exact wrap_id (by have := hi'.out; omega), by have := h2'.out; omega, by have := hi'.out; omega⟩, hC⟩
      · have c5 : decide (x5 < (n : Int)) = false := decide_eq_false hi
        have hie : i = n := by omega
        subst hie
        subst hx1
        go_wp2
        go_ret
        exact ⟨rfl, hC.out⟩
theorem markRange_ok {A : Option Addr} {n c b k : Nat} {w : World} (hA : 0 < n → A = some ⟨b, 0, none⟩ ∧ Row w b (n * 2)) (hn : k + 2 * n ≤ 1000000000000000) :
    Calls Try.prog 123 #[.slice A n c, .int .i64 (k : Int)] w fun e w' => e = .returned (.int .i64 ((k + 2 * n : Nat) : Int)) ∧ Chg (fun x => x = b ∧ 0 < n) w w' := by
  go_enter Try.func123, Try.ntmps123
  go_wp2
  go_loopg [1, 5] (n + 1) (fun kq v1 v5 w' => ∃ (x1 x5 : Int), v1 = .int .i64 x1 ∧ v5 = .int .i64 x5 ∧ Aside0 (∃ i : Nat, x1 = ((k + 2 * i : Nat) : Int) ∧ x5 = (i : Int) ∧ i + kq = n + 1 ∧ i ≤ n) ∧ Aside0 (Chg (fun x => x = b ∧ 0 < n) w w'))
  case atStart => exact ⟨k, 0, rfl, rfl, ⟨0, rfl, rfl, by omega, by omega⟩, ⟨Chg.refl _ _⟩⟩
  case round =>
    try clear p2
    obtain ⟨x1, x5, rfl, rfl, h1, hC⟩ := hrel
    obtain ⟨i, hx1, hx5, h2, h3⟩ := id h1.out
    cases gk with
    | zero => exact absurd h2 (by omega)
    | succ k1 =>
      by_cases hi : x5 < (n : Int)
      · have c5 : decide (x5 < (n : Int)) = true := decide_eq_true hi
        have p5 : 0 ≤ x5 := by omega
        have hlt : x5.toNat * 2 < n * 2 := by omega
        obtain ⟨hAe, hr⟩ := hA (by omega)
        subst hAe
        have hR' := Aside0.mk hr
        have hr' := hC.out.row _ _ hr
        obtain ⟨v, hv⟩ := hr'.cell hlt
        have hf : wr.frozen? ⟨b, x5.toNat * 2, none⟩ = false := hr'.free
        have hA' := Aside0.mk hA
        have hi' := Aside0.mk (show i < n by omega)
        have hx1' := Aside0.mk hx1
        have hx5' := Aside0.mk hx5
        have h2' := Aside0.mk h2
        clear hr hr' hA hlt hx1 hx5 h2 h3
        replace p5 := eq_true p5
        replace hi := eq_true hi
        go_wp2_with (first | ((with_reducible refine gate_store (t := 3) (p := 16) rfl ?_); refine store_event (t := 3) (p := 16) (v := ?vo_w9) (w1 := (wr.setCell ⟨b, x5.toNat * 2, none⟩ (.int .i64 x1))) ?hg ?ho ?hn ?hr ?_; (case ho => rfl); (case hg => rfl); (case hn => rfl); (case hr => first | (go_simp; done) | (go_simp; rfl)); intro w9 hw; have n0_ := Aside0.mk (show Chg (fun x => x = b ∧ 0 < n) w w9 by rw [hw]; exact hC.out.trans (Chg.set ⟨rfl, by have := hi'.out; omega⟩ _ _)); clear hC; have hC := n0_; clear n0_ hw hv hf; have hr2 := hC.out.row _ _ hR'.out; obtain ⟨v, hv⟩ := hr2.cell (show x5.toNat * 2 + 1 < n * 2 by have := hi'.out; have := hx5'.out; omega); have hf : w9.frozen? ⟨b, x5.toNat * 2 + 1, none⟩ = false := hr2.free; clear hr2) | ((with_reducible refine gate_store (t := 3) (p := 23) rfl ?_); refine store_event (t := 3) (p := 23) (v := ?vo_w11) (w1 := (w9.setCell ⟨b, x5.toNat * 2 + 1, none⟩ (.int .i64 (wrap64 (x1 + 1))))) ?hg ?ho ?hn ?hr ?_; (case ho => rfl); (case hg => rfl); (case hn => rfl); (case hr => first | (go_simp; done) | (go_simp; rfl)); intro w11 hw; have n0_ := Aside0.mk (show Chg (fun x => x = b ∧ 0 < n) w w11 by rw [hw]; exact hC.out.trans (Chg.set ⟨rfl, by have := hi'.out; omega⟩ _ _)); clear hC; have hC := n0_; clear n0_ hw hv hf))
        go_roundg k1
        case measure => omega
        case rel =>
          refine ⟨_, _, rfl, rfl, ⟨i + 1, ?_, by rw [hx5'.out]; exact wrap_id (by have := hi'.out; omega), by have := h2'.out; omega, by have := hi'.out; omega⟩, hC⟩
          rw [hx1'.out, wrap_id (by have := hi'.out; omega), wrap_id (by have := hi'.out; omega)]
          congr 1
      · have c5 : decide (x5 < (n : Int)) = false := decide_eq_false hi
        have hie : i = n := by omega
        subst hie
        subst hx1
        go_wp2
        go_ret
        exact ⟨rfl, hC.out⟩
theorem markEarly_ok {A : Option Addr} {n c b k : Nat} {w : World} (hA : 0 < n → A = some ⟨b, 0, none⟩ ∧ Row w b (n * 2)) (hn : k + 2 * n ≤ 1000000000000000) :
    Calls Try.prog 124 #[.slice A n c, .int .i64 (k : Int)] w fun e w' => e = .returned (.int .i64 ((k + 2 * n : Nat) : Int)) ∧ Chg (fun x => x = b ∧ 0 < n) w w' := by
  go_enter Try.func124, Try.ntmps124
  go_wp2
  go_loopg [1, 5] (n + 1) (fun kq v1 v5 w' => ∃ (x1 x5 : Int), v1 = .int .i64 x1 ∧ v5 = .int .i64 x5 ∧ Aside0 (∃ i : Nat, x1 = ((k + 2 * i : Nat) : Int) ∧ x5 = (i : Int) ∧ i + kq = n + 1 ∧ i ≤ n) ∧ Aside0 (Chg (fun x => x = b ∧ 0 < n) w w'))
  case atStart => exact ⟨k, 0, rfl, rfl, ⟨0, rfl, rfl, by omega, by omega⟩, ⟨Chg.refl _ _⟩⟩
  case round =>
    try clear p2
    obtain ⟨x1, x5, rfl, rfl, h1, hC⟩ := hrel
    obtain ⟨i, hx1, hx5, h2, h3⟩ := id h1.out
    cases gk with
    | zero => exact absurd h2 (by omega)
    | succ k1 =>
      by_cases hi : x5 < (n : Int)
      · have c5 : decide (x5 < (n : Int)) = true := decide_eq_true hi
        have p5 : 0 ≤ x5 := by omega
        have hlt : x5.toNat * 2 < n * 2 := by omega
        obtain ⟨hAe, hr⟩ := hA (by omega)
        subst hAe
        have hR' := Aside0.mk hr
        have hr' := hC.out.row _ _ hr
        obtain ⟨v, hv⟩ := hr'.cell hlt
        have hf : wr.frozen? ⟨b, x5.toNat * 2, none⟩ = false := hr'.free
        have hA' := Aside0.mk hA
        have hi' := Aside0.mk (show i < n by omega)
        have hx1' := Aside0.mk hx1
        have hx5' := Aside0.mk hx5
        have h2' := Aside0.mk h2
        clear hr hr' hA hlt hx1 hx5 h2 h3
        replace p5 := eq_true p5
        replace hi := eq_true hi
        go_wp2_with (first | ((with_reducible refine gate_store (t := 3) (p := 16) rfl ?_); refine store_event (t := 3) (p := 16) (v := ?vo_w9) (w1 := (wr.setCell ⟨b, x5.toNat * 2, none⟩ (.int .i64 x1))) ?hg ?ho ?hn ?hr ?_; (case ho => rfl); (case hg => rfl); (case hn => rfl); (case hr => first | (go_simp; done) | (go_simp; rfl)); intro w9 hw; have n0_ := Aside0.mk (show Chg (fun x => x = b ∧ 0 < n) w w9 by rw [hw]; exact hC.out.trans (Chg.set ⟨rfl, by have := hi'.out; omega⟩ _ _)); clear hC; have hC := n0_; clear n0_ hw hv hf; have hr2 := hC.out.row _ _ hR'.out; obtain ⟨v, hv⟩ := hr2.cell (show x5.toNat * 2 + 1 < n * 2 by have := hi'.out; have := hx5'.out; omega); have hf : w9.frozen? ⟨b, x5.toNat * 2 + 1, none⟩ = false := hr2.free; clear hr2) | ((with_reducible refine gate_store (t := 5) (p := 24) rfl ?_); refine store_event (t := 5) (p := 24) (v := ?vo_w11) (w1 := (w9.setCell ⟨b, x5.toNat * 2 + 1, none⟩ (.int .u8 ((wrap64 (x1 + 1)) % 256)))) ?hg ?ho ?hn ?hr ?_; (case ho => rfl); (case hg => rfl); (case hn => rfl); (case hr => first | (go_simp; done) | (go_simp; rfl)); intro w11 hw; have n0_ := Aside0.mk (show Chg (fun x => x = b ∧ 0 < n) w w11 by rw [hw]; exact hC.out.trans (Chg.set ⟨rfl, by have := hi'.out; omega⟩ _ _)); clear hC; have hC := n0_; clear n0_ hw hv hf))
        go_roundg k1
        case measure => omega
        case rel =>
          refine ⟨_, _, rfl, rfl, ⟨i + 1, ?_, by rw [hx5'.out]; exact wrap_id (by have := hi'.out; omega), by have := h2'.out; omega, by have := hi'.out; omega⟩, hC⟩
          rw [hx1'.out, wrap_id (by have := hi'.out; omega), wrap_id (by have := hi'.out; omega)]
          congr 1
      · have c5 : decide (x5 < (n : Int)) = false := decide_eq_false hi
        have hie : i = n := by omega
        subst hie
        subst hx1
        go_wp2
        go_ret
        exact ⟨rfl, hC.out⟩
theorem markWatch_ok {A : Option Addr} {n c b k : Nat} {w : World} (hA : 0 < n → A = some ⟨b, 0, none⟩ ∧ Row w b (n * 2)) (hn : k + 2 * n ≤ 1000000000000000) :
    Calls Try.prog 61 #[.slice A n c, .int .i64 (k : Int)] w fun e w' => e = .returned (.int .i64 ((k + 2 * n : Nat) : Int)) ∧ Chg (fun x => x = b ∧ 0 < n) w w' := by
  go_enter Try.func61, Try.ntmps61
  go_wp2
  go_loopg [1, 5] (n + 1) (fun kq v1 v5 w' => ∃ (x1 x5 : Int), v1 = .int .i64 x1 ∧ v5 = .int .i64 x5 ∧ Aside0 (∃ i : Nat, x1 = ((k + 2 * i : Nat) : Int) ∧ x5 = (i : Int) ∧ i + kq = n + 1 ∧ i ≤ n) ∧ Aside0 (Chg (fun x => x = b ∧ 0 < n) w w'))
  case atStart => exact ⟨k, 0, rfl, rfl, ⟨0, rfl, rfl, by omega, by omega⟩, ⟨Chg.refl _ _⟩⟩
  case round =>
    try clear p2
    obtain ⟨x1, x5, rfl, rfl, h1, hC⟩ := hrel
    obtain ⟨i, hx1, hx5, h2, h3⟩ := id h1.out
    cases gk with
    | zero => exact absurd h2 (by omega)
    | succ k1 =>
      by_cases hi : x5 < (n : Int)
      · have c5 : decide (x5 < (n : Int)) = true := decide_eq_true hi
        have p5 : 0 ≤ x5 := by omega
        have hlt : x5.toNat * 2 < n * 2 := by omega
        obtain ⟨hAe, hr⟩ := hA (by omega)
        subst hAe
        have hR' := Aside0.mk hr
        have hr' := hC.out.row _ _ hr
        obtain ⟨v, hv⟩ := hr'.cell hlt
        have hf : wr.frozen? ⟨b, x5.toNat * 2, none⟩ = false := hr'.free
        have hA' := Aside0.mk hA
        have hi' := Aside0.mk (show i < n by omega)
        have hx1' := Aside0.mk hx1
        have hx5' := Aside0.mk hx5
        have h2' := Aside0.mk h2
        clear hr hr' hA hlt hx1 hx5 h2 h3
        replace p5 := eq_true p5
        replace hi := eq_true hi
        go_wp2_with (first | ((with_reducible refine gate_store (t := 3) (p := 16) rfl ?_); refine store_event (t := 3) (p := 16) (v := ?vo_w9) (w1 := (wr.setCell ⟨b, x5.toNat * 2, none⟩ (.int .i64 x1))) ?hg ?ho ?hn ?hr ?_; (case ho => rfl); (case hg => rfl); (case hn => rfl); (case hr => first | (go_simp; done) | (go_simp; rfl)); intro w9 hw; have n0_ := Aside0.mk (show Chg (fun x => x = b ∧ 0 < n) w w9 by rw [hw]; exact hC.out.trans (Chg.set ⟨rfl, by have := hi'.out; omega⟩ _ _)); clear hC; have hC := n0_; clear n0_ hw hv hf; have hr2 := hC.out.row _ _ hR'.out; obtain ⟨v, hv⟩ := hr2.cell (show x5.toNat * 2 + 1 < n * 2 by have := hi'.out; have := hx5'.out; omega); have hf : w9.frozen? ⟨b, x5.toNat * 2 + 1, none⟩ = false := hr2.free; clear hr2) | ((with_reducible refine gate_store (t := 3) (p := 23) rfl ?_); refine store_event (t := 3) (p := 23) (v := ?vo_w11) (w1 := (w9.setCell ⟨b, x5.toNat * 2 + 1, none⟩ (.int .i64 (wrap64 (x1 + 1))))) ?hg ?ho ?hn ?hr ?_; (case ho => rfl); (case hg => rfl); (case hn => rfl); (case hr => first | (go_simp; done) | (go_simp; rfl)); intro w11 hw; have n0_ := Aside0.mk (show Chg (fun x => x = b ∧ 0 < n) w w11 by rw [hw]; exact hC.out.trans (Chg.set ⟨rfl, by have := hi'.out; omega⟩ _ _)); clear hC; have hC := n0_; clear n0_ hw hv hf))
        go_roundg k1
        case measure => omega
        case rel =>
          refine ⟨_, _, rfl, rfl, ⟨i + 1, ?_, by rw [hx5'.out]; exact wrap_id (by have := hi'.out; omega), by have := h2'.out; omega, by have := hi'.out; omega⟩, hC⟩
          rw [hx1'.out, wrap_id (by have := hi'.out; omega), wrap_id (by have := hi'.out; omega)]
          congr 1
      · have c5 : decide (x5 < (n : Int)) = false := decide_eq_false hi
        have hie : i = n := by omega
        subst hie
        subst hx1
        go_wp2
        go_ret
        exact ⟨rfl, hC.out⟩
end Go.Proofs.Ytpeejmolbmhjjaa.Sx
end

section
namespace Go.Proofs.Ytpeejmolbmhjjaa.Sx
open Go Go.RowKit Go.Proofs.YtpeejmolbmhjjaaU.PrintWords Go.Proofs.YtpeejmolbmhjjaaU.PrintLast Go.Proofs.YtpeejmolbmhjjaaU.PrintMore
set_option linter.unusedSimpArgs false
set_option linter.unusedVariables false
set_option maxHeartbeats 0
set_option maxRecDepth 100000
theorem set_same {w : World} {b s o : Nat} {v : Value} (h : Row w b s) (ho : o < s) : (w.setCell ⟨b, o, none⟩ v).cell? ⟨b, o, none⟩ = some v := by
  obtain ⟨arr, ty, h1, h2⟩ := h
  simp only [World.cell?, World.setCell]
  rw [Array.getElem?_modify, if_pos rfl, h1]
  simp [show o < arr.size by omega]
theorem set_other {w : World} {b b' o o' : Nat} {v u : Value} (h : w.cell? ⟨b', o', none⟩ = some u) (ho : b' = b → o' ≠ o) : (w.setCell ⟨b, o, none⟩ v).cell? ⟨b', o', none⟩ = some u := by
  simp only [World.cell?, World.setCell] at h ⊢
  rw [Array.getElem?_modify]
  by_cases e : b = b'
  · rw [if_pos e]
    subst e
    cases hq : w.heap[b]? with
    | none => rw [hq] at h; cases h
    | some ob =>
      rw [hq] at h
      cases ob <;> simp only [Option.map_some] at h ⊢ <;> try (cases h; done)
      rename_i arr ty fr
      obtain ⟨lo, hi⟩ := fr
      simp only [Option.isSome_none, Bool.false_eq_true, if_false] at h ⊢
      rw [Array.getElem?_setIfInBounds]
      split
      · rename_i e; exact absurd e.symm (ho rfl)
      · exact h
  · rw [if_neg e]; exact h
theorem markInt_ok {A : Option Addr} {n c b k : Nat} {w : World} (hA : 0 < n → A = some ⟨b, 0, none⟩ ∧ Row w b n) (hn : k + n ≤ 1000000000000000) :
    Calls Try.prog 63 #[.slice A n c, .int .i64 (k : Int)] w fun e w' => e = .returned (.int .i64 ((k + n : Nat) : Int)) ∧ Chg (fun x => x = b ∧ 0 < n) w w' ∧ ∀ j, j < n → w'.cell? ⟨b, j, none⟩ = some (.int .i64 ((k + j : Nat) : Int)) := by
  go_enter Try.func63, Try.ntmps63
  go_wp2
  go_loopg [1, 5] (n + 1) (fun kq v1 v5 w' => ∃ (x1 x5 : Int), v1 = .int .i64 x1 ∧ v5 = .int .i64 x5 ∧ Aside0 (∃ i : Nat, x1 = ((k + i : Nat) : Int) ∧ x5 = (i : Int) ∧ i + kq = n + 1 ∧ i ≤ n ∧ ∀ j, j < i → w'.cell? ⟨b, j, none⟩ = some (.int .i64 ((k + j : Nat) : Int))) ∧ Aside0 (Chg (fun x => x = b ∧ 0 < n) w w'))
  case atStart => exact ⟨k, 0, rfl, rfl, ⟨0, rfl, rfl, by omega, by omega, fun j hj => by omega⟩, ⟨Chg.refl _ _⟩⟩
  case round =>
    try clear p2
    obtain ⟨x1, x5, rfl, rfl, h1, hC⟩ := hrel
    obtain ⟨i, hx1, hx5, h2, h3, h4⟩ := id h1.out
    cases gk with
    | zero => exact absurd h2 (by omega)
    | succ k1 =>
      by_cases hi : x5 < (n : Int)
      · have c5 : decide (x5 < (n : Int)) = true := decide_eq_true hi
        have p5 : 0 ≤ x5 := by omega
        have hlt : x5.toNat < n := by omega
        obtain ⟨hAe, hr⟩ := hA (by omega)
        subst hAe
        have hr' := hC.out.row _ _ hr
        obtain ⟨v, hv⟩ := hr'.cell hlt
        have hf : wr.frozen? ⟨b, x5.toNat, none⟩ = false := hr'.free
        have hA' := Aside0.mk hA
        have hR' := Aside0.mk hr'
        have hi' := Aside0.mk (show i < n by omega)
        have hx1' := Aside0.mk hx1
        have hx5' := Aside0.mk hx5
        have h2' := Aside0.mk h2
        have h4' := Aside0.mk h4
        clear hr hr' hA hlt hx1 hx5 h2 h3 h4
        replace p5 := eq_true p5
        replace hi := eq_true hi
        go_wp2_with (first | ((with_reducible refine gate_store (t := 3) (p := 15) rfl ?_); refine store_event (t := 3) (p := 15) (v := ?vo_w8) (w1 := (wr.setCell ⟨b, x5.toNat, none⟩ (.int .i64 x1))) ?hg ?ho ?hn ?hr ?_; (case ho => rfl); (case hg => rfl); (case hn => rfl); (case hr => first | (go_simp; done) | (go_simp; rfl)); intro w8 hw; have n0_ := Aside0.mk (show Chg (fun x => x = b ∧ 0 < n) w w8 by rw [hw]; exact hC.out.trans (Chg.set ⟨rfl, by have := hi'.out; omega⟩ _ _)); clear hC; have hC := n0_; have h5' := Aside0.mk (show ∀ j, j < i + 1 → w8.cell? ⟨b, j, none⟩ = some (.int .i64 ((k + j : Nat) : Int)) from fun j hj => by rw [hw]; have e5 := hx5'.out; by_cases hji : j = i; (rw [hji, show i = x5.toNat by omega, ← (show x1 = ((k + x5.toNat : Nat) : Int) by rw [hx1'.out]; congr 2; omega)]; exact set_same hR'.out (by have := hi'.out; omega)); exact set_other (h4'.out j (by omega)) (fun _ => by omega)); clear n0_ hw hv hf))
        go_roundg k1
        case measure => omega
        case rel => exact ⟨_, _, rfl, rfl, ⟨i + 1, by rw [hx1'.out]; exact wrap_id (by have := hi'.out; omega), by rw [hx5'.out]; exact wrap_id (by have := hi'.out; omega), by have := h2'.out; omega, by have := hi'.out; omega, h5'.out⟩, hC⟩
      · have c5 : decide (x5 < (n : Int)) = false := decide_eq_false hi
        have hie : i = n := by omega
        subst hie
        subst hx1
        go_wp2
        go_ret
        exact ⟨rfl, hC.out, h4⟩
theorem heldInt_ok {A : Option Addr} {n c b k : Nat} {w : World} (hA : 0 < n → A = some ⟨b, 0, none⟩) (hc : ∀ j, j < n → w.cell? ⟨b, j, none⟩ = some (.int .i64 ((k + j : Nat) : Int))) (hn : k + n ≤ 1000000000000000) :
    Calls Try.prog 64 #[.slice A n c, .int .i64 (k : Int)] w fun e w' => e = .returned (.int .i64 ((k + n : Nat) : Int)) ∧ w' = w := by
  go_enter Try.func64, Try.ntmps64
  go_wp2
  go_loopg [1, 5] (n + 1) (fun kq v1 v5 w' => ∃ (x1 x5 : Int), v1 = .int .i64 x1 ∧ v5 = .int .i64 x5 ∧ Aside0 (∃ i : Nat, x1 = ((k + i : Nat) : Int) ∧ x5 = (i : Int) ∧ i + kq = n + 1 ∧ i ≤ n) ∧ w' = w)
  case atStart => exact ⟨k, 0, rfl, rfl, ⟨0, rfl, rfl, by omega, by omega⟩, rfl⟩
  case round =>
    try clear p2
    obtain ⟨x1, x5, rfl, rfl, h1, hC⟩ := hrel
    subst hC
    obtain ⟨i, hx1, hx5, h2, h3⟩ := id h1.out
    cases gk with
    | zero => exact absurd h2 (by omega)
    | succ k1 =>
      by_cases hi : x5 < (n : Int)
      · have c5 : decide (x5 < (n : Int)) = true := decide_eq_true hi
        have p5 : 0 ≤ x5 := by omega
        have hAe := hA (by omega)
        subst hAe
        have hv : wr.cell? ⟨b, x5.toNat, none⟩ = some (.int .i64 x1) := by rw [hc _ (by omega), hx1]; congr 3; omega
        have hA' := Aside0.mk hA
        have hc' := Aside0.mk hc
        have hi' := Aside0.mk (show i < n by omega)
        have hx1' := Aside0.mk hx1
        have hx5' := Aside0.mk hx5
        have h2' := Aside0.mk h2
        clear hc hA hx1 hx5 h2 h3
        replace p5 := eq_true p5
        replace hi := eq_true hi
        go_wp2
        go_roundg k1
        case measure => omega
        case rel => exact ⟨_, _, rfl, rfl, ⟨i + 1, by rw [hx1'.out]; exact wrap_id (by have := hi'.out; omega), by rw [hx5'.out]; exact wrap_id (by have := hi'.out; omega), by have := h2'.out; omega, by have := hi'.out; omega⟩, rfl⟩
      · have c5 : decide (x5 < (n : Int)) = false := decide_eq_false hi
        have hie : i = n := by omega
        subst hie
        subst hx1
        go_wp2
        go_ret
        exact ⟨rfl, rfl⟩
end Go.Proofs.Ytpeejmolbmhjjaa.Sx
end

section
namespace Go.Proofs.Ytpeejmolbmhjjaa.Sx
open Go Go.RowKit Go.Proofs.YtpeejmolbmhjjaaU.PrintWords Go.Proofs.YtpeejmolbmhjjaaU.PrintLast Go.Proofs.YtpeejmolbmhjjaaU.PrintMore
set_option linter.unusedSimpArgs false
set_option linter.unusedVariables false
set_option maxHeartbeats 0
set_option maxRecDepth 100000
/-- A list that lies in a block of S, of elements of z cells. -/
structure Sub (w : World) (S : Nat → Prop) (z : Nat) (A : Option Addr) (m b : Nat) : Prop where
  le : m ≤ 1100000
  at_ : 0 < m → A = some ⟨b, 0, none⟩
  row : 0 < m → Row w b (m * z)
  mem : 0 < m → S b
def SubV (w : World) (S : Nat → Prop) (z : Nat) (v : Value) : Prop := ∃ A m c b, v = .slice A m c ∧ Sub w S z A m b
/-- The cells of an end that hold lists, and how many cells an element of each has. -/
def lst4 (c z : Nat) : Prop := (c = 7 ∧ z = 1) ∨ (c = 10 ∧ z = 2) ∨ (c = 13 ∧ z = 1) ∨ (c = 14 ∧ z = 2)
structure Ens (S : Nat → Prop) (blk n : Nat) (w : World) : Prop where
  row : Row w blk (n * 24)
  sub : ∀ j c z, j < n → lst4 c z → ∃ v, w.cell? ⟨blk, j * 24 + c, none⟩ = some v ∧ SubV w (fun b => S b ∧ b ≠ blk) z v
  own : S blk
section
variable {S S' : Nat → Prop} {blk n : Nat} {w w' : World}
theorem Sub.chg {S T : Nat → Prop} {z m b : Nat} {A : Option Addr} (h : Sub w S z A m b) (hc : Chg T w w') : Sub w' S z A m b := ⟨h.le, h.at_, fun hm => hc.row _ _ (h.row hm), h.mem⟩
theorem SubV.chg {S T : Nat → Prop} {z : Nat} {v : Value} (h : SubV w S z v) (hc : Chg T w w') : SubV w' S z v := let ⟨A, m, c, b, h1, h2⟩ := h; ⟨A, m, c, b, h1, h2.chg hc⟩
theorem Ens.cell (h : Ens S blk n w) {j c : Nat} (hj : j < n) (hc : c < 24) : (∃ v, w.cell? ⟨blk, j * 24 + c, none⟩ = some v) ∧ w.frozen? ⟨blk, j * 24 + c, none⟩ = false :=
  ⟨h.row.cell (by omega), h.row.free⟩
theorem Ens.set (h : Ens S blk n w) {j c : Nat} (hc : c < 24) (hn : c ≠ 7 ∧ c ≠ 10 ∧ c ≠ 13 ∧ c ≠ 14) (v : Value) : Ens S blk n (w.setCell ⟨blk, j * 24 + c, none⟩ v) := by
  have hC : Chg (fun x => x = blk) w (w.setCell ⟨blk, j * 24 + c, none⟩ v) := Chg.set (S := fun x => x = blk) rfl _ _
  refine ⟨hC.row _ _ h.row, fun j' c' z hj' hl => ?_, h.own⟩
  obtain ⟨u, h1, h2⟩ := h.sub j' c' z hj' hl
  refine ⟨u, set_other h1 (fun _ => ?_), h2.chg hC⟩
  rcases hl with ⟨rfl, _⟩ | ⟨rfl, _⟩ | ⟨rfl, _⟩ | ⟨rfl, _⟩ <;> omega
theorem cell_same {b o : Nat} (h : w'.heap[b]? = w.heap[b]?) : w'.cell? ⟨b, o, none⟩ = w.cell? ⟨b, o, none⟩ := by unfold World.cell?; rw [h]
theorem Ens.chg (h : Ens S blk n w) {b m : Nat} (hC : Chg (fun x => x = b ∧ 0 < m) w w') (hb : 0 < m → b ≠ blk) : Ens S blk n w' := by
  refine ⟨hC.row _ _ h.row, fun j' c' z hj' hl => ?_, h.own⟩
  obtain ⟨u, h1, h2⟩ := h.sub j' c' z hj' hl
  refine ⟨u, ?_, h2.chg hC⟩
  rw [cell_same (hC.block blk fun e => hb e.2 e.1.symm)]; exact h1
end
/-- An integer between 0 and a bound. -/
def Num (x hi : Int) : Prop := 0 ≤ x ∧ x ≤ hi
theorem Num.add {x hi : Int} (h : Num x hi) (hh : hi ≤ 1000000000000000) : Num (wrap64 (x + 1)) (hi + 1) := by
  obtain ⟨h1, h2⟩ := h
  unfold wrap64 Num; omega
theorem markByte_x {S : Nat → Prop} {A : Option Addr} {m c b : Nat} {x hi : Int} {w : World} (hs : Sub w S 1 A m b) (hx : Num x hi) (hh : hi + 2200000 ≤ 1000000000000000) :
    Calls Try.prog 76 #[.slice A m c, .int .i64 x] w fun e w' => ∃ y, e = .returned (.int .i64 y) ∧ Num y (hi + 2200000) ∧ Chg (fun x => x = b ∧ 0 < m) w w' := by
  obtain ⟨h1, h2⟩ := hx
  obtain ⟨k, rfl⟩ := Int.eq_ofNat_of_zero_le h1
  have hl := hs.le
  refine (markByte_ok (A := A) (n := m) (c := c) (b := b) (k := k) (fun hm => ⟨hs.at_ hm, (hs.row hm).mono (by omega)⟩) (by omega)).mono ?_
  rintro e w' ⟨rfl, hC⟩
  exact ⟨_, rfl, ⟨by omega, by omega⟩, hC⟩
theorem markRange_x {S : Nat → Prop} {A : Option Addr} {m c b : Nat} {x hi : Int} {w : World} (hs : Sub w S 2 A m b) (hx : Num x hi) (hh : hi + 2200000 ≤ 1000000000000000) :
    Calls Try.prog 123 #[.slice A m c, .int .i64 x] w fun e w' => ∃ y, e = .returned (.int .i64 y) ∧ Num y (hi + 2200000) ∧ Chg (fun x => x = b ∧ 0 < m) w w' := by
  obtain ⟨h1, h2⟩ := hx
  obtain ⟨k, rfl⟩ := Int.eq_ofNat_of_zero_le h1
  have hl := hs.le
  refine (markRange_ok (A := A) (n := m) (c := c) (b := b) (k := k) (fun hm => ⟨hs.at_ hm, (hs.row hm).mono (by omega)⟩) (by omega)).mono ?_
  rintro e w' ⟨rfl, hC⟩
  exact ⟨_, rfl, ⟨by omega, by omega⟩, hC⟩
theorem markEarly_x {S : Nat → Prop} {A : Option Addr} {m c b : Nat} {x hi : Int} {w : World} (hs : Sub w S 2 A m b) (hx : Num x hi) (hh : hi + 2200000 ≤ 1000000000000000) :
    Calls Try.prog 124 #[.slice A m c, .int .i64 x] w fun e w' => ∃ y, e = .returned (.int .i64 y) ∧ Num y (hi + 2200000) ∧ Chg (fun x => x = b ∧ 0 < m) w w' := by
  obtain ⟨h1, h2⟩ := hx
  obtain ⟨k, rfl⟩ := Int.eq_ofNat_of_zero_le h1
  have hl := hs.le
  refine (markEarly_ok (A := A) (n := m) (c := c) (b := b) (k := k) (fun hm => ⟨hs.at_ hm, (hs.row hm).mono (by omega)⟩) (by omega)).mono ?_
  rintro e w' ⟨rfl, hC⟩
  exact ⟨_, rfl, ⟨by omega, by omega⟩, hC⟩
end Go.Proofs.Ytpeejmolbmhjjaa.Sx
end

section
namespace Go.Proofs.Ytpeejmolbmhjjaa.Sx
open Go Go.RowKit Go.Proofs.YtpeejmolbmhjjaaU.PrintWords Go.Proofs.YtpeejmolbmhjjaaU.PrintLast Go.Proofs.YtpeejmolbmhjjaaU.PrintMore
set_option linter.unusedSimpArgs false
set_option linter.unusedVariables false
set_option maxHeartbeats 0
set_option maxRecDepth 1000000
theorem markEnd_ok {S : Nat → Prop} {A : Option Addr} {n c blk : Nat} {x : Int} {w : World} (hA : 0 < n → A = some ⟨blk, 0, none⟩ ∧ Ens S blk n w) (hn : n ≤ 1100000) (hx : Num x 10000000) :
    Calls Try.prog 62 #[.slice A n c, .int .i64 x] w fun e w' => ∃ y, e = .returned (.int .i64 y) ∧ 0 ≤ y ∧ Chg (fun x => S x ∧ 0 < n) w w' := by
  go_enter Try.func62, Try.ntmps62
  go_wp2
  go_loopg [1, 5] (n + 1) (fun kq v1 v5 w' => ∃ (x1 x5 : Int), v1 = .int .i64 x1 ∧ v5 = .int .i64 x5 ∧ Aside0 (∃ i : Nat, x5 = (i : Int) ∧ i + kq = n + 1 ∧ i ≤ n ∧ Num x1 (10000000 + 8800024 * i)) ∧ Aside0 (0 < n → Ens S blk n w') ∧ Aside0 (Chg (fun x => S x ∧ 0 < n) w w'))
  case atStart => exact ⟨x, 0, rfl, rfl, ⟨0, rfl, by omega, by omega, by simpa using hx⟩, ⟨fun hm => (hA hm).2⟩, ⟨Chg.refl _ _⟩⟩
  case round =>
    try clear p2
    obtain ⟨x1, x5, rfl, rfl, h1, hE0, hC0⟩ := hrel
    obtain ⟨i, hx5, h2, h3, hX0⟩ := id h1.out
    cases gk with
    | zero => exact absurd h2 (by omega)
    | succ k1 =>
      by_cases hi : x5 < (n : Int)
      · have c5 : decide (x5 < (n : Int)) = true := decide_eq_true hi
        have p5 : 0 ≤ x5 := by omega
        have hpos : 0 < n := by omega
        obtain ⟨hAe, hEw⟩ := hA hpos
        subst hAe
        have hlt := Aside0.mk (show x5.toNat < n by omega)
        have hE := Aside0.mk (hE0.out hpos)
        have hX := Aside0.mk hX0
        have hB := Aside0.mk (show 10000000 + 8800024 * (i : Int) + 8800024 ≤ 900000000000000 by omega)
        have hC := Aside0.mk (hC0.out.mono (S' := S) fun k_ e_ => e_.1)
        have hpos' := Aside0.mk hpos
        have hi' := Aside0.mk (show i < n by omega)
        have hx5' := Aside0.mk hx5
        have h2' := Aside0.mk h2
        clear hEw hA hE0 hC0 hX0 hx5 h2 h3 hpos hn hx
        obtain ⟨⟨v, hv⟩, hf⟩ := hE.out.cell (j := x5.toNat) (c := 0) hlt.out (by decide); simp only [Nat.add_zero] at hv hf
        replace p5 := eq_true p5
        replace hi := eq_true hi
        go_wp2_with (first | ((with_reducible refine gate_store (t := 3) (p := 16) rfl ?_); refine store_event (t := 3) (p := 16) (v := ?vo_w0) (w1 := (wr.setCell ⟨blk, x5.toNat * 24, none⟩ ?val_w0)) ?hg ?ho ?hn ?hr ?_; (case ho => rfl); (case hg => rfl); (case hn => rfl); (case hr => first | (go_simp; done) | (go_simp; rfl)); intro w0 hw; have n0_ := Aside0.mk (show Ens S blk n w0 by rw [hw]; exact hE.out.set (j := x5.toNat) (c := 0) (by decide) (by decide) _); have n1_ := Aside0.mk (show Chg S w w0 by rw [hw]; exact hC.out.trans (Chg.set hE.out.own _ _)); clear hE hC; have hE := n0_; have hC := n1_; clear n0_ n1_ hw hv hf; obtain ⟨⟨v, hv⟩, hf⟩ := hE.out.cell (j := x5.toNat) (c := 1) hlt.out (by decide)) | ((with_reducible refine gate_store (t := 3) (p := 23) rfl ?_); obtain ⟨y1, hy1⟩ : ∃ y_, wrap64 (x1 + 1) = y_ := ⟨_, rfl⟩; rw [hy1]; have hX1 := Aside0.mk (by rw [← hy1]; exact hX.out.add (by have := hB.out; omega) : Num y1 (10000000 + 8800024 * (i : Int) + 1)); clear hy1; refine store_event (t := 3) (p := 23) (v := ?vo_w1) (w1 := (w0.setCell ⟨blk, x5.toNat * 24 + 1, none⟩ ?val_w1)) ?hg ?ho ?hn ?hr ?_; (case ho => rfl); (case hg => rfl); (case hn => rfl); (case hr => first | (go_simp; done) | (go_simp; rfl)); intro w1 hw; have n0_ := Aside0.mk (show Ens S blk n w1 by rw [hw]; exact hE.out.set (j := x5.toNat) (c := 1) (by decide) (by decide) _); have n1_ := Aside0.mk (show Chg S w w1 by rw [hw]; exact hC.out.trans (Chg.set hE.out.own _ _)); clear hE hC; have hE := n0_; have hC := n1_; clear n0_ n1_ hw hv hf; obtain ⟨⟨v, hv⟩, hf⟩ := hE.out.cell (j := x5.toNat) (c := 2) hlt.out (by decide)) | ((with_reducible refine gate_store (t := 3) (p := 30) rfl ?_); obtain ⟨y2, hy2⟩ : ∃ y_, wrap64 (y1 + 1) = y_ := ⟨_, rfl⟩; rw [hy2]; have hX2 := Aside0.mk (by rw [← hy2]; exact hX1.out.add (by have := hB.out; omega) : Num y2 (10000000 + 8800024 * (i : Int) + 2)); clear hy2; refine store_event (t := 3) (p := 30) (v := ?vo_w2) (w1 := (w1.setCell ⟨blk, x5.toNat * 24 + 2, none⟩ ?val_w2)) ?hg ?ho ?hn ?hr ?_; (case ho => rfl); (case hg => rfl); (case hn => rfl); (case hr => first | (go_simp; done) | (go_simp; rfl)); intro w2 hw; have n0_ := Aside0.mk (show Ens S blk n w2 by rw [hw]; exact hE.out.set (j := x5.toNat) (c := 2) (by decide) (by decide) _); have n1_ := Aside0.mk (show Chg S w w2 by rw [hw]; exact hC.out.trans (Chg.set hE.out.own _ _)); clear hE hC; have hE := n0_; have hC := n1_; clear n0_ n1_ hw hv hf; obtain ⟨⟨v, hv⟩, hf⟩ := hE.out.cell (j := x5.toNat) (c := 3) hlt.out (by decide)) | ((with_reducible refine gate_store (t := 3) (p := 37) rfl ?_); obtain ⟨y3, hy3⟩ : ∃ y_, wrap64 (y2 + 1) = y_ := ⟨_, rfl⟩; rw [hy3]; have hX3 := Aside0.mk (by rw [← hy3]; exact hX2.out.add (by have := hB.out; omega) : Num y3 (10000000 + 8800024 * (i : Int) + 3)); clear hy3; refine store_event (t := 3) (p := 37) (v := ?vo_w3) (w1 := (w2.setCell ⟨blk, x5.toNat * 24 + 3, none⟩ ?val_w3)) ?hg ?ho ?hn ?hr ?_; (case ho => rfl); (case hg => rfl); (case hn => rfl); (case hr => first | (go_simp; done) | (go_simp; rfl)); intro w3 hw; have n0_ := Aside0.mk (show Ens S blk n w3 by rw [hw]; exact hE.out.set (j := x5.toNat) (c := 3) (by decide) (by decide) _); have n1_ := Aside0.mk (show Chg S w w3 by rw [hw]; exact hC.out.trans (Chg.set hE.out.own _ _)); clear hE hC; have hE := n0_; have hC := n1_; clear n0_ n1_ hw hv hf; obtain ⟨⟨v, hv⟩, hf⟩ := hE.out.cell (j := x5.toNat) (c := 4) hlt.out (by decide)) | ((with_reducible refine gate_store (t := 3) (p := 44) rfl ?_); obtain ⟨y4, hy4⟩ : ∃ y_, wrap64 (y3 + 1) = y_ := ⟨_, rfl⟩; rw [hy4]; have hX4 := Aside0.mk (by rw [← hy4]; exact hX3.out.add (by have := hB.out; omega) : Num y4 (10000000 + 8800024 * (i : Int) + 4)); clear hy4; refine store_event (t := 3) (p := 44) (v := ?vo_w4) (w1 := (w3.setCell ⟨blk, x5.toNat * 24 + 4, none⟩ ?val_w4)) ?hg ?ho ?hn ?hr ?_; (case ho => rfl); (case hg => rfl); (case hn => rfl); (case hr => first | (go_simp; done) | (go_simp; rfl)); intro w4 hw; have n0_ := Aside0.mk (show Ens S blk n w4 by rw [hw]; exact hE.out.set (j := x5.toNat) (c := 4) (by decide) (by decide) _); have n1_ := Aside0.mk (show Chg S w w4 by rw [hw]; exact hC.out.trans (Chg.set hE.out.own _ _)); clear hE hC; have hE := n0_; have hC := n1_; clear n0_ n1_ hw hv hf; obtain ⟨⟨v, hv⟩, hf⟩ := hE.out.cell (j := x5.toNat) (c := 5) hlt.out (by decide)) | ((with_reducible refine gate_store (t := 3) (p := 51) rfl ?_); obtain ⟨y5, hy5⟩ : ∃ y_, wrap64 (y4 + 1) = y_ := ⟨_, rfl⟩; rw [hy5]; have hX5 := Aside0.mk (by rw [← hy5]; exact hX4.out.add (by have := hB.out; omega) : Num y5 (10000000 + 8800024 * (i : Int) + 5)); clear hy5; refine store_event (t := 3) (p := 51) (v := ?vo_w5) (w1 := (w4.setCell ⟨blk, x5.toNat * 24 + 5, none⟩ ?val_w5)) ?hg ?ho ?hn ?hr ?_; (case ho => rfl); (case hg => rfl); (case hn => rfl); (case hr => first | (go_simp; done) | (go_simp; rfl)); intro w5 hw; have n0_ := Aside0.mk (show Ens S blk n w5 by rw [hw]; exact hE.out.set (j := x5.toNat) (c := 5) (by decide) (by decide) _); have n1_ := Aside0.mk (show Chg S w w5 by rw [hw]; exact hC.out.trans (Chg.set hE.out.own _ _)); clear hE hC; have hE := n0_; have hC := n1_; clear n0_ n1_ hw hv hf; obtain ⟨⟨v, hv⟩, hf⟩ := hE.out.cell (j := x5.toNat) (c := 6) hlt.out (by decide)) | ((with_reducible refine gate_store (t := 3) (p := 59) rfl ?_); obtain ⟨y6, hy6⟩ : ∃ y_, wrap64 (y5 + 1) = y_ := ⟨_, rfl⟩; rw [hy6]; have hX6 := Aside0.mk (by rw [← hy6]; exact hX5.out.add (by have := hB.out; omega) : Num y6 (10000000 + 8800024 * (i : Int) + 6)); clear hy6; refine store_event (t := 3) (p := 59) (v := ?vo_w6) (w1 := (w5.setCell ⟨blk, x5.toNat * 24 + 6, none⟩ ?val_w6)) ?hg ?ho ?hn ?hr ?_; (case ho => rfl); (case hg => rfl); (case hn => rfl); (case hr => first | (go_simp; done) | (go_simp; rfl)); intro w6 hw; have n0_ := Aside0.mk (show Ens S blk n w6 by rw [hw]; exact hE.out.set (j := x5.toNat) (c := 6) (by decide) (by decide) _); have n1_ := Aside0.mk (show Chg S w w6 by rw [hw]; exact hC.out.trans (Chg.set hE.out.own _ _)); clear hE hC; have hE := n0_; have hC := n1_; clear n0_ n1_ hw hv hf; obtain ⟨v, hv, A7, m7, c7, b7, hv2, hs0⟩ := hE.out.sub x5.toNat 7 1 hlt.out (.inl ⟨rfl, rfl⟩); subst hv2; have hs7 := Aside0.mk hs0; clear hs0) | (go_at_call 76; obtain ⟨y7, hy7⟩ : ∃ y_, wrap64 (y6 + 1) = y_ := ⟨_, rfl⟩; rw [hy7]; have hX7 := Aside0.mk (by rw [← hy7]; exact hX6.out.add (by have := hB.out; omega) : Num y7 (10000000 + 8800024 * (i : Int) + 7)); clear hy7; (with_reducible refine (markByte_x hs7.out hX7.out (by have := hB.out; omega)).mono ?_); rintro e w7 ⟨z7, rfl, hX0, hch⟩; have hX7 := Aside0.mk (show Num z7 (10000000 + 8800024 * (i : Int) + 2200007) from ⟨hX0.1, by have := hX0.2; omega⟩); have n0_ := Aside0.mk (hE.out.chg hch fun hm => (hs7.out.mem hm).2); have n1_ := Aside0.mk (hC.out.trans (hch.mono fun k_ e_ => by obtain ⟨rfl, hm⟩ := e_; exact (hs7.out.mem hm).1)); clear hE hC hX0 hch hv hs7; have hE := n0_; have hC := n1_; clear n0_ n1_; obtain ⟨⟨v, hv⟩, hf⟩ := hE.out.cell (j := x5.toNat) (c := 8) hlt.out (by decide)) | ((with_reducible refine gate_store (t := 3) (p := 75) rfl ?_); refine store_event (t := 3) (p := 75) (v := ?vo_w8) (w1 := (w7.setCell ⟨blk, x5.toNat * 24 + 8, none⟩ ?val_w8)) ?hg ?ho ?hn ?hr ?_; (case ho => rfl); (case hg => rfl); (case hn => rfl); (case hr => first | (go_simp; done) | (go_simp; rfl)); intro w8 hw; have n0_ := Aside0.mk (show Ens S blk n w8 by rw [hw]; exact hE.out.set (j := x5.toNat) (c := 8) (by decide) (by decide) _); have n1_ := Aside0.mk (show Chg S w w8 by rw [hw]; exact hC.out.trans (Chg.set hE.out.own _ _)); clear hE hC; have hE := n0_; have hC := n1_; clear n0_ n1_ hw hv hf; obtain ⟨⟨v, hv⟩, hf⟩ := hE.out.cell (j := x5.toNat) (c := 9) hlt.out (by decide)) | ((with_reducible refine gate_store (t := 3) (p := 83) rfl ?_); obtain ⟨y9, hy9⟩ : ∃ y_, wrap64 (z7 + 1) = y_ := ⟨_, rfl⟩; rw [hy9]; have hX9 := Aside0.mk (by rw [← hy9]; exact hX7.out.add (by have := hB.out; omega) : Num y9 (10000000 + 8800024 * (i : Int) + 2200008)); clear hy9; refine store_event (t := 3) (p := 83) (v := ?vo_w9) (w1 := (w8.setCell ⟨blk, x5.toNat * 24 + 9, none⟩ ?val_w9)) ?hg ?ho ?hn ?hr ?_; (case ho => rfl); (case hg => rfl); (case hn => rfl); (case hr => first | (go_simp; done) | (go_simp; rfl)); intro w9 hw; have n0_ := Aside0.mk (show Ens S blk n w9 by rw [hw]; exact hE.out.set (j := x5.toNat) (c := 9) (by decide) (by decide) _); have n1_ := Aside0.mk (show Chg S w w9 by rw [hw]; exact hC.out.trans (Chg.set hE.out.own _ _)); clear hE hC; have hE := n0_; have hC := n1_; clear n0_ n1_ hw hv hf; obtain ⟨v, hv, A10, m10, c10, b10, hv2, hs0⟩ := hE.out.sub x5.toNat 10 2 hlt.out (.inr (.inl ⟨rfl, rfl⟩)); subst hv2; have hs10 := Aside0.mk hs0; clear hs0) | (go_at_call 123; obtain ⟨y10, hy10⟩ : ∃ y_, wrap64 (y9 + 1) = y_ := ⟨_, rfl⟩; rw [hy10]; have hX10 := Aside0.mk (by rw [← hy10]; exact hX9.out.add (by have := hB.out; omega) : Num y10 (10000000 + 8800024 * (i : Int) + 2200009)); clear hy10; (with_reducible refine (markRange_x hs10.out hX10.out (by have := hB.out; omega)).mono ?_); rintro e w10 ⟨z10, rfl, hX0, hch⟩; have hX10 := Aside0.mk (show Num z10 (10000000 + 8800024 * (i : Int) + 4400009) from ⟨hX0.1, by have := hX0.2; omega⟩); have n0_ := Aside0.mk (hE.out.chg hch fun hm => (hs10.out.mem hm).2); have n1_ := Aside0.mk (hC.out.trans (hch.mono fun k_ e_ => by obtain ⟨rfl, hm⟩ := e_; exact (hs10.out.mem hm).1)); clear hE hC hX0 hch hv hs10; have hE := n0_; have hC := n1_; clear n0_ n1_; obtain ⟨⟨v, hv⟩, hf⟩ := hE.out.cell (j := x5.toNat) (c := 11) hlt.out (by decide)) | ((with_reducible refine gate_store (t := 3) (p := 99) rfl ?_); refine store_event (t := 3) (p := 99) (v := ?vo_w11) (w1 := (w10.setCell ⟨blk, x5.toNat * 24 + 11, none⟩ ?val_w11)) ?hg ?ho ?hn ?hr ?_; (case ho => rfl); (case hg => rfl); (case hn => rfl); (case hr => first | (go_simp; done) | (go_simp; rfl)); intro w11 hw; have n0_ := Aside0.mk (show Ens S blk n w11 by rw [hw]; exact hE.out.set (j := x5.toNat) (c := 11) (by decide) (by decide) _); have n1_ := Aside0.mk (show Chg S w w11 by rw [hw]; exact hC.out.trans (Chg.set hE.out.own _ _)); clear hE hC; have hE := n0_; have hC := n1_; clear n0_ n1_ hw hv hf; obtain ⟨⟨v, hv⟩, hf⟩ := hE.out.cell (j := x5.toNat) (c := 12) hlt.out (by decide)) | ((with_reducible refine gate_store (t := 3) (p := 107) rfl ?_); obtain ⟨y12, hy12⟩ : ∃ y_, wrap64 (z10 + 1) = y_ := ⟨_, rfl⟩; rw [hy12]; have hX12 := Aside0.mk (by rw [← hy12]; exact hX10.out.add (by have := hB.out; omega) : Num y12 (10000000 + 8800024 * (i : Int) + 4400010)); clear hy12; refine store_event (t := 3) (p := 107) (v := ?vo_w12) (w1 := (w11.setCell ⟨blk, x5.toNat * 24 + 12, none⟩ ?val_w12)) ?hg ?ho ?hn ?hr ?_; (case ho => rfl); (case hg => rfl); (case hn => rfl); (case hr => first | (go_simp; done) | (go_simp; rfl)); intro w12 hw; have n0_ := Aside0.mk (show Ens S blk n w12 by rw [hw]; exact hE.out.set (j := x5.toNat) (c := 12) (by decide) (by decide) _); have n1_ := Aside0.mk (show Chg S w w12 by rw [hw]; exact hC.out.trans (Chg.set hE.out.own _ _)); clear hE hC; have hE := n0_; have hC := n1_; clear n0_ n1_ hw hv hf; obtain ⟨v, hv, A13, m13, c13, b13, hv2, hs0⟩ := hE.out.sub x5.toNat 13 1 hlt.out (.inr (.inr (.inl ⟨rfl, rfl⟩))); subst hv2; have hs13 := Aside0.mk hs0; clear hs0) | (go_at_call 76; obtain ⟨y13, hy13⟩ : ∃ y_, wrap64 (y12 + 1) = y_ := ⟨_, rfl⟩; rw [hy13]; have hX13 := Aside0.mk (by rw [← hy13]; exact hX12.out.add (by have := hB.out; omega) : Num y13 (10000000 + 8800024 * (i : Int) + 4400011)); clear hy13; (with_reducible refine (markByte_x hs13.out hX13.out (by have := hB.out; omega)).mono ?_); rintro e w13 ⟨z13, rfl, hX0, hch⟩; have hX13 := Aside0.mk (show Num z13 (10000000 + 8800024 * (i : Int) + 6600011) from ⟨hX0.1, by have := hX0.2; omega⟩); have n0_ := Aside0.mk (hE.out.chg hch fun hm => (hs13.out.mem hm).2); have n1_ := Aside0.mk (hC.out.trans (hch.mono fun k_ e_ => by obtain ⟨rfl, hm⟩ := e_; exact (hs13.out.mem hm).1)); clear hE hC hX0 hch hv hs13; have hE := n0_; have hC := n1_; clear n0_ n1_; obtain ⟨v, hv, A14, m14, c14, b14, hv2, hs0⟩ := hE.out.sub x5.toNat 14 2 hlt.out (.inr (.inr (.inr ⟨rfl, rfl⟩))); subst hv2; have hs14 := Aside0.mk hs0; clear hs0) | (go_at_call 124; (with_reducible refine (markEarly_x hs14.out hX13.out (by have := hB.out; omega)).mono ?_); rintro e w14 ⟨z14, rfl, hX0, hch⟩; have hX14 := Aside0.mk (show Num z14 (10000000 + 8800024 * (i : Int) + 8800011) from ⟨hX0.1, by have := hX0.2; omega⟩); have n0_ := Aside0.mk (hE.out.chg hch fun hm => (hs14.out.mem hm).2); have n1_ := Aside0.mk (hC.out.trans (hch.mono fun k_ e_ => by obtain ⟨rfl, hm⟩ := e_; exact (hs14.out.mem hm).1)); clear hE hC hX0 hch hv hs14; have hE := n0_; have hC := n1_; clear n0_ n1_; obtain ⟨⟨v, hv⟩, hf⟩ := hE.out.cell (j := x5.toNat) (c := 15) hlt.out (by decide)) | ((with_reducible refine gate_store (t := 4) (p := 132) rfl ?_); refine store_event (t := 4) (p := 132) (v := ?vo_w15) (w1 := (w14.setCell ⟨blk, x5.toNat * 24 + 15, none⟩ ?val_w15)) ?hg ?ho ?hn ?hr ?_; (case ho => rfl); (case hg => rfl); (case hn => rfl); (case hr => first | (go_simp; done) | (go_simp; rfl)); intro w15 hw; have n0_ := Aside0.mk (show Ens S blk n w15 by rw [hw]; exact hE.out.set (j := x5.toNat) (c := 15) (by decide) (by decide) _); have n1_ := Aside0.mk (show Chg S w w15 by rw [hw]; exact hC.out.trans (Chg.set hE.out.own _ _)); clear hE hC; have hE := n0_; have hC := n1_; clear n0_ n1_ hw hv hf; obtain ⟨⟨v, hv⟩, hf⟩ := hE.out.cell (j := x5.toNat) (c := 16) hlt.out (by decide)) | ((with_reducible refine gate_store (t := 4) (p := 141) rfl ?_); obtain ⟨y16, hy16⟩ : ∃ y_, wrap64 (z14 + 1) = y_ := ⟨_, rfl⟩; rw [hy16]; have hX16 := Aside0.mk (by rw [← hy16]; exact hX14.out.add (by have := hB.out; omega) : Num y16 (10000000 + 8800024 * (i : Int) + 8800012)); clear hy16; refine store_event (t := 4) (p := 141) (v := ?vo_w16) (w1 := (w15.setCell ⟨blk, x5.toNat * 24 + 16, none⟩ ?val_w16)) ?hg ?ho ?hn ?hr ?_; (case ho => rfl); (case hg => rfl); (case hn => rfl); (case hr => first | (go_simp; done) | (go_simp; rfl)); intro w16 hw; have n0_ := Aside0.mk (show Ens S blk n w16 by rw [hw]; exact hE.out.set (j := x5.toNat) (c := 16) (by decide) (by decide) _); have n1_ := Aside0.mk (show Chg S w w16 by rw [hw]; exact hC.out.trans (Chg.set hE.out.own _ _)); clear hE hC; have hE := n0_; have hC := n1_; clear n0_ n1_ hw hv hf; obtain ⟨⟨v, hv⟩, hf⟩ := hE.out.cell (j := x5.toNat) (c := 17) hlt.out (by decide)) | ((with_reducible refine gate_store (t := 4) (p := 150) rfl ?_); obtain ⟨y17, hy17⟩ : ∃ y_, wrap64 (y16 + 1) = y_ := ⟨_, rfl⟩; rw [hy17]; have hX17 := Aside0.mk (by rw [← hy17]; exact hX16.out.add (by have := hB.out; omega) : Num y17 (10000000 + 8800024 * (i : Int) + 8800013)); clear hy17; refine store_event (t := 4) (p := 150) (v := ?vo_w17) (w1 := (w16.setCell ⟨blk, x5.toNat * 24 + 17, none⟩ ?val_w17)) ?hg ?ho ?hn ?hr ?_; (case ho => rfl); (case hg => rfl); (case hn => rfl); (case hr => first | (go_simp; done) | (go_simp; rfl)); intro w17 hw; have n0_ := Aside0.mk (show Ens S blk n w17 by rw [hw]; exact hE.out.set (j := x5.toNat) (c := 17) (by decide) (by decide) _); have n1_ := Aside0.mk (show Chg S w w17 by rw [hw]; exact hC.out.trans (Chg.set hE.out.own _ _)); clear hE hC; have hE := n0_; have hC := n1_; clear n0_ n1_ hw hv hf; obtain ⟨⟨v, hv⟩, hf⟩ := hE.out.cell (j := x5.toNat) (c := 18) hlt.out (by decide)) | ((with_reducible refine gate_store (t := 3) (p := 157) rfl ?_); obtain ⟨y18, hy18⟩ : ∃ y_, wrap64 (y17 + 1) = y_ := ⟨_, rfl⟩; rw [hy18]; have hX18 := Aside0.mk (by rw [← hy18]; exact hX17.out.add (by have := hB.out; omega) : Num y18 (10000000 + 8800024 * (i : Int) + 8800014)); clear hy18; refine store_event (t := 3) (p := 157) (v := ?vo_w18) (w1 := (w17.setCell ⟨blk, x5.toNat * 24 + 18, none⟩ ?val_w18)) ?hg ?ho ?hn ?hr ?_; (case ho => rfl); (case hg => rfl); (case hn => rfl); (case hr => first | (go_simp; done) | (go_simp; rfl)); intro w18 hw; have n0_ := Aside0.mk (show Ens S blk n w18 by rw [hw]; exact hE.out.set (j := x5.toNat) (c := 18) (by decide) (by decide) _); have n1_ := Aside0.mk (show Chg S w w18 by rw [hw]; exact hC.out.trans (Chg.set hE.out.own _ _)); clear hE hC; have hE := n0_; have hC := n1_; clear n0_ n1_ hw hv hf; obtain ⟨⟨v, hv⟩, hf⟩ := hE.out.cell (j := x5.toNat) (c := 19) hlt.out (by decide)) | ((with_reducible refine gate_store (t := 3) (p := 164) rfl ?_); obtain ⟨y19, hy19⟩ : ∃ y_, wrap64 (y18 + 1) = y_ := ⟨_, rfl⟩; rw [hy19]; have hX19 := Aside0.mk (by rw [← hy19]; exact hX18.out.add (by have := hB.out; omega) : Num y19 (10000000 + 8800024 * (i : Int) + 8800015)); clear hy19; refine store_event (t := 3) (p := 164) (v := ?vo_w19) (w1 := (w18.setCell ⟨blk, x5.toNat * 24 + 19, none⟩ ?val_w19)) ?hg ?ho ?hn ?hr ?_; (case ho => rfl); (case hg => rfl); (case hn => rfl); (case hr => first | (go_simp; done) | (go_simp; rfl)); intro w19 hw; have n0_ := Aside0.mk (show Ens S blk n w19 by rw [hw]; exact hE.out.set (j := x5.toNat) (c := 19) (by decide) (by decide) _); have n1_ := Aside0.mk (show Chg S w w19 by rw [hw]; exact hC.out.trans (Chg.set hE.out.own _ _)); clear hE hC; have hE := n0_; have hC := n1_; clear n0_ n1_ hw hv hf; obtain ⟨⟨v, hv⟩, hf⟩ := hE.out.cell (j := x5.toNat) (c := 20) hlt.out (by decide)) | ((with_reducible refine gate_store (t := 3) (p := 171) rfl ?_); obtain ⟨y20, hy20⟩ : ∃ y_, wrap64 (y19 + 1) = y_ := ⟨_, rfl⟩; rw [hy20]; have hX20 := Aside0.mk (by rw [← hy20]; exact hX19.out.add (by have := hB.out; omega) : Num y20 (10000000 + 8800024 * (i : Int) + 8800016)); clear hy20; refine store_event (t := 3) (p := 171) (v := ?vo_w20) (w1 := (w19.setCell ⟨blk, x5.toNat * 24 + 20, none⟩ ?val_w20)) ?hg ?ho ?hn ?hr ?_; (case ho => rfl); (case hg => rfl); (case hn => rfl); (case hr => first | (go_simp; done) | (go_simp; rfl)); intro w20 hw; have n0_ := Aside0.mk (show Ens S blk n w20 by rw [hw]; exact hE.out.set (j := x5.toNat) (c := 20) (by decide) (by decide) _); have n1_ := Aside0.mk (show Chg S w w20 by rw [hw]; exact hC.out.trans (Chg.set hE.out.own _ _)); clear hE hC; have hE := n0_; have hC := n1_; clear n0_ n1_ hw hv hf; obtain ⟨⟨v, hv⟩, hf⟩ := hE.out.cell (j := x5.toNat) (c := 21) hlt.out (by decide)) | ((with_reducible refine gate_store (t := 3) (p := 179) rfl ?_); obtain ⟨y21, hy21⟩ : ∃ y_, wrap64 (y20 + 1) = y_ := ⟨_, rfl⟩; rw [hy21]; have hX21 := Aside0.mk (by rw [← hy21]; exact hX20.out.add (by have := hB.out; omega) : Num y21 (10000000 + 8800024 * (i : Int) + 8800017)); clear hy21; refine store_event (t := 3) (p := 179) (v := ?vo_w21) (w1 := (w20.setCell ⟨blk, x5.toNat * 24 + 21, none⟩ ?val_w21)) ?hg ?ho ?hn ?hr ?_; (case ho => rfl); (case hg => rfl); (case hn => rfl); (case hr => first | (go_simp; done) | (go_simp; rfl)); intro w21 hw; have n0_ := Aside0.mk (show Ens S blk n w21 by rw [hw]; exact hE.out.set (j := x5.toNat) (c := 21) (by decide) (by decide) _); have n1_ := Aside0.mk (show Chg S w w21 by rw [hw]; exact hC.out.trans (Chg.set hE.out.own _ _)); clear hE hC; have hE := n0_; have hC := n1_; clear n0_ n1_ hw hv hf; obtain ⟨⟨v, hv⟩, hf⟩ := hE.out.cell (j := x5.toNat) (c := 22) hlt.out (by decide)) | ((with_reducible refine gate_store (t := 3) (p := 187) rfl ?_); obtain ⟨y22, hy22⟩ : ∃ y_, wrap64 (y21 + 1) = y_ := ⟨_, rfl⟩; rw [hy22]; have hX22 := Aside0.mk (by rw [← hy22]; exact hX21.out.add (by have := hB.out; omega) : Num y22 (10000000 + 8800024 * (i : Int) + 8800018)); clear hy22; refine store_event (t := 3) (p := 187) (v := ?vo_w22) (w1 := (w21.setCell ⟨blk, x5.toNat * 24 + 22, none⟩ ?val_w22)) ?hg ?ho ?hn ?hr ?_; (case ho => rfl); (case hg => rfl); (case hn => rfl); (case hr => first | (go_simp; done) | (go_simp; rfl)); intro w22 hw; have n0_ := Aside0.mk (show Ens S blk n w22 by rw [hw]; exact hE.out.set (j := x5.toNat) (c := 22) (by decide) (by decide) _); have n1_ := Aside0.mk (show Chg S w w22 by rw [hw]; exact hC.out.trans (Chg.set hE.out.own _ _)); clear hE hC; have hE := n0_; have hC := n1_; clear n0_ n1_ hw hv hf; obtain ⟨⟨v, hv⟩, hf⟩ := hE.out.cell (j := x5.toNat) (c := 23) hlt.out (by decide)) | ((with_reducible refine gate_store (t := 3) (p := 195) rfl ?_); obtain ⟨y23, hy23⟩ : ∃ y_, wrap64 (y22 + 1) = y_ := ⟨_, rfl⟩; rw [hy23]; have hX23 := Aside0.mk (by rw [← hy23]; exact hX22.out.add (by have := hB.out; omega) : Num y23 (10000000 + 8800024 * (i : Int) + 8800019)); clear hy23; refine store_event (t := 3) (p := 195) (v := ?vo_w23) (w1 := (w22.setCell ⟨blk, x5.toNat * 24 + 23, none⟩ ?val_w23)) ?hg ?ho ?hn ?hr ?_; (case ho => rfl); (case hg => rfl); (case hn => rfl); (case hr => first | (go_simp; done) | (go_simp; rfl)); intro w23 hw; have n0_ := Aside0.mk (show Ens S blk n w23 by rw [hw]; exact hE.out.set (j := x5.toNat) (c := 23) (by decide) (by decide) _); have n1_ := Aside0.mk (show Chg S w w23 by rw [hw]; exact hC.out.trans (Chg.set hE.out.own _ _)); clear hE hC; have hE := n0_; have hC := n1_; clear n0_ n1_ hw hv hf))
        go_roundg k1
        case measure => omega
        case rel =>
          refine ⟨_, _, rfl, rfl, ⟨i + 1, by rw [hx5'.out]; exact wrap_id (by have := hi'.out; have := hB.out; omega), by have := h2'.out; omega, by have := hi'.out; omega, ?_⟩, ⟨fun _ => hE.out⟩, ⟨hC.out.mono fun k_ e_ => ⟨e_, hpos'.out⟩⟩⟩
          obtain ⟨g1, g2⟩ := hX23.out.add (by have := hB.out; omega)
          refine ⟨g1, ?_⟩
          have := hB.out
          push_cast
          omega
      · have c5 : decide (x5 < (n : Int)) = false := decide_eq_false hi
        go_wp2
        go_ret
        exact ⟨_, rfl, hX0.1, hC0.out⟩
end Go.Proofs.Ytpeejmolbmhjjaa.Sx
end

section
namespace Go.Proofs.Ytpeejmolbmhjjaa.Sx
open Go Go.RowKit Go.Proofs.YtpeejmolbmhjjaaU.PrintWords Go.Proofs.YtpeejmolbmhjjaaU.PrintLast Go.Proofs.YtpeejmolbmhjjaaU.PrintMore
set_option linter.unusedSimpArgs false
set_option linter.unusedVariables false
set_option maxHeartbeats 0
set_option maxRecDepth 100000
/-- The world only grew. -/
structure Grow (w w' : World) : Prop where
  os : w'.os = w.os
  tape : w'.tape = w.tape
  out : w'.output = w.output
  size : w.heap.size ≤ w'.heap.size
  block : ∀ k, k < w.heap.size → w'.heap[k]? = w.heap[k]?
abbrev noF : Nat → Nat → Prop := fun _ _ => False
abbrev noU : Nat → Bool := fun _ => false
abbrev at0 (n : Nat) : Nat → Nat := fun k => if k = K0 then n else 0
/-- What is read in a world, and what is read there that is new from block n on. -/
abbrev Rd (F : Nat → Nat → Prop) (w : World) (a : AV) (v : Value) : Prop := Rep Try.prog F (at0 0) noU w a v
abbrev Nw (n : Nat) (w : World) (a : AV) (v : Value) : Prop := Rep Try.prog noF (at0 n) noU w a v
section
variable {F F' : Nat → Nat → Prop} {β : Nat → Nat} {U : Nat → Bool} {w w' w'' : World} {a : AV} {v : Value}
theorem Grow.refl (w : World) : Grow w w := ⟨rfl, rfl, rfl, Nat.le_refl _, fun _ _ => rfl⟩
theorem Grow.trans (h : Grow w w') (h' : Grow w' w'') : Grow w w'' :=
  ⟨h'.os.trans h.os, h'.tape.trans h.tape, h'.out.trans h.out, Nat.le_trans h.size h'.size, fun k hk => (h'.block k (Nat.lt_of_lt_of_le hk h.size)).trans (h.block k hk)⟩
theorem cellB_lt {b o : Nat} {u : Value} (h : w.cell? ⟨b, o, none⟩ = some u) : b < w.heap.size := by
  unfold World.cell? at h
  cases hq : w.heap[b]? with
  | none => simp [hq] at h
  | some ob => exact (Array.getElem?_eq_some_iff.1 hq).1
theorem plain_of (h : ∀ b s, Row w b s → Row w' b s) : Plain w w' := fun b ⟨arr, ty, hb⟩ => by
  obtain ⟨arr', ty', h1, _⟩ := h b 0 ⟨arr, ty, hb, Nat.zero_le _⟩
  exact ⟨arr', ty', h1⟩
theorem Row.grow {b s : Nat} (h : Row w b s) (hg : Grow w w') : Row w' b s := by
  have := h.lt
  obtain ⟨arr, ty, h1, h2⟩ := h
  exact ⟨arr, ty, by rw [hg.block b this]; exact h1, h2⟩
theorem Rep.grow (h : Rep Try.prog F β U w a v) (hg : Grow w w') : Rep Try.prog F β U w' a v :=
  h.keep (fun b o u hc hF => ⟨by rw [cell_same (hg.block b (cellB_lt hc))]; exact hc, hF⟩) (fun b hb => ⟨hb, rfl⟩) rfl (plain_of fun b s hr => hr.grow hg)
theorem Rep.chg {S : Nat → Prop} (h : Rep Try.prog F β U w a v) (hC : Chg S w w') (hS : ∀ b o, S b → F b o) : Rep Try.prog F β U w' a v :=
  h.keep (fun b o u hc hF => ⟨by rw [cell_same (hC.block b fun hs => hF (hS b o hs))]; exact hc, hF⟩) (fun b hb => ⟨hb, rfl⟩) rfl (plain_of hC.row)
theorem Rep.fence {n : Nat} (h : Rep Try.prog noF β U w a v) (hn : w.heap.size ≤ n) : Rep Try.prog (fun b _ => n ≤ b) β U w a v :=
  h.keep (fun b o u hc _ => ⟨hc, fun hh => by have := cellB_lt hc; omega⟩) (fun b hb => ⟨hb, rfl⟩) rfl (Plain.same _)
theorem Rep.free (h : Rep Try.prog F β U w a v) : Rep Try.prog noF β U w a v :=
  h.keep (fun b o u hc _ => ⟨hc, fun hh => hh⟩) (fun b hb => ⟨hb, rfl⟩) rfl (Plain.same _)
/-- A call without boxes. -/
theorem callG {f : FuncId} {args : List PV} {R : TV → Prop} (h : Fx f args R) {vals : Array Value} (hl : args.length = vals.size)
    (hr : ∀ (j : Nat) (x : PV) (u : Value), args[j]? = some x → vals[j]? = some u → RepP (Rd noF w) x u) :
    Calls Try.prog f vals w fun e w' => ∃ (v : Value) (t : TV), e = .returned v ∧ R t ∧ RepT (Nw w.heap.size w') t v ∧ Grow w w' := by
  refine (h.2 noF (at0 0) noU w vals (fun _ _ h => h.elim) ⟨rfl, rfl⟩ (fun p hp => by cases hp) (fun p hp => by cases hp) hl hr).mono ?_
  rintro e w' ⟨v, o, F', bn, τ, rfl, ⟨t, ht, rfl⟩, hret⟩
  refine ⟨v, t, rfl, ht, ?_, hret.os, hret.tape, hret.out, hret.size, fun k hk => hret.block k hk fun p hp => by cases hp⟩
  refine hret.res.mono fun a u h => ?_
  have h1 := h.1
  refine Rep.keep (F' := noF) (β' := at0 w.heap.size) (U' := noU) (fun b o u hc _ => ⟨hc, fun hh => hh⟩) (fun b hb => by simp at hb) ?_ (Plain.same _) h1
  simp [at0, K0]
theorem callV {f : FuncId} {args : List PV} {a : AV} (h : Pure f args (.pv (false, [a]))) {vals : Array Value} (hl : args.length = vals.size)
    (hr : ∀ (j : Nat) (x : PV) (u : Value), args[j]? = some x → vals[j]? = some u → RepP (Rd noF w) x u) :
    Calls Try.prog f vals w fun e w' => ∃ v : Value, e = .returned v ∧ Nw w.heap.size w' a v ∧ Grow w w' := by
  have h' : Fx f args fun t => t = .pv (false, [a]) := ⟨h.1, fun F β U w vals h1 h2 h3 h4 h5 h6 => (h.2 F β U w vals h1 h2 h3 h4 h5 h6).mono fun _ _ ⟨v, o, F', bn, τ, he, hR, hret⟩ => ⟨v, o, F', bn, τ, he, ⟨_, rfl, hR⟩, hret⟩⟩
  refine (callG h' hl hr).mono ?_
  rintro e w' ⟨v, t, rfl, rfl, hT, hG⟩
  exact ⟨v, rfl, (RepP.one_inv hT).2, hG⟩
theorem arg1 {x : AV} {u : Value} (h : Rd noF w x u) : ∀ (j : Nat) (y : PV) (t : Value), [((false, [x]) : PV)][j]? = some y → (#[u] : Array Value)[j]? = some t → RepP (Rd noF w) y t := by
  intro j y t hy ht
  match j with
  | 0 => simp at hy ht; subst hy; subst ht; exact RepP.one h.oneCell h
  | j + 1 => simp at hy
theorem arg2 {x y : AV} {u t : Value} (h : Rd noF w x u) (h' : Rd noF w y t) : ∀ (j : Nat) (z : PV) (s : Value), [((false, [x]) : PV), (false, [y])][j]? = some z → (#[u, t] : Array Value)[j]? = some s → RepP (Rd noF w) z s := by
  intro j z s hz hs
  match j with
  | 0 => simp at hz hs; subst hz; subst hs; exact RepP.one h.oneCell h
  | 1 => simp at hz hs; subst hz; subst hs; exact RepP.one h'.oneCell h'
  | j + 2 => simp at hz
theorem Nw.i {n : Nat} {k : IntKind} {x : Int} (h : Nw n w (.i k x) v) : v = .int k x := by cases h; rfl
theorem Nw.b {n : Nat} {x : Bool} (h : Nw n w (.b x) v) : v = .bool x := by cases h; rfl
theorem Nw.rd {n : Nat} {e : TypeId} {es : List (List AV)} (h : Nw n w (.nl e es) v) : Rd noF w (.lst 0 0 e es) v := (Rep.strip h).cleanly rfl
theorem Nw.rd' {n : Nat} {e : TypeId} {es : List (List AV)} (h : Nw n w (.lst 0 0 e es) v) : Rd noF w (.lst 0 0 e es) v := Rep.cleanly h rfl
end
end Go.Proofs.Ytpeejmolbmhjjaa.Sx
end

section
namespace Go.Proofs.Ytpeejmolbmhjjaa.Sx
open Go Go.RowKit Go.Proofs.YtpeejmolbmhjjaaU.PrintWords Go.Proofs.YtpeejmolbmhjjaaU.PrintLast Go.Proofs.YtpeejmolbmhjjaaU.PrintMore
set_option linter.unusedSimpArgs false
set_option linter.unusedVariables false
set_option maxHeartbeats 0
set_option maxRecDepth 100000
theorem cells24 : Try.prog.cellsOf 24 = 2 := by kernel_rfl
theorem cells34 : Try.prog.cellsOf 34 = 24 := by kernel_rfl
theorem cells5n : Try.prog.cellsOf 5 = 1 := by kernel_rfl
theorem cells108 : Try.prog.cellsOf 108 = 2 := by kernel_rfl
theorem cells138 : Try.prog.cellsOf 138 = 2 := by kernel_rfl
section
variable {F : Nat → Nat → Prop} {β : Nat → Nat} {U : Nat → Bool} {w w' : World} {v : Value}
theorem row_of {b o s : Nat} {u : Value} (hp : ∃ arr ty, w.heap[b]? = some (.cells arr ty (0, 0))) (h : w.cell? ⟨b, o, none⟩ = some u) (hs : s ≤ o + 1) : Row w b s := by
  obtain ⟨arr, ty, h1⟩ := hp
  refine ⟨arr, ty, h1, ?_⟩
  simp only [World.cell?, h1] at h
  have := (Array.getElem?_eq_some_iff.1 h).1
  omega
/-- What a row that is new looks like. -/
theorem nl_inv {e : TypeId} {es : List (List AV)} {z : Nat} (h : Rep Try.prog F β U w (.nl e es) v) (hz : Try.prog.cellsOf e = z) (hz0 : 0 < z) : ∃ A c b, v = .slice A es.length c ∧ (0 < es.length → A = some ⟨b, 0, none⟩ ∧ Row w b (es.length * z) ∧ β K0 ≤ b ∧
    ∀ (j c : Nat) (xs : List AV) (x : AV), es[j]? = some xs → xs[c]? = some x → xs.length = z ∧ ∃ u, w.cell? ⟨b, j * z + c, none⟩ = some u ∧ Rep Try.prog F β U w x.nu u ∧ ∀ (a : Addr) (n m : Nat), u = .slice (some a) n m → 0 < n → a.block ≠ b) := by
  cases h with
  | nln => exact ⟨none, 0, 0, rfl, fun h => absurd h (by simp)⟩
  | nl _ _ blk cap vals hcap hlen h1 h2 h3 =>
    refine ⟨some ⟨blk, 0, none⟩, cap, blk, rfl, fun hn => ⟨rfl, ?_, h2.2.1, fun j c xs x hx hy => ?_⟩⟩
    · have hj : es[es.length - 1]? = some (es[es.length - 1]'(by omega)) := List.getElem?_eq_getElem _
      have hl := hlen _ (List.mem_of_getElem? hj)
      rw [hz] at hl
      have hc := (h1 _ (z - 1) _ _ hj (List.getElem?_eq_getElem (by omega))).2.1
      refine row_of h2.1 hc ?_
      rw [hz]
      obtain ⟨n, hn'⟩ : ∃ n, es.length = n + 1 := ⟨es.length - 1, by omega⟩
      rw [hn', Nat.add_sub_cancel, Nat.add_mul]
      omega
    · have hl := hlen _ (List.mem_of_getElem? hx)
      rw [hz] at hl
      have h4 := (h1 j c xs x hx hy).2.1
      rw [hz, Nat.zero_add] at h4
      exact ⟨hl, _, h4, h3 j c xs x hx hy, h2.2.2 j c xs x hx hy⟩
end
/-- A slice of n elements of z cells in a block of S. -/
def RowSh (S : Nat → Prop) (z n : Nat) (w : World) (v : Value) : Prop := ∃ A c b, v = .slice A n c ∧ (0 < n → A = some ⟨b, 0, none⟩ ∧ Row w b (n * z) ∧ S b)
def EndSh (S : Nat → Prop) (n : Nat) (w : World) (v : Value) : Prop := ∃ A c b, v = .slice A n c ∧ (0 < n → A = some ⟨b, 0, none⟩ ∧ Ens S b n w)
section
variable {S T : Nat → Prop} {w w' : World} {v : Value} {n N z : Nat}
theorem RowSh.grow (h : RowSh S z n w v) (hg : Grow w w') : RowSh S z n w' v := let ⟨A, c, b, h1, h2⟩ := h; ⟨A, c, b, h1, fun hn => ⟨(h2 hn).1, (h2 hn).2.1.grow hg, (h2 hn).2.2⟩⟩
theorem RowSh.chg (h : RowSh S z n w v) (hg : Chg T w w') : RowSh S z n w' v := let ⟨A, c, b, h1, h2⟩ := h; ⟨A, c, b, h1, fun hn => ⟨(h2 hn).1, hg.row _ _ (h2 hn).2.1, (h2 hn).2.2⟩⟩
theorem Sub.grow {m b : Nat} {A : Option Addr} (h : Sub w S z A m b) (hc : Grow w w') : Sub w' S z A m b := ⟨h.le, h.at_, fun hm => (h.row hm).grow hc, h.mem⟩
theorem SubV.grow (h : SubV w S z v) (hc : Grow w w') : SubV w' S z v := let ⟨A, m, c, b, h1, h2⟩ := h; ⟨A, m, c, b, h1, h2.grow hc⟩
theorem Ens.grow {b : Nat} (h : Ens S b n w) (hg : Grow w w') : Ens S b n w' :=
  ⟨h.row.grow hg, fun j c z hj hl => by
    obtain ⟨u, h1, h2⟩ := h.sub j c z hj hl
    exact ⟨u, by rw [cell_same (hg.block b h.row.lt)]; exact h1, h2.grow hg⟩, h.own⟩
theorem Ens.keep {b : Nat} (h : Ens S b n w) (hg : Chg T w w') (hd : ∀ k, T k → ¬ S k) : Ens S b n w' :=
  ⟨hg.row _ _ h.row, fun j c z hj hl => by
    obtain ⟨u, h1, h2⟩ := h.sub j c z hj hl
    exact ⟨u, by rw [cell_same (hg.block b fun ht => hd b ht h.own)]; exact h1, h2.chg hg⟩, h.own⟩
theorem EndSh.grow (h : EndSh S n w v) (hg : Grow w w') : EndSh S n w' v := let ⟨A, c, b, h1, h2⟩ := h; ⟨A, c, b, h1, fun hn => ⟨(h2 hn).1, (h2 hn).2.grow hg⟩⟩
theorem EndSh.keep (h : EndSh S n w v) (hg : Chg T w w') (hd : ∀ k, T k → ¬ S k) : EndSh S n w' v := let ⟨A, c, b, h1, h2⟩ := h; ⟨A, c, b, h1, fun hn => ⟨(h2 hn).1, (h2 hn).2.keep hg hd⟩⟩
theorem watSh {l : List Watch} (h : Nw N w (.nl 24 (l.map Watch.c)) v) : RowSh (fun b => N ≤ b ∧ b < w.heap.size) 2 l.length w v := by
  obtain ⟨A, c, b, h1, h2⟩ := nl_inv h cells24 (by decide)
  rw [List.length_map] at h1 h2
  refine ⟨A, c, b, h1, fun hn => ?_⟩
  obtain ⟨g1, g2, g3, _⟩ := h2 hn
  exact ⟨g1, g2, g3, g2.lt⟩
theorem intSh {l : List Int} (h : Nw N w (.nl 3 (l.map ic)) v) : RowSh (fun b => N ≤ b ∧ b < w.heap.size) 1 l.length w v := by
  obtain ⟨A, c, b, h1, h2⟩ := nl_inv h cells3 (by decide)
  rw [List.length_map] at h1 h2
  refine ⟨A, c, b, h1, fun hn => ?_⟩
  obtain ⟨g1, g2, g3, _⟩ := h2 hn
  exact ⟨g1, g2, g3, g2.lt⟩
theorem subV_of {e : TypeId} {es : List (List AV)} {b : Nat} (h : Nw N w (.nl e es) v) (hz : Try.prog.cellsOf e = z) (hz0 : 0 < z) (hl : es.length ≤ 1100000) (hb : ∀ (a : Addr) (n m : Nat), v = .slice (some a) n m → 0 < n → a.block ≠ b) :
    SubV w (fun k => (N ≤ k ∧ k < w.heap.size) ∧ k ≠ b) z v := by
  obtain ⟨A, c, b', h1, h2⟩ := nl_inv h hz hz0
  exact ⟨A, es.length, c, b', h1, hl, fun hn => (h2 hn).1, fun hn => (h2 hn).2.1, fun hn => by
    obtain ⟨g1, g2, g3, _⟩ := h2 hn
    exact ⟨⟨g3, g2.lt⟩, hb ⟨b', 0, none⟩ _ _ (by rw [h1, g1]) hn⟩⟩
theorem endSh {l : List End} (h : Nw N w (.nl 34 (l.map End.c)) v) (hs : ∀ e ∈ l, e.small) : EndSh (fun b => N ≤ b ∧ b < w.heap.size) l.length w v := by
  obtain ⟨A, c, b, h1, h2⟩ := nl_inv h cells34 (by decide)
  rw [List.length_map] at h1 h2
  refine ⟨A, c, b, h1, fun hn => ?_⟩
  obtain ⟨g1, g2, g3, g4⟩ := h2 hn
  refine ⟨g1, g2, fun j c' z hj hl => ?_, g3, g2.lt⟩
  have hj' : (l.map End.c)[j]? = some (l[j]).c := by simp [List.getElem?_map, List.getElem?_eq_getElem hj]
  have hsm := hs _ (List.getElem_mem hj)
  generalize l[j] = e at hj' hsm
  obtain ⟨s1, s2, s3, s4⟩ := hsm
  rcases hl with ⟨rfl, rfl⟩ | ⟨rfl, rfl⟩ | ⟨rfl, rfl⟩ | ⟨rfl, rfl⟩
  · obtain ⟨_, u, k1, k2, k3⟩ := g4 j 7 _ (.lst 0 0 5 (bytes e.out.keep)) hj' rfl
    exact ⟨u, k1, subV_of k2 cells5n (by decide) (by rw [bytes_len]; omega) k3⟩
  · obtain ⟨_, u, k1, k2, k3⟩ := g4 j 10 _ (.lst 0 0 108 (e.out.early.map Rng.c)) hj' rfl
    exact ⟨u, k1, subV_of k2 cells108 (by decide) (by rw [List.length_map]; omega) k3⟩
  · obtain ⟨_, u, k1, k2, k3⟩ := g4 j 13 _ (.lst 0 0 5 (bytes e.inn.got)) hj' rfl
    exact ⟨u, k1, subV_of k2 cells5n (by decide) (by rw [bytes_len]; omega) k3⟩
  · obtain ⟨_, u, k1, k2, k3⟩ := g4 j 14 _ (.lst 0 0 138 (e.inn.far.map Early.c)) hj' rfl
    exact ⟨u, k1, subV_of k2 cells138 (by decide) (by rw [List.length_map]; omega) k3⟩
theorem markWatch_v (h : RowSh S 2 n w v) (hn : n ≤ 1100000) : Calls Try.prog 61 #[v, .int .i64 1] w fun e w' => ∃ y, e = .returned (.int .i64 y) ∧ Num y 10000000 ∧ Chg S w w' := by
  obtain ⟨A, c, b, rfl, h2⟩ := h
  refine (markWatch_ok (A := A) (n := n) (c := c) (b := b) (k := 1) (fun hn => ⟨(h2 hn).1, (h2 hn).2.1⟩) (by omega)).mono ?_
  rintro e w' ⟨rfl, hC⟩
  exact ⟨_, rfl, ⟨by omega, by omega⟩, hC.mono fun k ⟨hk, hp⟩ => by subst hk; exact (h2 hp).2.2⟩
theorem markEnd_v {x : Int} (h : EndSh S n w v) (hn : n ≤ 1100000) (hx : Num x 10000000) : Calls Try.prog 62 #[v, .int .i64 x] w fun e w' => ∃ y, e = .returned (.int .i64 y) ∧ 0 ≤ y ∧ Chg S w w' := by
  obtain ⟨A, c, b, rfl, h2⟩ := h
  refine (markEnd_ok (S := S) (A := A) (n := n) (c := c) (blk := b) (fun hn => h2 hn) hn hx).mono ?_
  rintro e w' ⟨y, rfl, hy, hC⟩
  exact ⟨_, rfl, hy, hC.mono fun k hk => hk.1⟩
/-- The marks of a list of integers, in a world. -/
def Marked (n : Nat) (w : World) (v : Value) : Prop := ∃ A c b, v = .slice A n c ∧ (0 < n → A = some ⟨b, 0, none⟩) ∧ ∀ j, j < n → w.cell? ⟨b, j, none⟩ = some (.int .i64 ((1 + j : Nat) : Int))
theorem Marked.grow (h : Marked n w v) (hg : Grow w w') : Marked n w' v := let ⟨A, c, b, h1, h2, h3⟩ := h; ⟨A, c, b, h1, h2, fun j hj => by rw [cell_same (hg.block b (cellB_lt (h3 j hj)))]; exact h3 j hj⟩
theorem markInt_v (h : RowSh S 1 n w v) (hn : n ≤ 1100000) : Calls Try.prog 63 #[v, .int .i64 1] w fun e w' => e = .returned (.int .i64 ((1 + n : Nat) : Int)) ∧ Chg S w w' ∧ Marked n w' v := by
  obtain ⟨A, c, b, rfl, h2⟩ := h
  refine (markInt_ok (A := A) (n := n) (c := c) (b := b) (k := 1) (fun hn => ⟨(h2 hn).1, by have := (h2 hn).2.1; rwa [Nat.mul_one] at this⟩) (by omega)).mono ?_
  rintro e w' ⟨rfl, hC, hM⟩
  exact ⟨rfl, hC.mono fun k ⟨hk, hp⟩ => by subst hk; exact (h2 hp).2.2, A, c, b, rfl, fun hp => (h2 hp).1, hM⟩
theorem heldInt_v (h : Marked n w v) (hn : n ≤ 1100000) : Calls Try.prog 64 #[v, .int .i64 1] w fun e w' => e = .returned (.int .i64 ((1 + n : Nat) : Int)) ∧ w' = w := by
  obtain ⟨A, c, b, rfl, h2, h3⟩ := h
  exact heldInt_ok (A := A) (n := n) (c := c) (b := b) (k := 1) h2 h3 (by omega)
end
end Go.Proofs.Ytpeejmolbmhjjaa.Sx
end

section
namespace Go.Proofs.Ytpeejmolbmhjjaa.Sx
open Go Go.RowKit Go.Proofs.YtpeejmolbmhjjaaU.PrintWords Go.Proofs.YtpeejmolbmhjjaaU.PrintLast Go.Proofs.YtpeejmolbmhjjaaU.PrintMore
set_option linter.unusedSimpArgs false
set_option linter.unusedVariables false
set_option maxHeartbeats 0
set_option maxRecDepth 1000000
section
variable {w w' w0 : World} {v : Value} {N : Nat}
theorem intF {l : List Int} (h : Nw N w (.nl 3 (l.map ic)) v) : Rd (fun b _ => b < N) w (.lst 0 0 3 (l.map ic)) v := by
  generalize hes : l.map ic = es at h ⊢
  cases h with
  | nln => exact .nil ..
  | nl _ _ blk cap vals hcap hlen h1 h2 h3 =>
    refine .lst _ _ _ _ blk 0 cap vals hcap hlen (fun j c xs x hx hy => ⟨(h1 j c xs x hx hy).1, (h1 j c xs x hx hy).2.1, ?_⟩) (fun j c xs x hx hy => ?_)
    · have h4 : N ≤ blk := h2.2.1
      exact Nat.not_lt.2 h4
    · have h4 := h3 j c xs x hx hy
      rw [← hes] at hx
      have hm : ∃ n, xs = [AV.i .i64 n] := by
        have := List.mem_of_getElem? hx
        obtain ⟨n, _, rfl⟩ := List.mem_map.1 this
        exact ⟨n, rfl⟩
      obtain ⟨n, rfl⟩ := hm
      cases c with
      | zero =>
        obtain rfl : AV.i .i64 n = x := by simpa using hy
        generalize vals j 0 = u at h4 ⊢
        cases h4; exact .i _ _
      | succ c => simp at hy
theorem gF {ws : List Watch} {es : List End} (h : Nw N w (if ws.length = es.length then .nl 3 ((allWE ws es).map ic) else .lst 0 0 3 []) v) : Rd (fun b _ => b < N) w (.lst 0 0 3 ((allWE ws es).map ic)) v := by
  split at h
  · exact intF h
  · rename_i hne
    rw [allWE, if_neg hne]
    cases h with
    | nil => exact .nil ..
    | emp _ _ _ a cap => exact .emp _ _ _ a cap
    | lst _ _ _ _ blk off cap vals => exact .emp _ _ _ _ cap
theorem gSh {ws : List Watch} {es : List End} (h : Nw N w (if ws.length = es.length then .nl 3 ((allWE ws es).map ic) else .lst 0 0 3 []) v) : RowSh (fun b => N ≤ b ∧ b < w.heap.size) 1 (allWE ws es).length w v := by
  split at h
  · exact intSh h
  · rename_i hne
    rw [allWE, if_neg hne]
    cases h with
    | nil => exact ⟨none, 0, 0, rfl, fun h => absurd h (by simp)⟩
    | emp _ _ _ a cap => exact ⟨some a, cap, 0, rfl, fun h => absurd h (by simp)⟩
    | lst _ _ _ _ blk off cap vals => exact ⟨_, cap, 0, rfl, fun h => absurd h (by simp)⟩
end
theorem _root_.Go.RowKit.Below.grow {w w' w'' : World} (h : Below w.heap.size w w') (hg : Grow w' w'') : Below w.heap.size w w'' :=
  ⟨hg.os.trans h.os, hg.tape.trans h.tape, hg.out.trans h.output, Nat.le_trans h.size hg.size, fun k hk => (hg.block k (Nat.lt_of_lt_of_le hk h.size)).trans (h.block k hk)⟩
theorem below_chg {S : Nat → Prop} {w w' w'' : World} (h : Below w.heap.size w w') (hC : Chg S w' w'') (hS : ∀ b, S b → w.heap.size ≤ b) : Below w.heap.size w w'' :=
  ⟨hC.os.trans h.os, hC.tape.trans h.tape, hC.out.trans h.output, by rw [hC.size]; exact h.size, fun k hk => (hC.block k fun hs => by have := hS k hs; omega).trans (h.block k hk)⟩
theorem law14 {ws : List Watch} {es : List End} {v0 v1 : Value} {w : World} (h0 : Rd noF w (.lst 0 0 72 (ws.map Watch.c)) v0) (h1 : Rd noF w (.lst 0 0 68 (es.map End.cL)) v1)
    (hl0 : ws.length ≤ 9223372036854775807) (hl1 : es.length ≤ 9223372036854775807) (hf : ∀ e ∈ es, e.fits) :
    Calls Try.prog 14 #[v0, v1] w fun e w' => e = .returned (.bool true) ∧ Below w.heap.size w w' := by
  have HA0 := Aside0.mk h0
  have HA1 := Aside0.mk h1
  have HB := Aside0.mk (Below.refl w.heap.size w)
  have HL0 := Aside0.mk hl0
  have HL1 := Aside0.mk hl1
  have HF := Aside0.mk hf
  have hsz := szT_r2 (left := 1048576) (n := ws.length) ⟨by omega, by omega⟩
  clear h0 h1 hl0 hl1 hf
  have tk0 : Aside0 True := ⟨trivial⟩
  by_cases hz : szT 1048576 ws.length < 0
  · obtain ⟨q0, hq0⟩ : ∃ q, szT 1048576 ws.length = q := ⟨_, rfl⟩
    rw [hq0] at hz
    have c_q0 : decide (q0 < 0) = true := decide_eq_true hz
    clear hsz
    go_enter Try.func14, Try.ntmps14
    go_wp2_with (first | (go_at_call 54; have tk_ := tk0; clear tk0 tk_; (with_reducible refine (callV (szWatchS_ok ws 1048576 ⟨by omega, by omega⟩ HL0.out) rfl (arg2 HA0.out.free (Rep.i _ _))).mono ?_); rintro e w1 ⟨u, rfl, hv, hg⟩; have hu := Nw.i hv; subst hu; rw [hq0]; have n0_ := Aside0.mk (HA0.out.grow hg); have n1_ := Aside0.mk (HA1.out.grow hg); have n2_ := Aside0.mk (HB.out.grow hg); clear HA0 HA1 HB; have HA0 := n0_; have HA1 := n1_; have HB := n2_; clear n0_ n1_ n2_; clear hv hg; have tk1 : Aside0 True := ⟨trivial⟩))
    go_ret
    exact ⟨rfl, HB.out⟩
  · have HL := Aside0.mk (hsz.2.2 (by omega))
    obtain ⟨q0, hq0⟩ : ∃ q, szT 1048576 ws.length = q := ⟨_, rfl⟩
    rw [hq0] at hz hsz
    have c_q0 : decide (q0 < 0) = false := decide_eq_false hz
    have HQ0 := Aside0.mk (show 0 ≤ q0 ∧ q0 ≤ 1048576 from ⟨by omega, hsz.2.1⟩)
    have HLW := Aside0.mk (show (allWE ws es).length ≤ 1100000 by have := allWE_len ws es; have := HL.out; omega)
    obtain ⟨qn, hqn⟩ : ∃ q : Int, ((1 + (allWE ws es).length : Nat) : Int) = q := ⟨_, rfl⟩
    have c_qn : decide (qn < 0) = false := decide_eq_false (by omega)
    clear hsz
    go_enter Try.func14, Try.ntmps14
    go_wp2_with (first | (go_at_call 54; have tk_ := tk0; clear tk0 tk_; (with_reducible refine (callV (szWatchS_ok ws 1048576 ⟨by omega, by omega⟩ HL0.out) rfl (arg2 HA0.out.free (Rep.i _ _))).mono ?_); rintro e w1 ⟨u, rfl, hv, hg⟩; have hu := Nw.i hv; subst hu; rw [hq0]; have n0_ := Aside0.mk (HA0.out.grow hg); have n1_ := Aside0.mk (HA1.out.grow hg); have n2_ := Aside0.mk (HB.out.grow hg); clear HA0 HA1 HB; have HA0 := n0_; have HA1 := n1_; have HB := n2_; clear n0_ n1_ n2_; clear hv hg; have tk1 : Aside0 True := ⟨trivial⟩) | (go_at_call 55; have tk_ := tk1; clear tk1 tk_; (with_reducible refine (callG (szEndS_ok es q0 HQ0.out HL1.out HF.out) rfl (arg2 HA1.out.free (Rep.i _ _))).mono ?_); rintro e w2 ⟨u, t, rfl, ⟨r, rfl, q1, q2, q3⟩, hv, hg⟩; have hu := Nw.i (RepP.one_inv hv).2; subst hu; have HQ := Aside0.mk q3; have n0_ := Aside0.mk (HA0.out.grow hg); have n1_ := Aside0.mk (HA1.out.grow hg); have n2_ := Aside0.mk (HB.out.grow hg); clear HA0 HA1 HB; have HA0 := n0_; have HA1 := n1_; have HB := n2_; clear n0_ n1_ n2_; clear hv hg q1 q2 q3; have tk2 : Aside0 True := ⟨trivial⟩) | (go_at_call 56; have tk_ := tk2; clear tk2 tk_; (with_reducible refine ((callV (toWatchS_okN ws (by have := HL.out; omega)) rfl (arg1 HA0.out.free))).mono ?_); rintro e w3 ⟨u1, rfl, hv, hg⟩; have n0_ := Aside0.mk (HA0.out.grow hg); have n1_ := Aside0.mk (HA1.out.grow hg); have n2_ := Aside0.mk (HB.out.grow hg); clear HA0 HA1 HB; have HA0 := n0_; have HA1 := n1_; have HB := n2_; clear n0_ n1_ n2_; have HU1 := Aside0.mk hv.rd; clear hv hg; have tk3 : Aside0 True := ⟨trivial⟩) | (go_at_call 57; have tk_ := tk3; clear tk3 tk_; (with_reducible refine ((callV (toEndS_okN es (by have := (HQ.out (by omega)).1; omega) (HQ.out (by omega)).2) rfl (arg1 HA1.out.free))).mono ?_); rintro e w4 ⟨u2, rfl, hv, hg⟩; have n0_ := Aside0.mk (HA0.out.grow hg); have n1_ := Aside0.mk (HA1.out.grow hg); have n2_ := Aside0.mk (HB.out.grow hg); have n3_ := Aside0.mk (HU1.out.grow hg); clear HA0 HA1 HB HU1; have HA0 := n0_; have HA1 := n1_; have HB := n2_; have HU1 := n3_; clear n0_ n1_ n2_ n3_; have HU2 := Aside0.mk hv.rd; clear hv hg; have tk4 : Aside0 True := ⟨trivial⟩) | (go_at_call 30; have tk_ := tk4; clear tk4 tk_; (with_reducible refine (callV (watchAll_ok' ws es (by have := HL.out; omega) (by have := (HQ.out (by omega)).1; omega) (HQ.out (by omega)).2) rfl (arg2 HU1.out HU2.out)).mono ?_); rintro e w5 ⟨w0v, rfl, hv, hg⟩; have n0_ := Aside0.mk (HA0.out.grow hg); have n1_ := Aside0.mk (HA1.out.grow hg); have n2_ := Aside0.mk (HB.out.grow hg); have n3_ := Aside0.mk (HU1.out.grow hg); have n4_ := Aside0.mk (HU2.out.grow hg); clear HA0 HA1 HB HU1 HU2; have HA0 := n0_; have HA1 := n1_; have HB := n2_; have HU1 := n3_; have HU2 := n4_; clear n0_ n1_ n2_ n3_ n4_; have HW0 := Aside0.mk hv.rd'; clear hv hg HU1 HU2; have n0_ := Aside0.mk (HA0.out.fence (Nat.le_refl _)); have n1_ := Aside0.mk (HA1.out.fence (Nat.le_refl _)); have n2_ := Aside0.mk (HW0.out.fence (Nat.le_refl _)); clear HA0 HA1 HW0; have HA0 := n0_; have HA1 := n1_; have HW0 := n2_; clear n0_ n1_ n2_; have HS05 := Aside0.mk HB.out.size; have tk5 : Aside0 True := ⟨trivial⟩) | (go_at_call 56; have tk_ := tk5; clear tk5 tk_; (with_reducible refine ((callV (toWatchS_okN ws (by have := HL.out; omega)) rfl (arg1 HA0.out.free))).mono ?_); rintro e w6 ⟨x0, rfl, hv, hg⟩; have n0_ := Aside0.mk (HA0.out.grow hg); have n1_ := Aside0.mk (HA1.out.grow hg); have n2_ := Aside0.mk (HB.out.grow hg); have n3_ := Aside0.mk (HW0.out.grow hg); clear HA0 HA1 HB HW0; have HA0 := n0_; have HA1 := n1_; have HB := n2_; have HW0 := n3_; clear n0_ n1_ n2_ n3_; have HX0 := Aside0.mk hv.rd; have SX0 := Aside0.mk (watSh hv); have HS56 := Aside0.mk hg.size; clear hv hg; have tk6 : Aside0 True := ⟨trivial⟩) | (go_at_call 57; have tk_ := tk6; clear tk6 tk_; (with_reducible refine ((callV (toEndS_okN es (by have := (HQ.out (by omega)).1; omega) (HQ.out (by omega)).2) rfl (arg1 HA1.out.free))).mono ?_); rintro e w7 ⟨x1, rfl, hv, hg⟩; have n0_ := Aside0.mk (HA0.out.grow hg); have n1_ := Aside0.mk (HA1.out.grow hg); have n2_ := Aside0.mk (HB.out.grow hg); have n3_ := Aside0.mk (HW0.out.grow hg); have n4_ := Aside0.mk (HX0.out.grow hg); have n5_ := Aside0.mk (SX0.out.grow hg); clear HA0 HA1 HB HW0 HX0 SX0; have HA0 := n0_; have HA1 := n1_; have HB := n2_; have HW0 := n3_; have HX0 := n4_; have SX0 := n5_; clear n0_ n1_ n2_ n3_ n4_ n5_; have HX1 := Aside0.mk hv.rd; have SX1 := Aside0.mk (endSh hv (HQ.out (by omega)).2); have HS67 := Aside0.mk hg.size; clear hv hg; have tk7 : Aside0 True := ⟨trivial⟩) | (go_at_call 28; have tk_ := tk7; clear tk7 tk_; (with_reducible refine (callV (watchAll_okN ws es (by have := HL.out; omega) (by have := (HQ.out (by omega)).1; omega) (HQ.out (by omega)).2) rfl (arg2 HX0.out HX1.out)).mono ?_); rintro e w8 ⟨g0, rfl, hv, hg⟩; have n0_ := Aside0.mk (HA0.out.grow hg); have n1_ := Aside0.mk (HA1.out.grow hg); have n2_ := Aside0.mk (HB.out.grow hg); have n3_ := Aside0.mk (HW0.out.grow hg); have n4_ := Aside0.mk (HX0.out.grow hg); have n5_ := Aside0.mk (SX0.out.grow hg); have n6_ := Aside0.mk (HX1.out.grow hg); have n7_ := Aside0.mk (SX1.out.grow hg); clear HA0 HA1 HB HW0 HX0 SX0 HX1 SX1; have HA0 := n0_; have HA1 := n1_; have HB := n2_; have HW0 := n3_; have HX0 := n4_; have SX0 := n5_; have HX1 := n6_; have SX1 := n7_; clear n0_ n1_ n2_ n3_ n4_ n5_ n6_ n7_; have HG := Aside0.mk (gF hv); have SG := Aside0.mk (gSh hv); have HS78 := Aside0.mk hg.size; clear hv hg; have tk8 : Aside0 True := ⟨trivial⟩) | (go_at_call 58; have tk_ := tk8; clear tk8 tk_; (with_reducible refine (callV (eqIntS_ok (allWE ws es) HLW.out) rfl (arg2 HG.out.free HW0.out.free)).mono ?_); rintro e w9 ⟨u, rfl, hv, hg⟩; have hu := Nw.b hv; subst hu; have n0_ := Aside0.mk (HA0.out.grow hg); have n1_ := Aside0.mk (HA1.out.grow hg); have n2_ := Aside0.mk (HB.out.grow hg); have n3_ := Aside0.mk (HW0.out.grow hg); have n4_ := Aside0.mk (HX0.out.grow hg); have n5_ := Aside0.mk (SX0.out.grow hg); have n6_ := Aside0.mk (HX1.out.grow hg); have n7_ := Aside0.mk (SX1.out.grow hg); have n8_ := Aside0.mk (HG.out.grow hg); have n9_ := Aside0.mk (SG.out.grow hg); clear HA0 HA1 HB HW0 HX0 SX0 HX1 SX1 HG SG; have HA0 := n0_; have HA1 := n1_; have HB := n2_; have HW0 := n3_; have HX0 := n4_; have SX0 := n5_; have HX1 := n6_; have SX1 := n7_; have HG := n8_; have SG := n9_; clear n0_ n1_ n2_ n3_ n4_ n5_ n6_ n7_ n8_ n9_; clear hv hg; have tk9 : Aside0 True := ⟨trivial⟩) | (go_at_call 56; have tk_ := tk9; clear tk9 tk_; (with_reducible refine ((callV (toWatchS_okN ws (by have := HL.out; omega)) rfl (arg1 HA0.out.free))).mono ?_); rintro e w10 ⟨u1, rfl, hv, hg⟩; have n0_ := Aside0.mk (HA0.out.grow hg); have n1_ := Aside0.mk (HA1.out.grow hg); have n2_ := Aside0.mk (HB.out.grow hg); have n3_ := Aside0.mk (HW0.out.grow hg); have n4_ := Aside0.mk (HX0.out.grow hg); have n5_ := Aside0.mk (SX0.out.grow hg); have n6_ := Aside0.mk (HX1.out.grow hg); have n7_ := Aside0.mk (SX1.out.grow hg); have n8_ := Aside0.mk (HG.out.grow hg); have n9_ := Aside0.mk (SG.out.grow hg); clear HA0 HA1 HB HW0 HX0 SX0 HX1 SX1 HG SG; have HA0 := n0_; have HA1 := n1_; have HB := n2_; have HW0 := n3_; have HX0 := n4_; have SX0 := n5_; have HX1 := n6_; have SX1 := n7_; have HG := n8_; have SG := n9_; clear n0_ n1_ n2_ n3_ n4_ n5_ n6_ n7_ n8_ n9_; have HU1 := Aside0.mk hv.rd; clear hv hg; have tk10 : Aside0 True := ⟨trivial⟩) | (go_at_call 59; have tk_ := tk10; clear tk10 tk_; (with_reducible refine (callV (eqWatchS_ok ws (by have := HL.out; omega)) rfl (arg2 HX0.out HU1.out)).mono ?_); rintro e w11 ⟨u, rfl, hv, hg⟩; have hu := Nw.b hv; subst hu; have n0_ := Aside0.mk (HA0.out.grow hg); have n1_ := Aside0.mk (HA1.out.grow hg); have n2_ := Aside0.mk (HB.out.grow hg); have n3_ := Aside0.mk (HW0.out.grow hg); have n4_ := Aside0.mk (HX0.out.grow hg); have n5_ := Aside0.mk (SX0.out.grow hg); have n6_ := Aside0.mk (HX1.out.grow hg); have n7_ := Aside0.mk (SX1.out.grow hg); have n8_ := Aside0.mk (HG.out.grow hg); have n9_ := Aside0.mk (SG.out.grow hg); have n10_ := Aside0.mk (HU1.out.grow hg); clear HA0 HA1 HB HW0 HX0 SX0 HX1 SX1 HG SG HU1; have HA0 := n0_; have HA1 := n1_; have HB := n2_; have HW0 := n3_; have HX0 := n4_; have SX0 := n5_; have HX1 := n6_; have SX1 := n7_; have HG := n8_; have SG := n9_; have HU1 := n10_; clear n0_ n1_ n2_ n3_ n4_ n5_ n6_ n7_ n8_ n9_ n10_; clear hv hg HU1; have tk11 : Aside0 True := ⟨trivial⟩) | (go_at_call 57; have tk_ := tk11; clear tk11 tk_; (with_reducible refine ((callV (toEndS_okN es (by have := (HQ.out (by omega)).1; omega) (HQ.out (by omega)).2) rfl (arg1 HA1.out.free))).mono ?_); rintro e w12 ⟨u2, rfl, hv, hg⟩; have n0_ := Aside0.mk (HA0.out.grow hg); have n1_ := Aside0.mk (HA1.out.grow hg); have n2_ := Aside0.mk (HB.out.grow hg); have n3_ := Aside0.mk (HW0.out.grow hg); have n4_ := Aside0.mk (HX0.out.grow hg); have n5_ := Aside0.mk (SX0.out.grow hg); have n6_ := Aside0.mk (HX1.out.grow hg); have n7_ := Aside0.mk (SX1.out.grow hg); have n8_ := Aside0.mk (HG.out.grow hg); have n9_ := Aside0.mk (SG.out.grow hg); clear HA0 HA1 HB HW0 HX0 SX0 HX1 SX1 HG SG; have HA0 := n0_; have HA1 := n1_; have HB := n2_; have HW0 := n3_; have HX0 := n4_; have SX0 := n5_; have HX1 := n6_; have SX1 := n7_; have HG := n8_; have SG := n9_; clear n0_ n1_ n2_ n3_ n4_ n5_ n6_ n7_ n8_ n9_; have HU2 := Aside0.mk hv.rd; clear hv hg; have tk12 : Aside0 True := ⟨trivial⟩) | (go_at_call 60; have tk_ := tk12; clear tk12 tk_; (with_reducible refine (callV (eqEndS_ok es (by have := (HQ.out (by omega)).1; omega) (HQ.out (by omega)).2) rfl (arg2 HX1.out HU2.out)).mono ?_); rintro e w13 ⟨u, rfl, hv, hg⟩; have hu := Nw.b hv; subst hu; have n0_ := Aside0.mk (HA0.out.grow hg); have n1_ := Aside0.mk (HA1.out.grow hg); have n2_ := Aside0.mk (HB.out.grow hg); have n3_ := Aside0.mk (HW0.out.grow hg); have n4_ := Aside0.mk (HX0.out.grow hg); have n5_ := Aside0.mk (SX0.out.grow hg); have n6_ := Aside0.mk (HX1.out.grow hg); have n7_ := Aside0.mk (SX1.out.grow hg); have n8_ := Aside0.mk (HG.out.grow hg); have n9_ := Aside0.mk (SG.out.grow hg); have n10_ := Aside0.mk (HU2.out.grow hg); clear HA0 HA1 HB HW0 HX0 SX0 HX1 SX1 HG SG HU2; have HA0 := n0_; have HA1 := n1_; have HB := n2_; have HW0 := n3_; have HX0 := n4_; have SX0 := n5_; have HX1 := n6_; have SX1 := n7_; have HG := n8_; have SG := n9_; have HU2 := n10_; clear n0_ n1_ n2_ n3_ n4_ n5_ n6_ n7_ n8_ n9_ n10_; clear hv hg HU2; have tk13 : Aside0 True := ⟨trivial⟩) | (go_at_call 61; have tk_ := tk13; clear tk13 tk_; (with_reducible refine (markWatch_v SX0.out (by have := HL.out; omega)).mono ?_); rintro e w14 ⟨k1, rfl, hk, hC⟩; clear HX0 HX1; have n0_ := Aside0.mk (HA0.out.chg hC fun b _ hb => by have := HS56.out; have := HS67.out; have h_ := hb.1; omega); have n1_ := Aside0.mk (HA1.out.chg hC fun b _ hb => by have := HS56.out; have := HS67.out; have h_ := hb.1; omega); have n2_ := Aside0.mk (below_chg HB.out hC fun b hb => by have := HS05.out; have := HS56.out; have := HS67.out; have h_ := hb.1; omega); have n3_ := Aside0.mk (HW0.out.chg hC fun b _ hb => by have := HS56.out; have := HS67.out; have h_ := hb.1; omega); have n4_ := Aside0.mk (SX1.out.keep hC fun b hb hb2 => by have h_ := hb.2; have h2_ := hb2.1; omega); have n5_ := Aside0.mk (HG.out.chg hC fun b _ hb => by have := HS67.out; have h_ := hb.2; omega); have n6_ := Aside0.mk (SG.out.chg hC); clear HA0 HA1 HB HW0 SX1 HG SG; have HA0 := n0_; have HA1 := n1_; have HB := n2_; have HW0 := n3_; have SX1 := n4_; have HG := n5_; have SG := n6_; clear n0_ n1_ n2_ n3_ n4_ n5_ n6_; have HK1 := Aside0.mk hk; clear hk hC SX0; have tk14 : Aside0 True := ⟨trivial⟩) | (go_at_call 62; have tk_ := tk14; clear tk14 tk_; (with_reducible refine (markEnd_v SX1.out (by have := (HQ.out (by omega)).1; omega) HK1.out).mono ?_); rintro e w15 ⟨k2, rfl, hk, hC⟩; have n0_ := Aside0.mk (HA0.out.chg hC fun b _ hb => by have := HS56.out; have := HS67.out; have h_ := hb.1; omega); have n1_ := Aside0.mk (HA1.out.chg hC fun b _ hb => by have := HS56.out; have := HS67.out; have h_ := hb.1; omega); have n2_ := Aside0.mk (below_chg HB.out hC fun b hb => by have := HS05.out; have := HS56.out; have := HS67.out; have h_ := hb.1; omega); have n3_ := Aside0.mk (HW0.out.chg hC fun b _ hb => by have := HS56.out; have := HS67.out; have h_ := hb.1; omega); have n4_ := Aside0.mk (HG.out.chg hC fun b _ hb => by have := HS67.out; have h_ := hb.2; omega); have n5_ := Aside0.mk (SG.out.chg hC); clear HA0 HA1 HB HW0 HG SG; have HA0 := n0_; have HA1 := n1_; have HB := n2_; have HW0 := n3_; have HG := n4_; have SG := n5_; clear n0_ n1_ n2_ n3_ n4_ n5_; have c_k2 : decide (k2 < 0) = false := decide_eq_false (by omega); clear hk hC SX1 HK1; have tk15 : Aside0 True := ⟨trivial⟩) | (go_at_call 58; have tk_ := tk15; clear tk15 tk_; (with_reducible refine (callV (eqIntS_ok (allWE ws es) HLW.out) rfl (arg2 HG.out.free HW0.out.free)).mono ?_); rintro e w16 ⟨u, rfl, hv, hg⟩; have hu := Nw.b hv; subst hu; have n0_ := Aside0.mk (HA0.out.grow hg); have n1_ := Aside0.mk (HA1.out.grow hg); have n2_ := Aside0.mk (HB.out.grow hg); have n3_ := Aside0.mk (HW0.out.grow hg); have n4_ := Aside0.mk (HG.out.grow hg); have n5_ := Aside0.mk (SG.out.grow hg); clear HA0 HA1 HB HW0 HG SG; have HA0 := n0_; have HA1 := n1_; have HB := n2_; have HW0 := n3_; have HG := n4_; have SG := n5_; clear n0_ n1_ n2_ n3_ n4_ n5_; clear hv hg HG; have tk16 : Aside0 True := ⟨trivial⟩) | (go_at_call 63; have tk_ := tk16; clear tk16 tk_; (with_reducible refine (markInt_v SG.out HLW.out).mono ?_); rintro e w17 ⟨rfl, hC, hM⟩; rw [hqn]; have n0_ := Aside0.mk (HA0.out.chg hC fun b _ hb => by have := HS56.out; have := HS67.out; have h_ := hb.1; omega); have n1_ := Aside0.mk (HA1.out.chg hC fun b _ hb => by have := HS56.out; have := HS67.out; have h_ := hb.1; omega); have n2_ := Aside0.mk (below_chg HB.out hC fun b hb => by have := HS05.out; have := HS56.out; have := HS67.out; have h_ := hb.1; omega); have n3_ := Aside0.mk (HW0.out.chg hC fun b _ hb => by have := HS56.out; have := HS67.out; have h_ := hb.1; omega); clear HA0 HA1 HB HW0; have HA0 := n0_; have HA1 := n1_; have HB := n2_; have HW0 := n3_; clear n0_ n1_ n2_ n3_; have HM := Aside0.mk hM; clear hM hC SG; have tk17 : Aside0 True := ⟨trivial⟩) | (go_at_call 64; have tk_ := tk17; clear tk17 tk_; (with_reducible refine (heldInt_v HM.out HLW.out).mono ?_); rintro e w18 ⟨rfl, hw_⟩; rw [hqn]; subst hw_; have tk18 : Aside0 True := ⟨trivial⟩) | (go_at_call 56; have tk_ := tk18; clear tk18 tk_; (with_reducible refine ((callV (toWatchS_okN ws (by have := HL.out; omega)) rfl (arg1 HA0.out.free))).mono ?_); rintro e w19 ⟨u1, rfl, hv, hg⟩; have n0_ := Aside0.mk (HA0.out.grow hg); have n1_ := Aside0.mk (HA1.out.grow hg); have n2_ := Aside0.mk (HB.out.grow hg); have n3_ := Aside0.mk (HW0.out.grow hg); have n4_ := Aside0.mk (HM.out.grow hg); clear HA0 HA1 HB HW0 HM; have HA0 := n0_; have HA1 := n1_; have HB := n2_; have HW0 := n3_; have HM := n4_; clear n0_ n1_ n2_ n3_ n4_; have HU1 := Aside0.mk hv.rd; clear hv hg; have tk19 : Aside0 True := ⟨trivial⟩) | (go_at_call 57; have tk_ := tk19; clear tk19 tk_; (with_reducible refine ((callV (toEndS_okN es (by have := (HQ.out (by omega)).1; omega) (HQ.out (by omega)).2) rfl (arg1 HA1.out.free))).mono ?_); rintro e w20 ⟨u2, rfl, hv, hg⟩; have n0_ := Aside0.mk (HA0.out.grow hg); have n1_ := Aside0.mk (HA1.out.grow hg); have n2_ := Aside0.mk (HB.out.grow hg); have n3_ := Aside0.mk (HW0.out.grow hg); have n4_ := Aside0.mk (HM.out.grow hg); have n5_ := Aside0.mk (HU1.out.grow hg); clear HA0 HA1 HB HW0 HM HU1; have HA0 := n0_; have HA1 := n1_; have HB := n2_; have HW0 := n3_; have HM := n4_; have HU1 := n5_; clear n0_ n1_ n2_ n3_ n4_ n5_; have HU2 := Aside0.mk hv.rd; clear hv hg; have tk20 : Aside0 True := ⟨trivial⟩) | (go_at_call 28; have tk_ := tk20; clear tk20 tk_; (with_reducible refine (callV (watchAll_ok ws es (by have := HL.out; omega) (by have := (HQ.out (by omega)).1; omega) (HQ.out (by omega)).2) rfl (arg2 HU1.out HU2.out)).mono ?_); rintro e w21 ⟨h0, rfl, hv, hg⟩; have n0_ := Aside0.mk (HA0.out.grow hg); have n1_ := Aside0.mk (HA1.out.grow hg); have n2_ := Aside0.mk (HB.out.grow hg); have n3_ := Aside0.mk (HW0.out.grow hg); have n4_ := Aside0.mk (HM.out.grow hg); have n5_ := Aside0.mk (HU1.out.grow hg); have n6_ := Aside0.mk (HU2.out.grow hg); clear HA0 HA1 HB HW0 HM HU1 HU2; have HA0 := n0_; have HA1 := n1_; have HB := n2_; have HW0 := n3_; have HM := n4_; have HU1 := n5_; have HU2 := n6_; clear n0_ n1_ n2_ n3_ n4_ n5_ n6_; have HH := Aside0.mk hv.rd'; clear hv hg HU1 HU2; have tk21 : Aside0 True := ⟨trivial⟩) | (go_at_call 58; have tk_ := tk21; clear tk21 tk_; (with_reducible refine (callV (eqIntS_ok (allWE ws es) HLW.out) rfl (arg2 HH.out HW0.out.free)).mono ?_); rintro e w22 ⟨u, rfl, hv, hg⟩; have hu := Nw.b hv; subst hu; have n0_ := Aside0.mk (HA0.out.grow hg); have n1_ := Aside0.mk (HA1.out.grow hg); have n2_ := Aside0.mk (HB.out.grow hg); have n3_ := Aside0.mk (HW0.out.grow hg); have n4_ := Aside0.mk (HM.out.grow hg); have n5_ := Aside0.mk (HH.out.grow hg); clear HA0 HA1 HB HW0 HM HH; have HA0 := n0_; have HA1 := n1_; have HB := n2_; have HW0 := n3_; have HM := n4_; have HH := n5_; clear n0_ n1_ n2_ n3_ n4_ n5_; clear hv hg; have tk22 : Aside0 True := ⟨trivial⟩) | (go_at_call 64; have tk_ := tk22; clear tk22 tk_; (with_reducible refine (heldInt_v HM.out HLW.out).mono ?_); rintro e w23 ⟨rfl, hw_⟩; rw [hqn]; subst hw_; have tk23 : Aside0 True := ⟨trivial⟩))
    all_goals go_ret
    all_goals exact ⟨rfl, HB.out⟩
end Go.Proofs.Ytpeejmolbmhjjaa.Sx
end
