/- strand.Scan. -/
import Derived.Test.YtldddinebhopcaaSt3
namespace Go.Proofs.Ytldddinebhopcaa.St
open Go.RowKit Go.Proofs.YtldddinebhopcaaW.PrintWords Go.Proofs.YtldddinebhopcaaW.PrintLast Go.Proofs.YtldddinebhopcaaW.PrintMore Go.Proofs.Ytldddinebhopcaa.Bs Go.Proofs.Ytldddinebhopcaa.Fr Go.Proofs.Ytldddinebhopcaa.Oct
set_option linter.unusedVariables false
set_option linter.unusedSimpArgs false

def kL : Kd (List Int) := Kd.slice 5 (Kd.int .u8)
instance (l : List Int) : Decidable (isF l) := by unfold isF; infer_instance
def restL (l : List Int) : List Int := l.drop ((rd l 1).toNat + 7)
def scanM : Nat → List Int → List (List Int)
  | 0, _ => []
  | k + 1, l => if isF l then bodyL l :: scanM k (restL l) else []
def scanL (l : List Int) : List (List Int) := scanM (l.length + 1) l
theorem restL_len (l : List Int) (h : isF l) : (restL l).length + 7 ≤ l.length := by
  obtain ⟨h1, _, h3, _, h5, _⟩ := h
  unfold restL
  rw [List.length_drop]
  omega
theorem scanM_len : ∀ (k : Nat) (l : List Int), (scanM k l).length ≤ l.length
  | 0, l => Nat.zero_le _
  | k + 1, l => by
    unfold scanM
    split
    · rename_i h
      have h1 := restL_len l h
      have h2 := scanM_len k (restL l)
      rw [List.length_cons]
      omega
    · exact Nat.zero_le _
theorem scanM_fuel : ∀ (k j : Nat) (l : List Int), l.length < k → l.length < j → scanM k l = scanM j l
  | 0, _, l, h, _ => by omega
  | _, 0, l, _, h => by omega
  | k + 1, j + 1, l, h1, h2 => by
    unfold scanM
    split
    · rename_i h
      have h3 := restL_len l h
      rw [scanM_fuel k j (restL l) (by omega) (by omega)]
    · rfl
theorem scanL_yes (l : List Int) (h : isF l) : scanL l = bodyL l :: scanL (restL l) := by
  have h3 := restL_len l h
  show (if isF l then bodyL l :: scanM l.length (restL l) else []) = _
  rw [if_pos h, scanM_fuel l.length ((restL l).length + 1) (restL l) (by omega) (by omega)]
  rfl
theorem scanL_no (l : List Int) (h : ¬ isF l) : scanL l = [] := by
  show (if isF l then bodyL l :: scanM l.length (restL l) else []) = _
  rw [if_neg h]
theorem restL_byt (l : List Int) (h : Byt l) : Byt (restL l) := h.drop _
/-- A row that is made stays, where one block of another type is turned. -/
theorem R_frT {α : Type} {d : Kd α} {e base g t : Nat} {w w' : World} {ok : Nat → Prop} {v : Value} {xs : List α} {cells : Array Value} (h : d.R e w base ok v xs) (hb : w.heap[g]? = some (.cells cells t (0, 0))) (ht : ∀ q, q ∈ e :: d.E → q ≠ t) (k : Fr w w' (fun k => k = g)) : d.R e w' base ok v xs :=
  Kd.R_mono (Kd.R_move (Kd.R_bound (Kd.R_types h hb ht)) (fun j hj => k.2.2 j hj.2.2.1 hj.1.2)) (fun _ hk => hk.1.1)
/-- How Scan stands between two frames. -/
def ST (w wr : World) (g : Nat) (L : List (List Int)) (q : Nat) (v5 v6 : Value) (b : Bool) : Prop :=
  ∃ acc, Kd.R kL 23 wr w.heap.size (fun _ => True) v5 acc ∧ Below w.heap.size w wr ∧ ((q = 0 ∧ b = false ∧ acc = L) ∨
    (∃ D rest A c hb, q = rest.length + 1 ∧ b = true ∧ Kd.R (Kd.int .u8) 5 wr w.heap.size (fun k => hb ≤ k) v6 D ∧ (∀ k, v5.ownBlock = some k → k < hb) ∧ hb ≤ wr.heap.size ∧
      wr.heap[g]? = some (.cells #[.slice A rest.length c] 87 (0, 0)) ∧ Kd.C (Kd.int .u8) w A rest.length rest ∧ rest.length ≤ c ∧ rest.length ≤ 1000000 ∧ Byt rest ∧ acc ++ D :: scanL rest = L))
theorem tyL (q : Nat) (hq : q ∈ 23 :: kL.E) : q ≠ 87 := by
  rcases List.mem_cons.1 hq with rfl | h
  · decide
  · rw [List.mem_singleton.1 (show q ∈ [5] from h)]; decide
theorem R_own_lt {α : Type} {d : Kd α} {e base : Nat} {ok : Nat → Prop} {w : World} {v : Value} {xs : List α} (h : d.R e w base ok v xs) : ∀ k, v.ownBlock = some k → k < w.heap.size := fun k hk => ((Kd.R_bound h).1 k hk).2.2.1
theorem take_ST (g : Nat) (A : Option Addr) (c : Nat) (rest : List Int) (w wr : World) (L acc : List (List Int)) (v5 : Value) (hgw : w.heap.size ≤ g) (hR : Kd.R kL 23 wr w.heap.size (fun _ => True) v5 acc) (hb : Below w.heap.size w wr) (hg : wr.heap[g]? = some (.cells #[.slice A rest.length c] 87 (0, 0)))
    (hC : Kd.C (Kd.int .u8) w A rest.length rest) (hc : rest.length ≤ c) (hm : rest.length ≤ 1000000) (hB : Byt rest) (hL : acc ++ scanL rest = L) :
    Calls Try.prog 48 #[.pointer (some ⟨g, 0, none⟩)] wr fun e w' => ∃ v6 b q, e = .returned (.tuple #[v6, .bool b]) ∧ ST w w' g L q v5 v6 b ∧ q ≤ rest.length := by
  refine (take_calls g A c rest w wr hb hg hC hc hm hB).mono ?_
  rintro e w1 (⟨hno, rfl, hb1⟩ | ⟨hyes, v1, A1, c1, rfl, hr1, hx1, hc1, hl1, hf1⟩)
  · exact ⟨_, _, 0, rfl, ⟨acc, Kd.R_below hR hb1, below_step hb hb1, .inl ⟨rfl, rfl, by rw [← hL, scanL_no rest hno, List.append_nil]⟩⟩, Nat.zero_le _⟩
  · have h7 := restL_len rest hyes
    refine ⟨_, _, (restL rest).length + 1, rfl, ⟨acc, R_frT hR hg tyL hf1, below_fr hb hb.size hf1 (fun k hk => by rw [hk]; exact hgw), .inr ⟨bodyL rest, restL rest, A1, c1, wr.heap.size, rfl, rfl, Kd.R_lower (Kd.R_mono (Kd.R_bound hr1) (fun k hk => hk.2.1)) hb.size, R_own_lt hR, hf1.size, hx1, hc1, hl1, by omega, restL_byt rest hB, ?_⟩⟩, by omega⟩
    rw [← hL, scanL_yes rest hyes]
theorem kL_mk {w : World} {base : Nat} {ok : Nat → Prop} {v : Value} {D : List Int} (h : Kd.R (Kd.int .u8) 5 w base ok v D) : kL.M w base ok D [v] := Exists.intro v ⟨rfl, h⟩
theorem infoL : (Try.prog.info? 23).map (fun i => (i.zero, i.size, i.bytes)) = some (some (.slice none 0 0), 1, 24) := by kernel_rfl
set_option maxHeartbeats 2000000 in
set_option maxRecDepth 100000 in
theorem Scan_calls (A : Option Addr) (c : Nat) (l : List Int) (w : World) (hC : Kd.C (Kd.int .u8) w A l.length l) (hc : l.length ≤ c) (hm : l.length ≤ 1000000) (hB : Byt l) :
    Calls Try.prog 18 #[.slice A l.length c] w fun e w' => ∃ v, e = .returned v ∧ Kd.R kL 23 w' w.heap.size (fun _ => True) v (scanL l) ∧ Below w.heap.size w w' := by
  have HC := Aside0.mk hC
  have HB := Aside0.mk hB
  have HM := Aside0.mk hm
  have HCC := Aside0.mk hc
  clear hC hB hm hc
  go_enter Try.func18, Try.ntmps18
  go_upto_region 4 with fail
  have X0 := Aside0.mk (blk_new w (.cells #[.slice A l.length c] 87))
  have B0 := Aside0.mk (below_alloc (Below.refl w.heap.size w) (.cells #[.slice A l.length c] 87))
  go_wp2_with fail
  refine (take_ST w.heap.size A c l w _ (scanL l) [] (.slice none 0 0) (Nat.le_refl _) (Kd.R_nil _ _ _ _ _) B0.out X0.out HC.out HCC.out HM.out HB.out rfl).mono ?_
  rintro e w1 ⟨v6, b7, q0, rfl, hst, _⟩
  have ST0 := Aside0.mk hst
  clear hst X0 B0
  have HSL : Aside0 ((scanL l).length ≤ 1000000) := ⟨Nat.le_trans (scanM_len _ l) HM.out⟩
  obtain ⟨L, hL⟩ : ∃ L, scanL l = L := ⟨_, rfl⟩
  have HLE := Aside0.mk hL
  rw [hL] at ST0 HSL
  clear hL
  go_upto_region 5 with fail
  go_loopg [5, 6, 7] q0 (fun q v5 v6 v7 wr => ∃ b : Bool, v7 = .bool b ∧ Aside0 (ST w wr w.heap.size L q v5 v6 b))
  case atStart => exact ⟨b7, rfl, ST0⟩
  case round =>
    clear ST0
    obtain ⟨b, rfl, hst⟩ := hrel
    obtain ⟨acc, hR, hB1, (⟨hq, rfl, hacc⟩ | ⟨D, rest, A2, c2, hb, hq, rfl, hD, hlt, hhb, hx, hc2, hl2, hm2, hB2, hL2⟩)⟩ := hst.out
    · subst hacc
      have R1 := Aside0.mk hR
      have B1 := Aside0.mk hB1
      clear hst hR hB1 hq
      go_wp2
      go_ret
      exact ⟨u5, rfl, by rw [HLE.out]; exact R1.out, B1.out⟩
    · subst hq
      have R1 := Aside0.mk hR
      have B1 := Aside0.mk hB1
      have HD := Aside0.mk hD
      have HLT := Aside0.mk hlt
      have HX := Aside0.mk hx
      have HG := Aside0.mk (fun k hk => ((Kd.R_types hR hx tyL).1 k hk).2)
      have HC2 := Aside0.mk hc2
      have HN2 := Aside0.mk (And.intro hl2 hm2)
      have HB2 := Aside0.mk hB2
      have HL2 := Aside0.mk hL2
      have HAL : Aside0 ((acc.length + 1) * 24 ≤ 140737488355328) := ⟨by have h := HSL.out; rw [← hL2, List.length_append, List.length_cons] at h; omega⟩
      clear hst hR hB1 hD hlt hx hc2 hl2 hm2 hB2 hL2 hhb
      obtain ⟨A6, c6, rfl⟩ := Kd.R_slice HD.out
      obtain ⟨A5, c5, rfl⟩ := Kd.R_slice R1.out
      go_upto_region 6 with ((with_reducible refine gate_builtin (b := .append) (xs := #[.tmp 24, .tmp 26]) rfl ?_); at_builtin; refine Kd.R_append kL (w0 := w) w.heap.size rfl (.tmp 24) (.tmp 26) 40 23 (.slice none 0 0) 24 rfl Try.underlying40 infoL rfl (by decide) (by decide) (.slice A5 acc.length c5) acc D [.slice A6 D.length c6] (fun _ => True) (fun k => hb ≤ k) rfl rfl (kL_mk HD.out) (fun k hk => ⟨trivial, fun he => by have := HLT.out k he.symm; omega⟩) (fun _ _ => trivial) R1.out B1.out B1.out.size HAL.out ?_; intro v8 w8 hr_ hb_ hg_ _; have R8 := Aside0.mk hr_; have B8 := Aside0.mk hb_; have X8 := Aside0.mk (blk_grown HX.out hg_ (fun he => HG.out _ he.symm rfl)); clear hr_ hb_ hg_)
      go_wp2_with fail
      refine (take_ST w.heap.size A2 c2 rest w w8 L (acc ++ [D]) v8 (Nat.le_refl _) R8.out B8.out X8.out HC2.out HN2.out.1 HN2.out.2 HB2.out (by rw [List.append_assoc]; exact HL2.out)).mono ?_
      rintro e w9 ⟨v9, b9, q9, rfl, hst9, hq9⟩
      have ST9 := Aside0.mk hst9
      clear hst9
      go_wp2
      go_roundg q9
      case measure => omega
      case rel => exact ⟨b9, rfl, ST9⟩
end Go.Proofs.Ytldddinebhopcaa.St
