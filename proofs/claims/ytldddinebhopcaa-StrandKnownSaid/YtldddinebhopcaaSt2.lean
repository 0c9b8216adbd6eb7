/- strand.Scan's frame taker: (*source).take; bytes.Equal. -/
import Derived.Test.YtldddinebhopcaaSt1
import Derived.Lib.Strings
import Derived.Lib.Slices
import Derived.Lib.Walk
import Derived.Lib.Bytes
import Derived.Laws.BytesArg
namespace Go.Proofs.Ytldddinebhopcaa.St
open Go.RowKit Go.Proofs.YtldddinebhopcaaW.PrintWords Go.Proofs.YtldddinebhopcaaW.PrintLast Go.Proofs.YtldddinebhopcaaW.PrintMore Go.Proofs.Ytldddinebhopcaa.Bs Go.Proofs.Ytldddinebhopcaa.Fr Go.Proofs.Ytldddinebhopcaa.Oct
set_option linter.unusedVariables false
set_option linter.unusedSimpArgs false

theorem at_zero {w : World} {ad : Addr} {b : List Int} (hC : Kd.C (Kd.int .u8) w (some ad) b.length b) (h1 : 0 < b.length) : w.cell? ad = some (.int .u8 (rd b 0)) := by
  obtain ⟨_, e, h⟩ := at_one hC 0 (by omega) (by omega)
  cases e
  have e : ad.add 0 = ad := by cases ad; rename_i a b c; cases c <;> simp [Addr.add]
  rw [show (0 : Int).toNat = 0 from rfl, e] at h
  exact h
/-- A string of bytes that lie somewhere. -/
theorem conv_C {w : World} {A : Option Addr} {l : List Int} (hC : Kd.C (Kd.int .u8) w A l.length l) (h0 : 0 < l.length) (c : Nat) :
    (convert 23 9 (.slice A l.length c)).run Try.prog w = .ok (.string (strOfNums l)) w := by
  obtain ⟨ad, e, _⟩ := at_one hC 0 (by omega) (by omega)
  subst e
  have hl : (loadCells ad l.length).run Try.prog w = .ok (l.map (Value.int .u8)).toArray w := by
    have := run_loadCells_list (P := Try.prog) w ad (l.map (Value.int .u8)) (fun j v hj => by
      have hjl : j < l.length := by
        rcases Nat.lt_or_ge j l.length with h | h
        · exact h
        · simp [List.getElem?_eq_none (show (l.map (Value.int .u8)).length ≤ j by simpa using h)] at hj
      obtain ⟨_, e2, hcell⟩ := at_one hC (j : Int) (by omega) (by omega)
      cases e2
      rw [Int.toNat_natCast] at hcell
      rw [hcell]
      simp [List.getElem?_eq_getElem hjl] at hj
      subst hj
      simp [rd, List.getD, List.getElem?_eq_getElem hjl])
    simpa using this
  rw [run_convert_bytes_string w _ _ 5 _ _ c Try.underlying23 Try.underlying5 Try.underlying9, run_bytesToString w _ _ c l hl, foldl_push_bytes]
  simp [strOfNums, ByteArray.empty, ByteArray.emptyWithCapacity]
  rfl
theorem bytes_inj (l : List Int) : ∀ k : List Int, Byt l → Byt k → Lib.bytesOf l = Lib.bytesOf k → l = k := by
  induction l with
  | nil =>
    intro k _ _ h
    cases k with
    | nil => rfl
    | cons x k => simp [Lib.bytesOf] at h
  | cons y l ih =>
    intro k hl hk h
    cases k with
    | nil => simp [Lib.bytesOf] at h
    | cons x k =>
      simp only [Lib.bytesOf, List.map_cons, List.cons.injEq] at h
      have h1 := hl y (by simp)
      have h2 := hk x (by simp)
      have h3 := congrArg UInt8.toNat h.1
      rw [UInt8.toNat_ofNat', UInt8.toNat_ofNat', Nat.mod_eq_of_lt (by omega), Nat.mod_eq_of_lt (by omega)] at h3
      have h4 : y = x := by omega
      rw [h4, ih k (fun z hz => hl z (by simp [hz])) (fun z hz => hk z (by simp [hz])) h.2]
theorem bytes_beq (l k : List Int) (hl : Byt l) (hk : Byt k) : (Lib.bytesOf l == Lib.bytesOf k) = decide (l = k) := by
  by_cases h : l = k
  · subst h; simp
  · rw [decide_eq_false h, beq_eq_false_iff_ne]
    exact fun e => h (bytes_inj l k hl hk e)
set_option maxHeartbeats 1000000 in
set_option maxRecDepth 100000 in
theorem Equal_calls (A1 A2 : Option Addr) (c1 c2 : Nat) (l k : List Int) (w : World) (h1 : Kd.C (Kd.int .u8) w A1 l.length l) (h2 : Kd.C (Kd.int .u8) w A2 k.length k) (n1 : 0 < l.length) (n2 : 0 < k.length) (b1 : Byt l) (b2 : Byt k) :
    Calls Try.prog 62 #[.slice A1 l.length c1, .slice A2 k.length c2] w fun e w' => e = .returned (.bool (decide (l = k))) ∧ w = w' := by
  have g1 := conv_C h1 n1 c1
  have g2 := conv_C h2 n2 c2
  rw [← bytes_beq l k b1 b2]
  clear h1 h2 n1 n2 b1 b2
  generalize l.length = nl at *
  generalize k.length = nk at *
  rw [← Lib.strOfNums_toList, ← Lib.strOfNums_toList]
  go_enter Try.func62, Try.ntmps62
  go_wp2
  go_ret
  exact ⟨rfl, rfl⟩
end Go.Proofs.Ytldddinebhopcaa.St
