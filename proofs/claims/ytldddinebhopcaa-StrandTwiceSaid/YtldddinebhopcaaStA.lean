/- Crc: octet's and the document's. strand.Frame. strand.Scan's frame taker: (*source).take; bytes.Equal. strand's (*source).take. strand.Scan. strand: empty; sectors, whose iterator hands each sector to a round. strand.Strand: how it lies in memory. strand.Open. strand: next, Place, Sync, All. -/
import Derived.Laws.BitsAll
import Derived.Laws.Closers25b
import Derived.Test.YtldddinebhopcaaOctP
import Derived.Test.YtldddinebhopcaaAr
import Derived.Lib.Strings
import Derived.Lib.Slices
import Derived.Lib.Walk
import Derived.Lib.Bytes
import Derived.Laws.BytesArg
import Derived.Test.YtldddinebhopcaaDkB
import Derived.Test.YtldddinebhopcaaRg
namespace Go.Proofs.Ytldddinebhopcaa.St
open Go.RowKit Go.Proofs.YtldddinebhopcaaW.PrintWords Go.Proofs.YtldddinebhopcaaW.PrintLast Go.Proofs.YtldddinebhopcaaW.PrintMore Go.Proofs.Ytldddinebhopcaa.Bs Go.Proofs.Ytldddinebhopcaa.Fr Go.Proofs.Ytldddinebhopcaa.Oct
set_option linter.unusedVariables false
set_option linter.unusedSimpArgs false

theorem at_one {w : World} {A : Option Addr} {b : List Int} (hC : Kd.C (Kd.int .u8) w A b.length b) (i : Int) (h0 : 0 ≤ i) (h1 : i < b.length) : ∃ ad, A = some ad ∧ w.cell? (ad.add i.toNat) = some (.int .u8 (rd b i)) :=
  (Kd.reads_of_C (d := (0 : Int)) hC).at_ i h0 h1
/-- One bit of the register, eight of them, a byte. -/
def bitC (x : Int) : Int := if x % 2 = 1 then Go.bits .xor .u32 (x / 2) 3988292384 else x / 2
def bitsC : Nat → Int → Int
  | 0, x => x
  | n + 1, x => bitC (bitsC n x)
def byteC (r c : Int) : Int := bitsC 8 (Go.bits .xor .u32 r c)
def crcR : List Int → Int → Int
  | [], r => r
  | c :: l, r => crcR l (byteC r c)
def crcN (l : List Int) : Int := Go.bits .xor .u32 IntKind.u32.max (crcR l 4294967295)
theorem bitC_range (x : Int) (h : 0 ≤ x ∧ x ≤ 4294967295) : 0 ≤ bitC x ∧ bitC x ≤ 4294967295 := by
  unfold bitC
  split
  · exact bits_within .xor .u32 _ _
  · omega
theorem bitsC_range (x : Int) (h : 0 ≤ x ∧ x ≤ 4294967295) : ∀ n, 0 ≤ bitsC n x ∧ bitsC n x ≤ 4294967295
  | 0 => h
  | n + 1 => bitC_range _ (bitsC_range x h n)
theorem xor_range (r c : Int) : 0 ≤ Go.bits .xor .u32 r c ∧ Go.bits .xor .u32 r c ≤ 4294967295 := bits_within .xor .u32 r c
theorem byteC_range (r c : Int) : 0 ≤ byteC r c ∧ byteC r c ≤ 4294967295 := bitsC_range _ (xor_range r c) 8
theorem crcR_range (l : List Int) : ∀ r, 0 ≤ r ∧ r ≤ 4294967295 → 0 ≤ crcR l r ∧ crcR l r ≤ 4294967295 := by
  induction l with
  | nil => intro r h; exact h
  | cons c l ih => intro r _; exact ih _ (byteC_range r c)
theorem crcN_range (l : List Int) : 0 ≤ crcN l ∧ crcN l ≤ 4294967295 := bits_within .xor .u32 _ _
theorem crcR_app (l k : List Int) : ∀ r, crcR (l ++ k) r = crcR k (crcR l r) := by
  induction l with
  | nil => intro r; rfl
  | cons c l ih => intro r; exact ih _
theorem and_one (x : Int) (h : 0 ≤ x ∧ x ≤ 4294967295) : Go.bits .and .u32 x 1 = x % 2 := by
  rw [u32_and _ _ (by omega) (by omega) (by omega) (by omega)]
  obtain ⟨m, rfl⟩ := Int.eq_ofNat_of_zero_le h.1
  rw [show (1 : Int).toNat = 1 from rfl, Int.toNat_natCast, Nat.and_one_is_mod]
  omega
theorem xor_nought (x : Int) (h : 0 ≤ x ∧ x ≤ 4294967295) : Go.bits .xor .u32 x 0 = x := by
  rw [u32_xor _ _ (by omega) (by omega) (by omega) (by omega)]
  obtain ⟨m, rfl⟩ := Int.eq_ofNat_of_zero_le h.1
  rw [show (0 : Int).toNat = 0 from rfl, Int.toNat_natCast, Nat.xor_zero]
theorem bit_eq (x : Int) (h : 0 ≤ x ∧ x ≤ 4294967295) : Go.bits .xor .u32 (x / 2) (Go.bits .and .u32 3988292384 (-Go.bits .and .u32 x 1 % 4294967296)) = bitC x := by
  rw [and_one x h]
  unfold bitC
  split
  · rename_i h1
    rw [h1, show Go.bits .and .u32 3988292384 (-1 % 4294967296) = 3988292384 by decide]
  · rename_i h1
    rw [show x % 2 = 0 by omega, show Go.bits .and .u32 3988292384 (-0 % 4294967296) = 0 by decide]
    exact xor_nought _ (by omega)
set_option maxHeartbeats 1000000 in
set_option maxRecDepth 100000 in
theorem step_calls (g : Nat) (t : TypeId) (r c : Int) (w : World) (hr : 0 ≤ r ∧ r ≤ 4294967295) (hc : 0 ≤ c ∧ c ≤ 255) (hg : w.heap[g]? = some (.cells #[.int .u32 r] t (0, 0))) :
    Calls Try.prog 59 #[.pointer (some ⟨g, 0, none⟩), .int .u8 c] w fun e w' => (∃ v, e = .returned v) ∧ w'.heap[g]? = some (.cells #[.int .u32 (byteC r c)] t (0, 0)) ∧ Fr w w' (fun k => k = g) := by
  have kg : w.cell? ⟨g, 0, none⟩ = some (.int .u32 r) := blk_cell hg 0
  have fg : w.frozen? ⟨g, 0, none⟩ = false := blk_frozen hg 0
  have HG := Aside0.mk hg
  clear hg
  go_enter Try.func59, Try.ntmps59
  go_upto_region 2 with fail
  obtain ⟨x0, hx0⟩ : ∃ x0, Go.bits .xor .u32 r c = x0 := ⟨_, rfl⟩
  rw [hx0]
  have HX0 := Aside0.mk hx0
  have X0R : Aside0 (0 ≤ x0 ∧ x0 ≤ 4294967295) := ⟨by rw [← hx0]; exact xor_range r c⟩
  clear hx0
  go_loopg [4, 11] 8 (fun q v4 v11 wr => ∃ i : Nat, v4 = .int .u32 (bitsC i x0) ∧ v11 = .int .i64 (i : Int) ∧ Aside0 (i + q = 8) ∧ wr = w)
  case atStart => exact ⟨0, rfl, rfl, ⟨by omega⟩, rfl⟩
  case round =>
    obtain ⟨i, rfl, rfl, Hi, rfl⟩ := hrel
    obtain ⟨x, hx⟩ : ∃ x, bitsC i x0 = x := ⟨_, rfl⟩
    rw [hx]
    have HX := Aside0.mk hx
    have XR : Aside0 (0 ≤ x ∧ x ≤ 4294967295) := ⟨by rw [← hx]; exact bitsC_range x0 X0R.out i⟩
    have hxr := XR.out
    clear hx
    cases gk with
    | zero =>
      have hlt : ¬ ((i : Int) < 8) := by have := Hi.out; omega
      have hlb := decide_eq_false hlt
      have HF : Aside0 (x = byteC r c) := ⟨by rw [← HX.out, show i = 8 by have := Hi.out; omega, ← HX0.out]; rfl⟩
      go_wp2
      go_end0
      exact ⟨⟨_, rfl⟩, by rw [← HF.out]; exact blk_put HG.out 0 _ rfl, (Fr.refl _ (fun k => k = g)).set (Or.inl rfl) _⟩
    | succ q =>
      have hlt : (i : Int) < 8 := by have := Hi.out; omega
      have hlb := decide_eq_true hlt
      go_wp2
      go_roundg q
      case measure => omega
      case rel => exact ⟨i + 1, by rw [bit_eq x XR.out, ← HX.out]; rfl, by go_num, ⟨by have := Hi.out; omega⟩, rfl⟩
set_option maxHeartbeats 1000000 in
set_option maxRecDepth 100000 in
theorem Crc_calls (A : Option Addr) (c : Nat) (l : List Int) (w : World) (hC : Kd.C (Kd.int .u8) w A l.length l) (hc : l.length ≤ c) (hm : l.length ≤ 1000000) (hB : Byt l) :
    Calls Try.prog 39 #[.slice A l.length c] w fun e w' => e = .returned (.int .u32 (crcN l)) ∧ Below w.heap.size w w' := by
  have HC := Aside0.mk hC
  have HB := Aside0.mk hB
  clear hC hB
  go_enter Try.func39, Try.ntmps39
  go_upto_region 4 with fail
  have X0 := Aside0.mk (blk_new w (.cells #[.int .u32 4294967295] 108))
  have B0 := Aside0.mk (below_alloc (Below.refl w.heap.size w) (.cells #[.int .u32 4294967295] 108))
  go_loopg [10] l.length (fun q v10 wr => ∃ i : Nat, v10 = .int .i64 (i : Int) ∧ Aside0 (i + q = l.length) ∧ Aside0 (wr.heap[w.heap.size]? = some (.cells #[.int .u32 (crcR (l.take i) 4294967295)] 108 (0, 0))) ∧ Aside0 (Below w.heap.size w wr))
  case atStart => exact ⟨0, rfl, ⟨by omega⟩, X0, B0⟩
  case round =>
    clear X0 B0
    obtain ⟨i, rfl, Hi, XR, BR⟩ := hrel
    obtain ⟨r, hr⟩ : ∃ r, crcR (l.take i) 4294967295 = r := ⟨_, rfl⟩
    rw [hr] at XR
    have RR : Aside0 (0 ≤ r ∧ r ≤ 4294967295) := ⟨by rw [← hr]; exact crcR_range _ _ (by omega)⟩
    have HR := Aside0.mk hr
    clear hr
    cases gk with
    | zero =>
      have hlt : ¬ ((i : Int) < (l.length : Int)) := by have := Hi.out; omega
      have hlb := decide_eq_false hlt
      have k0 : wr.cell? ⟨w.heap.size, 0, none⟩ = some (.int .u32 r) := blk_cell XR.out 0
      have HF : Aside0 (Go.bits .xor .u32 IntKind.u32.max r = crcN l) := ⟨by unfold crcN; rw [← HR.out, List.take_of_length_le (by have := Hi.out; omega)]⟩
      have hrr := RR.out
      have hsg : IntKind.u32.signed = false := rfl
      go_wp2
      go_ret
      exact ⟨by rw [← HF.out]; rfl, BR.out⟩
    | succ q =>
      have hlt : (i : Int) < (l.length : Int) := by have := Hi.out; omega
      have hlb := decide_eq_true hlt
      have hi0 : (0 : Int) ≤ i ∧ (i : Int) < (l.length : Int) := ⟨by omega, hlt⟩
      have hil : (i : Int) ≤ 1000000 := by omega
      obtain ⟨ad, e1, cb⟩ := at_one HC.out (i : Int) (by omega) hlt
      subst e1
      rw [Int.toNat_natCast] at cb
      have cb1 := pw_cell_below BR.out cb
      have HX := Aside0.mk (HB.out.rd i)
      have HT : Aside0 (crcR (l.take (i + 1)) 4294967295 = byteC r (rd l i)) := ⟨by rw [take_snoc_rd l i (by omega), crcR_app, HR.out]; rfl⟩
      clear cb
      go_wp2_with fail
      refine (step_calls w.heap.size _ r (rd l i) wr RR.out HX.out XR.out).mono ?_
      rintro e w5 ⟨⟨v5, rfl⟩, x5, f5⟩
      have X5 := Aside0.mk x5
      have B5 := Aside0.mk (below_fr BR.out BR.out.size f5 (fun k hk => by rw [hk]; exact Nat.le_refl _))
      clear x5 f5 cb1
      go_wp2
      go_roundg q
      case measure => omega
      case rel => exact ⟨i + 1, by go_num, ⟨by have := Hi.out; omega⟩, ⟨by rw [HT.out]; exact X5.out⟩, B5⟩
set_option maxHeartbeats 1000000 in
set_option maxRecDepth 100000 in
theorem RCrc_calls (A : Option Addr) (c : Nat) (l : List Int) (w : World) (hC : Kd.C (Kd.int .u8) w A l.length l) (hc : l.length ≤ c) (hm : l.length ≤ 1000000) (hB : Byt l) :
    Calls Try.prog 47 #[.slice A l.length c] w fun e w' => e = .returned (.int .u32 (crcN l)) ∧ w = w' := by
  have HC := Aside0.mk hC
  have HB := Aside0.mk hB
  clear hC hB
  go_enter Try.func47, Try.ntmps47
  go_upto_region 3 with fail
  go_loopg [3, 4] l.length (fun q v3 v4 wr => ∃ i : Nat, v3 = .int .u32 (crcR (l.take i) 4294967295) ∧ v4 = .int .i64 (i : Int) ∧ Aside0 (i + q = l.length) ∧ wr = w)
  case atStart => exact ⟨0, rfl, rfl, ⟨by omega⟩, rfl⟩
  case round =>
    obtain ⟨i, rfl, rfl, Hi, rfl⟩ := hrel
    obtain ⟨r, hr⟩ : ∃ r, crcR (l.take i) 4294967295 = r := ⟨_, rfl⟩
    rw [hr]
    have RR : Aside0 (0 ≤ r ∧ r ≤ 4294967295) := ⟨by rw [← hr]; exact crcR_range _ _ (by omega)⟩
    have HR := Aside0.mk hr
    clear hr
    cases gk with
    | zero =>
      have hlt : ¬ ((i : Int) < (l.length : Int)) := by have := Hi.out; omega
      have hlb := decide_eq_false hlt
      have HF : Aside0 (Go.bits .xor .u32 IntKind.u32.max r = crcN l) := ⟨by unfold crcN; rw [← HR.out, List.take_of_length_le (by have := Hi.out; omega)]⟩
      have hrr := RR.out
      have hsg : IntKind.u32.signed = false := rfl
      go_wp2
      go_ret
      exact ⟨by rw [← HF.out]; rfl, rfl⟩
    | succ q =>
      have hlt : (i : Int) < (l.length : Int) := by have := Hi.out; omega
      have hlb := decide_eq_true hlt
      have hi0 : (0 : Int) ≤ i ∧ (i : Int) < (l.length : Int) := ⟨by omega, hlt⟩
      have hil : (i : Int) ≤ 1000000 := by omega
      obtain ⟨ad, e1, cb⟩ := at_one HC.out (i : Int) (by omega) hlt
      subst e1
      rw [Int.toNat_natCast] at cb
      have HX := Aside0.mk (HB.out.rd i)
      have HT : Aside0 (crcR (l.take (i + 1)) 4294967295 = byteC r (rd l i)) := ⟨by rw [take_snoc_rd l i (by omega), crcR_app, HR.out]; rfl⟩
      have hx := HX.out
      go_upto_region 7 with fail
      obtain ⟨x0, hx0⟩ : ∃ x0, Go.bits .xor .u32 r (rd l i) = x0 := ⟨_, rfl⟩
      rw [hx0]
      have HX0 := Aside0.mk hx0
      have X0R : Aside0 (0 ≤ x0 ∧ x0 ≤ 4294967295) := ⟨by rw [← hx0]; exact xor_range r _⟩
      clear hx0 hx
      go_loopg [3, 5] 8 (fun p v3 v5 wq => ∃ j : Nat, v3 = .int .u32 (bitsC j x0) ∧ v5 = .int .i64 (j : Int) ∧ Aside0 (j + p = 8) ∧ wq = wr)
      case atStart => exact ⟨0, rfl, rfl, ⟨by omega⟩, rfl⟩
      case round =>
        obtain ⟨j, rfl, rfl, Hj, rfl⟩ := hrel
        obtain ⟨x, hx⟩ : ∃ x, bitsC j x0 = x := ⟨_, rfl⟩
        rw [hx]
        have HXJ := Aside0.mk hx
        have XR : Aside0 (0 ≤ x ∧ x ≤ 4294967295) := ⟨by rw [← hx]; exact bitsC_range x0 X0R.out j⟩
        have hxr := XR.out
        have hand := and_one x XR.out
        clear hx
        cases gk with
        | zero =>
          have hlj : ¬ ((j : Int) < 8) := by have := Hj.out; omega
          have hljb := decide_eq_false hlj
          have HF : Aside0 (x = byteC r (rd l i)) := ⟨by rw [← HXJ.out, show j = 8 by have := Hj.out; omega, ← HX0.out]; rfl⟩
          clear hand
          go_wp2
          go_roundg q
          case measure => omega
          case rel => exact ⟨i + 1, by rw [HT.out, ← HF.out], by go_num, ⟨by have := Hi.out; omega⟩, rfl⟩
        | succ p =>
          have hlj : (j : Int) < 8 := by have := Hj.out; omega
          have hljb := decide_eq_true hlj
          have hjl : (j : Int) ≤ 8 := by omega
          have HT2 : Aside0 (bitsC (j + 1) x0 = bitC x) := ⟨by rw [← HXJ.out]; rfl⟩
          by_cases hodd : x % 2 = 1
          · rw [hodd] at hand
            have HB2 : Aside0 (bitC x = Go.bits .xor .u32 (x / 2) 3988292384) := ⟨by unfold bitC; rw [if_pos hodd]⟩
            clear hodd
            go_wp2
            go_roundg p
            case measure => omega
            case rel => exact ⟨j + 1, by rw [HT2.out, HB2.out], by go_num, ⟨by have := Hj.out; omega⟩, rfl⟩
          · rw [show x % 2 = 0 by omega] at hand
            have HB2 : Aside0 (bitC x = x / 2) := ⟨by unfold bitC; rw [if_neg hodd]⟩
            clear hodd
            go_wp2
            go_roundg p
            case measure => omega
            case rel => exact ⟨j + 1, by rw [HT2.out, HB2.out], by go_num, ⟨by have := Hj.out; omega⟩, rfl⟩
end Go.Proofs.Ytldddinebhopcaa.St
namespace Go.Proofs.Ytldddinebhopcaa.St
open Go.RowKit Go.Proofs.YtldddinebhopcaaW.PrintWords Go.Proofs.YtldddinebhopcaaW.PrintLast Go.Proofs.YtldddinebhopcaaW.PrintMore Go.Proofs.Ytldddinebhopcaa.Bs Go.Proofs.Ytldddinebhopcaa.Fr Go.Proofs.Ytldddinebhopcaa.Oct
set_option linter.unusedVariables false
set_option linter.unusedSimpArgs false

def be4 (c : Int) : List Int := [c / 16777216, c / 65536 % 256, c / 256 % 256, c % 256]
def frameL (b : List Int) : List Int := [90, (b.length : Int)] ++ b ++ (be4 (crcN b) ++ [165])
theorem frameL_len (b : List Int) : (frameL b).length = b.length + 7 := by
  unfold frameL be4
  simp
set_option maxHeartbeats 1000000 in
set_option maxRecDepth 100000 in
theorem Frame_nil (A : Option Addr) (c : Nat) (w : World) :
    Calls Try.prog 11 #[.slice A 0 c] w fun e w' => e = .returned (.tuple #[.slice none 0 0, .int .i64 1]) ∧ w = w' := by
  go_enter Try.func11, Try.ntmps11
  go_wp2
  go_ret2
  exact ⟨rfl, rfl⟩
set_option maxHeartbeats 1000000 in
set_option maxRecDepth 100000 in
theorem Frame_long (A : Option Addr) (n c : Nat) (w : World) (hn : 56 < n) :
    Calls Try.prog 11 #[.slice A n c] w fun e w' => e = .returned (.tuple #[.slice none 0 0, .int .i64 3]) ∧ w = w' := by
  have h0 : ((n : Int) == 0) = false := by simp; omega
  have h1 : (n : Int) > 56 := by omega
  have h1b := decide_eq_true h1
  clear hn
  go_enter Try.func11, Try.ntmps11
  go_wp2
  go_ret2
  exact ⟨rfl, rfl⟩
set_option maxHeartbeats 1000000 in
set_option maxRecDepth 100000 in
theorem Frame_calls (A : Option Addr) (c : Nat) (b : List Int) (w : World) (hC : Kd.C (Kd.int .u8) w A b.length b) (hc : b.length ≤ c) (hn : 1 ≤ b.length ∧ b.length ≤ 56) (hB : Byt b) :
    Calls Try.prog 11 #[.slice A b.length c] w fun e w' => ∃ v, e = .returned (.tuple #[v, .int .i64 0]) ∧ Kd.R (Kd.int .u8) 5 w' w.heap.size (fun _ => True) v (frameL b) ∧ Below w.heap.size w w' := by
  have HC := Aside0.mk hC
  have HB := Aside0.mk hB
  have HN := Aside0.mk hn
  have HCC := Aside0.mk hc
  have h0 : ((b.length : Int) == 0) = false := beq_eq_false_iff_ne.mpr (by omega)
  have h1 : ¬ (b.length : Int) > 56 := by omega
  have h1b := decide_eq_false h1
  have hl : 0 ≤ (b.length : Int) ∧ (b.length : Int) ≤ 56 := by omega
  clear hC hB hn hc
  go_enter Try.func11, Try.ntmps11
  go_wp2_with fail
  refine (Crc_calls A c b w HC.out HCC.out (by have h := HN.out.2; exact Nat.le_trans h (by decide)) HB.out).mono ?_
  rintro e w1 ⟨rfl, hb1⟩
  have B1 := Aside0.mk hb1
  have C1 := Aside0.mk (Kd.C_below HC.out hb1)
  have hr := crcN_range b
  have HFR : Aside0 (frameL b = [90, (b.length : Int)] ++ b ++ (be4 (crcN b) ++ [165])) := ⟨rfl⟩
  generalize crcN b = x at *
  clear hb1
  go_upto_region 7 with ((with_reducible refine gate_builtin (b := .append) (xs := #[.tmp 19, .tmp 20]) rfl ?_); at_builtin; refine Kd.R_append_row (Value.int .u8) (0 : Int) (w0 := w) w.heap.size rfl (.tmp 19) (.tmp 20) 23 5 (.int .u8 0) 1 rfl Try.underlying23 info_u8 rfl (Nat.succ_pos _) (.slice (some ⟨w1.heap.size, 0, none⟩) 2 2) [90, (b.length : Int)] b A b.length c (fun _ => True) rfl rfl (fun _ _ => trivial) (Kd.R_mono (lit_R (enc := Value.int .u8) (h1 := fun _ => rfl) (e := 5) w1 w.heap.size B1.out.size [90, (b.length : Int)] (by simp)) (fun _ _ => trivial)) (Kd.C_below C1.out (below_alloc (Below.refl _ _) _)) (Below.alloc B1.out B1.out.size _) (Below.alloc B1.out B1.out.size _).size (by have := HN.out; show (2 + b.length) * 1 ≤ _; omega) ?_; intro v2 w2 hr_ hb_ _ _; have R2 := Aside0.mk hr_; have B2 := Aside0.mk hb_; clear hr_ hb_)
  have HFR2 : Aside0 ([90, (b.length : Int)] ++ b ++ [x / 16777216, x / 65536 % 256, x / 256 % 256, x % 256, 165] = frameL b) := ⟨by rw [HFR.out]; rfl⟩
  go_wp2_with ((with_reducible refine gate_builtin (b := .append) (xs := #[.tmp 22, .tmp 34]) rfl ?_); at_builtin; refine Kd.R_append_row (Value.int .u8) (0 : Int) (w0 := w) w.heap.size rfl (.tmp 22) (.tmp 34) 23 5 (.int .u8 0) 1 rfl Try.underlying23 info_u8 rfl (Nat.succ_pos _) v2 ([90, (b.length : Int)] ++ b) [x / 16777216, x / 65536 % 256, x / 256 % 256, x % 256, 165] (some ⟨w2.heap.size, 0, none⟩) 5 5 (fun _ => True) rfl rfl (fun _ _ => trivial) (Kd.R_alloc R2.out _) (lit_C (enc := Value.int .u8) (h1 := fun _ => rfl) (e := 5) w2 [x / 16777216, x / 65536 % 256, x / 256 % 256, x % 256, 165] (by simp)) (Below.alloc B2.out B2.out.size _) (Below.alloc B2.out B2.out.size _).size (by have := HN.out; rw [List.length_append]; show (2 + b.length + 5) * 1 ≤ _; omega) ?_; intro v3 w3 hr_ hb_ _ _; have R3 := Aside0.mk hr_; have B3 := Aside0.mk hb_; clear hr_ hb_)
  rw [HFR2.out] at R3
  go_ret2
  exact ⟨v3, rfl, R3.out, B3.out⟩
end Go.Proofs.Ytldddinebhopcaa.St
namespace Go.Proofs.Ytldddinebhopcaa.St
open Go.RowKit Go.Proofs.YtldddinebhopcaaW.PrintWords Go.Proofs.YtldddinebhopcaaW.PrintLast Go.Proofs.YtldddinebhopcaaW.PrintMore Go.Proofs.Ytldddinebhopcaa.Bs Go.Proofs.Ytldddinebhopcaa.Fr Go.Proofs.Ytldddinebhopcaa.Oct
set_option linter.unusedVariables false
set_option linter.unusedSimpArgs false

theorem at_zero {w : World} {ad : Addr} {b : List Int} (hC : Kd.C (Kd.int .u8) w (some ad) b.length b) (h1 : 0 < b.length) : w.cell? ad = some (.int .u8 (rd b 0)) := by
  obtain ⟨_, e, h⟩ := at_one hC 0 (by omega) (by omega)
  cases e
  have e : ad.add 0 = ad := by cases ad; rename_i a b c; cases c <;> simp [Addr.add]
  rw [show (0 : Int).toNat = 0 from rfl, e] at h
  exact h
/-- A string of bytes that lie somewhere. -/
theorem conv_C {w : World} {A : Option Addr} {l : List Int} (hC : Kd.C (Kd.int .u8) w A l.length l) (h0 : 0 < l.length) (c : Nat) :
    (convert 23 9 (.slice A l.length c)).run Try.prog w = .ok (.string (strOfNums l)) w := by
  obtain ⟨ad, e, _⟩ := at_one hC 0 (by omega) (by omega)
  subst e
  have hl : (loadCells ad l.length).run Try.prog w = .ok (l.map (Value.int .u8)).toArray w := by
    have := run_loadCells_list (P := Try.prog) w ad (l.map (Value.int .u8)) (fun j v hj => by
      have hjl : j < l.length := by
        rcases Nat.lt_or_ge j l.length with h | h
        · exact h
        · simp [List.getElem?_eq_none (show (l.map (Value.int .u8)).length ≤ j by simpa using h)] at hj
      obtain ⟨_, e2, hcell⟩ := at_one hC (j : Int) (by omega) (by omega)
      cases e2
      rw [Int.toNat_natCast] at hcell
      rw [hcell]
      simp [List.getElem?_eq_getElem hjl] at hj
      subst hj
      simp [rd, List.getD, List.getElem?_eq_getElem hjl])
    simpa using this
  rw [run_convert_bytes_string w _ _ 5 _ _ c Try.underlying23 Try.underlying5 Try.underlying9, run_bytesToString w _ _ c l hl, foldl_push_bytes]
  simp [strOfNums, ByteArray.empty, ByteArray.emptyWithCapacity]
  rfl
theorem bytes_inj (l : List Int) : ∀ k : List Int, Byt l → Byt k → Lib.bytesOf l = Lib.bytesOf k → l = k := by
  induction l with
  | nil =>
    intro k _ _ h
    cases k with
    | nil => rfl
    | cons x k => simp [Lib.bytesOf] at h
  | cons y l ih =>
    intro k hl hk h
    cases k with
    | nil => simp [Lib.bytesOf] at h
    | cons x k =>
      simp only [Lib.bytesOf, List.map_cons, List.cons.injEq] at h
      have h1 := hl y (by simp)
      have h2 := hk x (by simp)
      have h3 := congrArg UInt8.toNat h.1
      rw [UInt8.toNat_ofNat', UInt8.toNat_ofNat', Nat.mod_eq_of_lt (by omega), Nat.mod_eq_of_lt (by omega)] at h3
      have h4 : y = x := by omega
      rw [h4, ih k (fun z hz => hl z (by simp [hz])) (fun z hz => hk z (by simp [hz])) h.2]
theorem bytes_beq (l k : List Int) (hl : Byt l) (hk : Byt k) : (Lib.bytesOf l == Lib.bytesOf k) = decide (l = k) := by
  by_cases h : l = k
  · subst h; simp
  · rw [decide_eq_false h, beq_eq_false_iff_ne]
    exact fun e => h (bytes_inj l k hl hk e)
set_option maxHeartbeats 1000000 in
set_option maxRecDepth 100000 in
theorem Equal_calls (A1 A2 : Option Addr) (c1 c2 : Nat) (l k : List Int) (w : World) (h1 : Kd.C (Kd.int .u8) w A1 l.length l) (h2 : Kd.C (Kd.int .u8) w A2 k.length k) (n1 : 0 < l.length) (n2 : 0 < k.length) (b1 : Byt l) (b2 : Byt k) :
    Calls Try.prog 62 #[.slice A1 l.length c1, .slice A2 k.length c2] w fun e w' => e = .returned (.bool (decide (l = k))) ∧ w = w' := by
  have g1 := conv_C h1 n1 c1
  have g2 := conv_C h2 n2 c2
  rw [← bytes_beq l k b1 b2]
  clear h1 h2 n1 n2 b1 b2
  generalize l.length = nl at *
  generalize k.length = nk at *
  rw [← Lib.strOfNums_toList, ← Lib.strOfNums_toList]
  go_enter Try.func62, Try.ntmps62
  go_wp2
  go_ret
  exact ⟨rfl, rfl⟩
end Go.Proofs.Ytldddinebhopcaa.St
namespace Go.Proofs.Ytldddinebhopcaa.St
open Go.RowKit Go.Proofs.YtldddinebhopcaaW.PrintWords Go.Proofs.YtldddinebhopcaaW.PrintLast Go.Proofs.YtldddinebhopcaaW.PrintMore Go.Proofs.Ytldddinebhopcaa.Bs Go.Proofs.Ytldddinebhopcaa.Fr Go.Proofs.Ytldddinebhopcaa.Oct
set_option linter.unusedVariables false
set_option linter.unusedSimpArgs false

theorem info5i : ∃ i, Try.prog.info? 5 = some i ∧ i.size = 1 := by
  obtain ⟨i0, hi, hzz⟩ := Option.map_eq_some_iff.1 info_u8
  simp only [Prod.mk.injEq] at hzz
  exact ⟨i0, hi, hzz.2.1⟩
theorem frameL_byt (b : List Int) (hb : Byt b) (hl : b.length ≤ 56) : Byt (frameL b) := by
  have hr := crcN_range b
  intro x hx
  unfold frameL be4 at hx
  simp only [List.mem_append, List.mem_cons, List.not_mem_nil, or_false] at hx
  rcases hx with ((rfl | rfl) | h) | ((rfl | rfl | rfl | rfl) | rfl)
  · omega
  · omega
  · exact hb x h
  all_goals omega
/-- The body that a frame's length says; does a frame stand first? -/
def bodyL (l : List Int) : List Int := (l.take (2 + (rd l 1).toNat)).drop 2
def isF (l : List Int) : Prop := 7 ≤ l.length ∧ rd l 0 = 90 ∧ 1 ≤ rd l 1 ∧ rd l 1 ≤ 56 ∧ rd l 1 + 7 ≤ (l.length : Int) ∧ frameL (bodyL l) = l.take ((rd l 1).toNat + 7)
set_option maxHeartbeats 2000000 in
set_option maxRecDepth 100000 in
theorem take_calls (g : Nat) (A : Option Addr) (c : Nat) (l : List Int) (w0 w : World) (hb0 : Below w0.heap.size w0 w) (hg : w.heap[g]? = some (.cells #[.slice A l.length c] 87 (0, 0))) (hC0 : Kd.C (Kd.int .u8) w0 A l.length l) (hc : l.length ≤ c) (hm : l.length ≤ 1000000) (hB : Byt l) :
    Calls Try.prog 48 #[.pointer (some ⟨g, 0, none⟩)] w fun e w' =>
      (¬ isF l ∧ e = .returned (.tuple #[.slice none 0 0, .bool false]) ∧ Below w.heap.size w w') ∨
      (isF l ∧ ∃ v A' c', e = .returned (.tuple #[v, .bool true]) ∧ Kd.R (Kd.int .u8) 5 w' w.heap.size (fun _ => True) v (bodyL l) ∧ w'.heap[g]? = some (.cells #[.slice A' (l.drop ((rd l 1).toNat + 7)).length c'] 87 (0, 0)) ∧ Kd.C (Kd.int .u8) w0 A' (l.drop ((rd l 1).toNat + 7)).length (l.drop ((rd l 1).toNat + 7)) ∧ (l.drop ((rd l 1).toNat + 7)).length ≤ c' ∧ Fr w w' (fun k => k = g)) := by
  have kg : w.cell? ⟨g, 0, none⟩ = some (.slice A l.length c) := blk_cell hg 0
  have fg : w.frozen? ⟨g, 0, none⟩ = false := blk_frozen hg 0
  have HG := Aside0.mk hg
  have HC0 := Aside0.mk hC0
  have HC := Aside0.mk (Kd.C_below hC0 hb0)
  have tyS : Aside0 (∀ q, q ∈ 5 :: (Kd.int .u8).E → q ≠ 87) := ⟨fun q hq => by rw [List.mem_singleton.1 hq]; decide⟩
  have HCC := Aside0.mk hc
  have HB := Aside0.mk hB
  have HM := Aside0.mk hm
  clear hg hC0 hb0 hc hB
  go_enter Try.func48, Try.ntmps48
  by_cases h7 : (l.length : Int) < 7
  · have h7b := decide_eq_true h7
    go_wp2
    go_ret2
    exact .inl ⟨fun h => by have := h.1; omega, rfl, Below.refl _ _⟩
  · have h7b := decide_eq_false h7
    obtain ⟨ad, e1, _⟩ := at_one HC.out 0 (by omega) (by omega)
    subst e1
    have c0 := at_zero HC.out (by omega)
    obtain ⟨_, e2, c1⟩ := at_one HC.out 1 (by omega) (by omega)
    cases e2
    have c1' : w.cell? ⟨ad.block, ad.off + 1, none⟩ = some (.int .u8 (rd l 1)) := c1
    have hr1 := HB.out.rd 1
    rw [show ((1 : Nat) : Int) = 1 from rfl] at hr1
    have i0 : (0 : Int) ≤ 0 ∧ (0 : Int) < (l.length : Int) := by omega
    have i1 : (0 : Int) ≤ 1 ∧ (1 : Int) < (l.length : Int) := by omega
    clear c1
    by_cases h90 : rd l 0 = 90
    · have h90b : (rd l 0 != 90) = false := by simpa using h90
      have H90 := Aside0.mk h90
      clear h90
      obtain ⟨n, hn⟩ : ∃ n : Nat, rd l 1 = (n : Int) := ⟨(rd l 1).toNat, by omega⟩
      have HN := Aside0.mk hn
      rw [hn] at c1' hr1
      clear hn
      go_upto_region 4 with fail
      clear h90b c0 c1' i0 i1
      by_cases hs : (n : Int) < 1 ∨ (n : Int) > 56 ∨ (l.length : Int) < (n : Int) + 7
      · have hno : Aside0 (¬ isF l) := ⟨fun h => by
          obtain ⟨_, _, h3, h4, h5, _⟩ := h
          rw [HN.out] at h3 h4 h5
          omega⟩
        by_cases s1 : (n : Int) < 1
        · have s1b := decide_eq_true s1
          go_wp2
          go_ret2
          exact .inl ⟨hno.out, rfl, Below.refl _ _⟩
        · have s1b := decide_eq_false s1
          by_cases s2 : (n : Int) > 56
          · have s2b := decide_eq_true s2
            go_wp2
            go_ret2
            exact .inl ⟨hno.out, rfl, Below.refl _ _⟩
          · have s2b := decide_eq_false s2
            have s3 : (l.length : Int) < (n : Int) + 7 := by omega
            have s3b := decide_eq_true s3
            go_wp2
            go_ret2
            exact .inl ⟨hno.out, rfl, Below.refl _ _⟩
      · have s1 : ¬ (n : Int) < 1 := by omega
        have s2 : ¬ (n : Int) > 56 := by omega
        have s3 : ¬ (l.length : Int) < (n : Int) + 7 := by omega
        have HS : Aside0 (1 ≤ n ∧ n ≤ 56 ∧ n + 7 ≤ l.length) := ⟨by omega⟩
        have s1b := decide_eq_false s1
        have s2b := decide_eq_false s2
        have s3b := decide_eq_false s3
        clear hs
        go_upto_region 6 with fail
        clear s1b s2b s3b s1 s2 s3 h7b
        obtain ⟨A1, hcut, hcA, hcL⟩ := print_mid_of (P := Try.prog) (Value.int .u8) 0 23 5 .i64 .i64 Try.underlying23 info5i.choose_spec.1 info5i.choose_spec.2 (some ad) c l 2 (2 + (n : Int)) (by omega) (by omega) (by have := HS.out; omega) HCC.out
        obtain ⟨hct, hcT, hcTL⟩ := print_take_of (P := Try.prog) (Value.int .u8) 0 23 5 .i64 Try.underlying23 info5i.choose_spec.1 info5i.choose_spec.2 (some ad) c l ((n : Int) + 7) (by omega) (by have := HS.out; omega) HCC.out
        obtain ⟨A3, hcd, hcD, hcDL⟩ := print_drop_of (P := Try.prog) (Value.int .u8) 0 23 5 .i64 Try.underlying23 info5i.choose_spec.1 info5i.choose_spec.2 (some ad) c l ((n : Int) + 7) (by omega) (by have := HS.out; omega) HCC.out
        have t1 : (2 : Int).toNat = 2 := rfl
        have t2 : (2 + (n : Int)).toNat = 2 + n := by omega
        have t3 : ((n : Int) + 7).toNat = n + 7 := by omega
        rw [t1, t2] at hcut hcA hcL
        rw [t3] at hct hcT hcTL hcd hcD hcDL
        clear t1 t2 t3
        have HBL : Aside0 (bodyL l = (l.take (2 + n)).drop 2) := ⟨by unfold bodyL; rw [HN.out]; rfl⟩
        have HBN : Aside0 (((l.take (2 + n)).drop 2).length = n) := ⟨by have := HS.out; rw [List.length_drop, List.length_take]; omega⟩
        have HTN : Aside0 ((l.take (n + 7)).length = n + 7) := ⟨by have := HS.out; rw [List.length_take]; omega⟩
        have BB : Aside0 (Byt ((l.take (2 + n)).drop 2)) := ⟨(HB.out.take _).drop _⟩
        have BT : Aside0 (Byt (l.take (n + 7))) := ⟨HB.out.take _⟩
        have C1 := Aside0.mk (Kd.C_of_reads (d := (0 : Int)) (h1 := fun _ => rfl) (hcA w (Kd.reads_of_C HC.out)))
        have CT := Aside0.mk (Kd.C_of_reads (d := (0 : Int)) (h1 := fun _ => rfl) (hcT w (Kd.reads_of_C HC.out)))
        have CD := Aside0.mk (Kd.C_of_reads (d := (0 : Int)) (h1 := fun _ => rfl) (hcD w0 (Kd.reads_of_C HC0.out)))
        have HDL := Aside0.mk hcDL
        have HIS : Aside0 (isF l ↔ frameL ((l.take (2 + n)).drop 2) = l.take (n + 7)) := ⟨by
          have h1 := HS.out
          unfold isF
          rw [HBL.out, HN.out, H90.out, Int.toNat_natCast]
          exact ⟨fun h => h.2.2.2.2.2, fun h => ⟨by omega, rfl, by omega, by omega, by omega, h⟩⟩⟩
        clear hcA hcT hcD hcL hcTL hcDL
        have HEE : Aside0 (l.drop ((rd l 1).toNat + 7) = l.drop (n + 7)) := ⟨by rw [HN.out, Int.toNat_natCast]⟩
        generalize l.drop (n + 7) = E at *
        generalize (l.take (2 + n)).drop 2 = D at *
        generalize l.take (n + 7) = T at *
        go_upto_region 7 with ((with_reducible refine gate_builtin (b := .append) (xs := #[.const (.slice none 0 0), .tmp 52]) rfl ?_); at_builtin; refine Kd.R_append_row (Value.int .u8) (0 : Int) (w0 := w) w.heap.size rfl (.const (.slice none 0 0)) (.tmp 52) 23 5 (.int .u8 0) 1 rfl Try.underlying23 info_u8 rfl (Nat.succ_pos _) (.slice none 0 0) [] D A1 D.length (c - 2) (fun _ => True) rfl rfl (fun _ _ => trivial) (Kd.R_nil _ _ _ _ _) C1.out (Below.refl _ _) (Nat.le_refl _) (by have h1 := HBN.out; have h2 := HS.out; rw [List.length_nil]; omega) ?_; intro v5 w5 hr_ hb_ _ _; rw [List.nil_append] at hr_; have R5 := Aside0.mk hr_; have B5 := Aside0.mk hb_; clear hr_ hb_)
        obtain ⟨A5, c5, rfl⟩ := Kd.R_slice R5.out
        have kg5 := pw_cell_below B5.out kg
        clear C1 hcut
        go_wp2_with fail
        refine (Frame_calls A5 c5 D w5 (Kd.R_reads' R5.out).2.2 (Kd.R_reads' R5.out).2.1 (by have h1 := HBN.out; have h2 := HS.out; omega) BB.out).mono ?_
        rintro e w6 ⟨v6, rfl, hr6, hb6⟩
        obtain ⟨A6, c6, ev⟩ := Kd.R_slice hr6
        subst ev
        have R6 := Aside0.mk (Kd.R_reads' hr6)
        have B6 := Aside0.mk (below_step B5.out hb6)
        have RB := Aside0.mk (Kd.R_below R5.out hb6)
        have kg6 := pw_cell_below B6.out kg
        have X6 := Aside0.mk (blk_below HG.out B6.out)
        have CT6 := Aside0.mk (Kd.C_below CT.out B6.out)
        clear hr6 hb6 kg5 kg R5 B5 CT
        go_wp2_with fail
        refine (Equal_calls A6 (some ad) c6 c (frameL D) T w6 R6.out.2.2 CT6.out (by rw [frameL_len]; omega) (by have := HTN.out; omega) (frameL_byt D BB.out (by have h1 := HBN.out; have h2 := HS.out; omega)) BT.out).mono ?_
        rintro e w7 ⟨rfl, rfl⟩
        by_cases hq : frameL D = T
        · have hqb := decide_eq_true hq
          have HQ := Aside0.mk (HIS.out.2 hq)
          rw [hqb]
          clear hq hqb HIS
          have fg6 : w6.frozen? ⟨g, 0, none⟩ = false := blk_frozen X6.out 0
          go_wp2
          go_ret2
          rw [HEE.out]
          refine .inr ⟨HQ.out, _, A3, c - (n + 7), rfl, ?_, ?_, ?_, HDL.out, ?_⟩
          · rw [HBL.out]; exact Kd.R_set RB.out X6.out tyS.out 0 _
          · exact blk_put X6.out 0 _ rfl
          · exact CD.out
          · exact (Fr.of_below B6.out (fun k => k = g)).set (Or.inl rfl) _
        · have hqb := decide_eq_false hq
          rw [hqb]
          go_wp2
          go_ret2
          exact .inl ⟨fun h => hq (HIS.out.1 h), rfl, B6.out⟩
    · have h90b : (rd l 0 != 90) = true := by simpa using h90
      go_wp2
      go_ret2
      exact .inl ⟨fun h => h90 h.2.1, rfl, Below.refl _ _⟩
end Go.Proofs.Ytldddinebhopcaa.St
namespace Go.Proofs.Ytldddinebhopcaa.St
open Go.RowKit Go.Proofs.YtldddinebhopcaaW.PrintWords Go.Proofs.YtldddinebhopcaaW.PrintLast Go.Proofs.YtldddinebhopcaaW.PrintMore Go.Proofs.Ytldddinebhopcaa.Bs Go.Proofs.Ytldddinebhopcaa.Fr Go.Proofs.Ytldddinebhopcaa.Oct
set_option linter.unusedVariables false
set_option linter.unusedSimpArgs false

def kL : Kd (List Int) := Kd.slice 5 (Kd.int .u8)
instance (l : List Int) : Decidable (isF l) := by unfold isF; infer_instance
def restL (l : List Int) : List Int := l.drop ((rd l 1).toNat + 7)
def scanM : Nat → List Int → List (List Int)
  | 0, _ => []
  | k + 1, l => if isF l then bodyL l :: scanM k (restL l) else []
def scanL (l : List Int) : List (List Int) := scanM (l.length + 1) l
theorem restL_len (l : List Int) (h : isF l) : (restL l).length + 7 ≤ l.length := by
  obtain ⟨h1, _, h3, _, h5, _⟩ := h
  unfold restL
  rw [List.length_drop]
  omega
theorem scanM_len : ∀ (k : Nat) (l : List Int), (scanM k l).length ≤ l.length
  | 0, l => Nat.zero_le _
  | k + 1, l => by
    unfold scanM
    split
    · rename_i h
      have h1 := restL_len l h
      have h2 := scanM_len k (restL l)
      rw [List.length_cons]
      omega
    · exact Nat.zero_le _
theorem scanM_fuel : ∀ (k j : Nat) (l : List Int), l.length < k → l.length < j → scanM k l = scanM j l
  | 0, _, l, h, _ => by omega
  | _, 0, l, _, h => by omega
  | k + 1, j + 1, l, h1, h2 => by
    unfold scanM
    split
    · rename_i h
      have h3 := restL_len l h
      rw [scanM_fuel k j (restL l) (by omega) (by omega)]
    · rfl
theorem scanL_yes (l : List Int) (h : isF l) : scanL l = bodyL l :: scanL (restL l) := by
  have h3 := restL_len l h
  show (if isF l then bodyL l :: scanM l.length (restL l) else []) = _
  rw [if_pos h, scanM_fuel l.length ((restL l).length + 1) (restL l) (by omega) (by omega)]
  rfl
theorem scanL_no (l : List Int) (h : ¬ isF l) : scanL l = [] := by
  show (if isF l then bodyL l :: scanM l.length (restL l) else []) = _
  rw [if_neg h]
theorem restL_byt (l : List Int) (h : Byt l) : Byt (restL l) := h.drop _
/-- A row that is made stays, where one block of another type is turned. -/
theorem R_frT {α : Type} {d : Kd α} {e base g t : Nat} {w w' : World} {ok : Nat → Prop} {v : Value} {xs : List α} {cells : Array Value} (h : d.R e w base ok v xs) (hb : w.heap[g]? = some (.cells cells t (0, 0))) (ht : ∀ q, q ∈ e :: d.E → q ≠ t) (k : Fr w w' (fun k => k = g)) : d.R e w' base ok v xs :=
  Kd.R_mono (Kd.R_move (Kd.R_bound (Kd.R_types h hb ht)) (fun j hj => k.2.2 j hj.2.2.1 hj.1.2)) (fun _ hk => hk.1.1)
/-- How Scan stands between two frames. -/
def ST (w wr : World) (g : Nat) (L : List (List Int)) (q : Nat) (v5 v6 : Value) (b : Bool) : Prop :=
  ∃ acc, Kd.R kL 23 wr w.heap.size (fun _ => True) v5 acc ∧ Below w.heap.size w wr ∧ ((q = 0 ∧ b = false ∧ acc = L) ∨
    (∃ D rest A c hb, q = rest.length + 1 ∧ b = true ∧ Kd.R (Kd.int .u8) 5 wr w.heap.size (fun k => hb ≤ k) v6 D ∧ (∀ k, v5.ownBlock = some k → k < hb) ∧ hb ≤ wr.heap.size ∧
      wr.heap[g]? = some (.cells #[.slice A rest.length c] 87 (0, 0)) ∧ Kd.C (Kd.int .u8) w A rest.length rest ∧ rest.length ≤ c ∧ rest.length ≤ 1000000 ∧ Byt rest ∧ acc ++ D :: scanL rest = L))
theorem tyL (q : Nat) (hq : q ∈ 23 :: kL.E) : q ≠ 87 := by
  rcases List.mem_cons.1 hq with rfl | h
  · decide
  · rw [List.mem_singleton.1 (show q ∈ [5] from h)]; decide
theorem R_own_lt {α : Type} {d : Kd α} {e base : Nat} {ok : Nat → Prop} {w : World} {v : Value} {xs : List α} (h : d.R e w base ok v xs) : ∀ k, v.ownBlock = some k → k < w.heap.size := fun k hk => ((Kd.R_bound h).1 k hk).2.2.1
theorem take_ST (g : Nat) (A : Option Addr) (c : Nat) (rest : List Int) (w wr : World) (L acc : List (List Int)) (v5 : Value) (hgw : w.heap.size ≤ g) (hR : Kd.R kL 23 wr w.heap.size (fun _ => True) v5 acc) (hb : Below w.heap.size w wr) (hg : wr.heap[g]? = some (.cells #[.slice A rest.length c] 87 (0, 0)))
    (hC : Kd.C (Kd.int .u8) w A rest.length rest) (hc : rest.length ≤ c) (hm : rest.length ≤ 1000000) (hB : Byt rest) (hL : acc ++ scanL rest = L) :
    Calls Try.prog 48 #[.pointer (some ⟨g, 0, none⟩)] wr fun e w' => ∃ v6 b q, e = .returned (.tuple #[v6, .bool b]) ∧ ST w w' g L q v5 v6 b ∧ q ≤ rest.length := by
  refine (take_calls g A c rest w wr hb hg hC hc hm hB).mono ?_
  rintro e w1 (⟨hno, rfl, hb1⟩ | ⟨hyes, v1, A1, c1, rfl, hr1, hx1, hc1, hl1, hf1⟩)
  · exact ⟨_, _, 0, rfl, ⟨acc, Kd.R_below hR hb1, below_step hb hb1, .inl ⟨rfl, rfl, by rw [← hL, scanL_no rest hno, List.append_nil]⟩⟩, Nat.zero_le _⟩
  · have h7 := restL_len rest hyes
    refine ⟨_, _, (restL rest).length + 1, rfl, ⟨acc, R_frT hR hg tyL hf1, below_fr hb hb.size hf1 (fun k hk => by rw [hk]; exact hgw), .inr ⟨bodyL rest, restL rest, A1, c1, wr.heap.size, rfl, rfl, Kd.R_lower (Kd.R_mono (Kd.R_bound hr1) (fun k hk => hk.2.1)) hb.size, R_own_lt hR, hf1.size, hx1, hc1, hl1, by omega, restL_byt rest hB, ?_⟩⟩, by omega⟩
    rw [← hL, scanL_yes rest hyes]
theorem kL_mk {w : World} {base : Nat} {ok : Nat → Prop} {v : Value} {D : List Int} (h : Kd.R (Kd.int .u8) 5 w base ok v D) : kL.M w base ok D [v] := Exists.intro v ⟨rfl, h⟩
theorem infoL : (Try.prog.info? 23).map (fun i => (i.zero, i.size, i.bytes)) = some (some (.slice none 0 0), 1, 24) := by kernel_rfl
set_option maxHeartbeats 2000000 in
set_option maxRecDepth 100000 in
theorem Scan_calls (A : Option Addr) (c : Nat) (l : List Int) (w : World) (hC : Kd.C (Kd.int .u8) w A l.length l) (hc : l.length ≤ c) (hm : l.length ≤ 1000000) (hB : Byt l) :
    Calls Try.prog 18 #[.slice A l.length c] w fun e w' => ∃ v, e = .returned v ∧ Kd.R kL 23 w' w.heap.size (fun _ => True) v (scanL l) ∧ Below w.heap.size w w' := by
  have HC := Aside0.mk hC
  have HB := Aside0.mk hB
  have HM := Aside0.mk hm
  have HCC := Aside0.mk hc
  clear hC hB hm hc
  go_enter Try.func18, Try.ntmps18
  go_upto_region 4 with fail
  have X0 := Aside0.mk (blk_new w (.cells #[.slice A l.length c] 87))
  have B0 := Aside0.mk (below_alloc (Below.refl w.heap.size w) (.cells #[.slice A l.length c] 87))
  go_wp2_with fail
  refine (take_ST w.heap.size A c l w _ (scanL l) [] (.slice none 0 0) (Nat.le_refl _) (Kd.R_nil _ _ _ _ _) B0.out X0.out HC.out HCC.out HM.out HB.out rfl).mono ?_
  rintro e w1 ⟨v6, b7, q0, rfl, hst, _⟩
  have ST0 := Aside0.mk hst
  clear hst X0 B0
  have HSL : Aside0 ((scanL l).length ≤ 1000000) := ⟨Nat.le_trans (scanM_len _ l) HM.out⟩
  obtain ⟨L, hL⟩ : ∃ L, scanL l = L := ⟨_, rfl⟩
  have HLE := Aside0.mk hL
  rw [hL] at ST0 HSL
  clear hL
  go_upto_region 5 with fail
  go_loopg [5, 6, 7] q0 (fun q v5 v6 v7 wr => ∃ b : Bool, v7 = .bool b ∧ Aside0 (ST w wr w.heap.size L q v5 v6 b))
  case atStart => exact ⟨b7, rfl, ST0⟩
  case round =>
    clear ST0
    obtain ⟨b, rfl, hst⟩ := hrel
    obtain ⟨acc, hR, hB1, (⟨hq, rfl, hacc⟩ | ⟨D, rest, A2, c2, hb, hq, rfl, hD, hlt, hhb, hx, hc2, hl2, hm2, hB2, hL2⟩)⟩ := hst.out
    · subst hacc
      have R1 := Aside0.mk hR
      have B1 := Aside0.mk hB1
      clear hst hR hB1 hq
      go_wp2
      go_ret
      exact ⟨u5, rfl, by rw [HLE.out]; exact R1.out, B1.out⟩
    · subst hq
      have R1 := Aside0.mk hR
      have B1 := Aside0.mk hB1
      have HD := Aside0.mk hD
      have HLT := Aside0.mk hlt
      have HX := Aside0.mk hx
      have HG := Aside0.mk (fun k hk => ((Kd.R_types hR hx tyL).1 k hk).2)
      have HC2 := Aside0.mk hc2
      have HN2 := Aside0.mk (And.intro hl2 hm2)
      have HB2 := Aside0.mk hB2
      have HL2 := Aside0.mk hL2
      have HAL : Aside0 ((acc.length + 1) * 24 ≤ 140737488355328) := ⟨by have h := HSL.out; rw [← hL2, List.length_append, List.length_cons] at h; omega⟩
      clear hst hR hB1 hD hlt hx hc2 hl2 hm2 hB2 hL2 hhb
      obtain ⟨A6, c6, rfl⟩ := Kd.R_slice HD.out
      obtain ⟨A5, c5, rfl⟩ := Kd.R_slice R1.out
      go_upto_region 6 with ((with_reducible refine gate_builtin (b := .append) (xs := #[.tmp 24, .tmp 26]) rfl ?_); at_builtin; refine Kd.R_append kL (w0 := w) w.heap.size rfl (.tmp 24) (.tmp 26) 40 23 (.slice none 0 0) 24 rfl Try.underlying40 infoL rfl (by decide) (by decide) (.slice A5 acc.length c5) acc D [.slice A6 D.length c6] (fun _ => True) (fun k => hb ≤ k) rfl rfl (kL_mk HD.out) (fun k hk => ⟨trivial, fun he => by have := HLT.out k he.symm; omega⟩) (fun _ _ => trivial) R1.out B1.out B1.out.size HAL.out ?_; intro v8 w8 hr_ hb_ hg_ _; have R8 := Aside0.mk hr_; have B8 := Aside0.mk hb_; have X8 := Aside0.mk (blk_grown HX.out hg_ (fun he => HG.out _ he.symm rfl)); clear hr_ hb_ hg_)
      go_wp2_with fail
      refine (take_ST w.heap.size A2 c2 rest w w8 L (acc ++ [D]) v8 (Nat.le_refl _) R8.out B8.out X8.out HC2.out HN2.out.1 HN2.out.2 HB2.out (by rw [List.append_assoc]; exact HL2.out)).mono ?_
      rintro e w9 ⟨v9, b9, q9, rfl, hst9, hq9⟩
      have ST9 := Aside0.mk hst9
      clear hst9
      go_wp2
      go_roundg q9
      case measure => omega
      case rel => exact ⟨b9, rfl, ST9⟩
end Go.Proofs.Ytldddinebhopcaa.St
namespace Go.Proofs.Ytldddinebhopcaa.St
open Go.RowKit Go.Shelf Go.Proofs.YtldddinebhopcaaW.PrintWords Go.Proofs.YtldddinebhopcaaW.PrintLast Go.Proofs.YtldddinebhopcaaW.PrintMore Go.Proofs.Ytldddinebhopcaa.Bs Go.Proofs.Ytldddinebhopcaa.Fr Go.Proofs.Ytldddinebhopcaa.Oct Go.Proofs.Ytldddinebhopcaa.Sec Go.Proofs.Ytldddinebhopcaa.Rg
set_option linter.unusedVariables false
set_option linter.unusedSimpArgs false
attribute [local go_sem] Oper.semAt_some

def blankB (l : List Int) : Bool := l.all (fun x => x == 0)
theorem blank_take {l : List Int} {i : Nat} (h : i < l.length) (hb : blankB (l.take i) = true) : blankB (l.take (i + 1)) = (rd l i == 0) := by
  rw [take_snoc_rd l i h]
  unfold blankB at *
  rw [List.all_append, hb]
  simp
theorem blank_false {l : List Int} {i : Nat} (hb : blankB (l.take i) = false) : blankB l = false := by
  unfold blankB at *
  rw [List.all_eq_false] at hb ⊢
  obtain ⟨x, hx, h⟩ := hb
  exact ⟨x, List.mem_of_mem_take hx, h⟩
set_option maxHeartbeats 1000000 in
set_option maxRecDepth 100000 in
theorem empty_calls (A : Option Addr) (c : Nat) (l : List Int) (w : World) (hC : Kd.C (Kd.int .u8) w A l.length l) (hm : l.length ≤ 1000000) :
    Calls Try.prog 43 #[.slice A l.length c] w fun e w' => e = .returned (.bool (blankB l)) ∧ w = w' := by
  have HC := Aside0.mk hC
  clear hC
  go_enter Try.func43, Try.ntmps43
  go_upto_region 2 with fail
  go_loopg [7] l.length (fun q v7 wr => ∃ i : Nat, v7 = .int .i64 (i : Int) ∧ Aside0 (i + q = l.length) ∧ Aside0 (blankB (l.take i) = true) ∧ wr = w)
  case atStart => exact ⟨0, rfl, ⟨by omega⟩, ⟨rfl⟩, rfl⟩
  case round =>
    obtain ⟨i, rfl, Hi, HBL, rfl⟩ := hrel
    cases gk with
    | zero =>
      have hlt : ¬ ((i : Int) < (l.length : Int)) := by have := Hi.out; omega
      have hlb := decide_eq_false hlt
      have HF : Aside0 (blankB l = true) := ⟨by have h := HBL.out; rw [List.take_of_length_le (by have := Hi.out; omega)] at h; exact h⟩
      go_wp2
      go_ret
      exact ⟨by rw [HF.out]; rfl, rfl⟩
    | succ q =>
      have hlt : (i : Int) < (l.length : Int) := by have := Hi.out; omega
      have hlb := decide_eq_true hlt
      have hi0 : (0 : Int) ≤ i ∧ (i : Int) < (l.length : Int) := ⟨by omega, hlt⟩
      have hil : (i : Int) ≤ 1000000 := by omega
      obtain ⟨ad, e1, cb⟩ := at_one HC.out (i : Int) (by omega) hlt
      subst e1
      rw [Int.toNat_natCast] at cb
      have HT := Aside0.mk (blank_take (l := l) (i := i) (by omega) HBL.out)
      by_cases hz : rd l i = 0
      · have hzb : (rd l i != 0) = false := by simpa using hz
        have HT2 : Aside0 (blankB (l.take (i + 1)) = true) := ⟨by rw [HT.out]; simpa using hz⟩
        clear hz
        go_wp2
        go_roundg q
        case measure => omega
        case rel => exact ⟨i + 1, by go_num, ⟨by have := Hi.out; omega⟩, HT2, rfl⟩
      · have hzb : (rd l i != 0) = true := by simpa using hz
        have HT2 : Aside0 (blankB l = false) := ⟨blank_false (i := i + 1) (by rw [HT.out]; simpa using hz)⟩
        clear hz
        go_wp2
        go_ret
        exact ⟨by rw [HT2.out]; rfl, rfl⟩
set_option maxHeartbeats 1000000 in
theorem sectors_calls (p : Option Addr) (w : World) : Calls Try.prog 42 #[.pointer p] w fun e w' => e = .returned (.func (.func 60) #[] #[.pointer (some ⟨w.heap.size, 0, none⟩)]) ∧ w' = w.alloc (.cells #[.pointer p] 27) := by
  go_enter Try.func42, Try.ntmps42
  go_wp2
  go_ret
  exact ⟨rfl, rfl⟩
/-- What a round is told of the slice that it is handed. -/
def Gd (m : DM) (B i : Nat) (v : Value) (W : World) : Prop := ∃ g2, v = .slice (some ⟨g2, 0, none⟩) 64 64 ∧ B ≤ g2 ∧ W.heap[g2]? = some (.cells (encs (Value.int .u8) (m.now.getD i zB)).toArray 94 (0, 0))
def Dd (base gd : Nat) (v0 v1 v2 v3 : Value) (m : DM) (bx B : Nat) (W : World) : Prop := DV W base gd v0 v1 v2 v3 m ∧ W.cell? ⟨bx, 0, none⟩ = some (.pointer (some ⟨gd, 0, none⟩)) ∧ B ≤ W.heap.size
set_option maxRecDepth 100000 in
set_option maxHeartbeats 2000000 in
theorem sectors_seq (n : Nat) (hn : 1 ≤ n) (base gd : Nat) (v0 v1 v2 v3 : Value) (m : DM) (bx B : Nat) (hN : m.now.length ≤ 4096) :
    SeqD Fence.wide n Try.prog 60 #[.pointer (some ⟨bx, 0, none⟩)] m.now.length (Gd m B) (Dd base gd v0 v1 v2 v3 m bx B) := by
  intro l J W hD hJ hY h0
  have hD0 := hD 0 W h0
  refine callsIn_of_wp Try.func60 rfl trivial ?_ rfl
  simp only [Try.ntmps60, List.size_toArray, List.length_cons, List.length_nil, Nat.reduceAdd, Nat.reduceSub, Array.replicate_succ, Array.replicate_zero, List.push_toArray, List.append_toArray, List.nil_append, List.cons_append]
  have kb := hD0.2.1
  have HD0 := Aside0.mk hD0
  have HD := Aside0.mk hD
  have HJ := Aside0.mk hJ
  have HY := Aside0.mk hY
  clear hD0 hD hJ hY
  gi_wp2_with (refine ⟨trivial, ?_⟩; gi_at_call 37; refine (callsIn_wide.2 (Size_calls _ _ _ _ _ _ _ m HD0.out.1)).mono ?_; rintro e w1 ⟨rfl, rfl⟩)
  gi_loopw [8] (fun i wr => ∃ k : Nat, k ≤ m.now.length ∧ i = .int .i64 k ∧ Aside0 (J k wr)) (fun i _ => m.now.length - (intOf i).toNat)
  case atStart => exact ⟨0, Nat.zero_le _, rfl, ⟨h0⟩⟩
  case round =>
    obtain ⟨k, hk, rfl, hJs⟩ := hrel
    have HDk := Aside0.mk (HD.out k wr hJs.out)
    have kb1 := HDk.out.2.1
    by_cases hlt : k < m.now.length
    · have hlb : decide ((k : Int) < (m.now.length : Int)) = true := decide_eq_true (by omega)
      have HLT := Aside0.mk hlt
      gi_wp2_with (refine ⟨trivial, ?_⟩; gi_at_call 38; refine (callsIn_wide.2 (Read_calls _ _ _ _ _ _ _ m HDk.out.1 k HLT.out)).mono ?_; rintro e w2 ⟨g2, rfl, hg2, hx2, _, hb2⟩; have HG2 := Aside0.mk hg2; have HX2 := Aside0.mk hx2; have HB2 := Aside0.mk hb2; clear hg2 hx2 hb2)
      obtain ⟨fn, tmps, assign, body, hy, hR⟩ := HY.out k (.slice (some ⟨g2, 0, none⟩) 64 64) w2 HLT.out (HJ.out k wr w2 hJs.out HB2.out) ⟨g2, rfl, Nat.le_trans HDk.out.2.2 HG2.out, HX2.out⟩
      gi_wp2
      rw [hy]
      refine ⟨fun _ => hn, ?_⟩
      refine hR.mono ?_
      rintro e W3 ⟨rfl, hJ3⟩
      have HJ3 := Aside0.mk hJ3
      clear hJ3
      gi_wp2
      go_roundw
      case rel => exact ⟨k + 1, by omega, by go_num, HJ3⟩
      case measure => simp [intOf]; omega
    · obtain rfl : k = m.now.length := by omega
      have hlb : decide (((m.now.length : Nat) : Int) < (m.now.length : Int)) = false := decide_eq_false (by omega)
      gi_wp2
      go_end0
      exact ⟨⟨_, rfl⟩, hJs.out⟩
end Go.Proofs.Ytldddinebhopcaa.St
namespace Go.Proofs.Ytldddinebhopcaa.St
open Go.RowKit Go.Shelf Go.Proofs.YtldddinebhopcaaW.PrintWords Go.Proofs.YtldddinebhopcaaW.PrintLast Go.Proofs.YtldddinebhopcaaW.PrintMore Go.Proofs.Ytldddinebhopcaa.Bs Go.Proofs.Ytldddinebhopcaa.Fr Go.Proofs.Ytldddinebhopcaa.Oct Go.Proofs.Ytldddinebhopcaa.Sec Go.Proofs.Ytldddinebhopcaa.Rg
set_option linter.unusedVariables false
set_option linter.unusedSimpArgs false
def kRec : Kd (List Int × Int) := Kd.pair (Kd.slice 5 (Kd.int .u8)) (Kd.int .i64)
structure SM where
  at_ : Int
  ahead : List Int
  recs : List (List Int × Int)
/-- The strand of block gs over the disk of block gd, its rows told; all their blocks are ok. -/
structure SV (w : World) (base : Nat) (ok : Nat → Prop) (gs gd : Nat) (v2 v3 : Value) (m : SM) : Prop where
  blk : w.heap[gs]? = some (.cells #[.pointer (some ⟨gd, 0, none⟩), .int .i64 m.at_, v2, v3] 77 (0, 0))
  ahead : Kd.R (Kd.int .u8) 5 w base ok v2 m.ahead
  recs : Kd.R kRec 81 w base ok v3 m.recs
section
variable {w w' w1 : World} {base gs gd : Nat} {ok ok' : Nat → Prop} {v2 v3 : Value} {m : SM} {F : Nat → Prop}
theorem SV.keep (h : SV w base ok gs gd v2 v3 m) (k : Fr w w' F) (hn : ∀ q, ok q → ¬ F q) (hg : ¬ F gs) : SV w' base ok gs gd v2 v3 m :=
  ⟨k.blk h.blk hg, Kd.R_kept h.ahead k.2 hn, Kd.R_kept h.recs k.2 hn⟩
theorem SV.below (h : SV w base ok gs gd v2 v3 m) (hb : Below w.heap.size w w') : SV w' base ok gs gd v2 v3 m := ⟨blk_below h.blk hb, Kd.R_below h.ahead hb, Kd.R_below h.recs hb⟩
theorem SV.okto (h : SV w base ok gs gd v2 v3 m) (hk : ∀ k, ok k → base ≤ k → k < w.heap.size → ok' k) : SV w base ok' gs gd v2 v3 m :=
  ⟨h.blk, Kd.R_mono (Kd.R_bound h.ahead) (fun k q => hk k q.1 q.2.1 q.2.2.1), Kd.R_mono (Kd.R_bound h.recs) (fun k q => hk k q.1 q.2.1 q.2.2.1)⟩
theorem SV.lower (h : SV w base ok gs gd v2 v3 m) {base' : Nat} (hb : base' ≤ base) : SV w base' ok gs gd v2 v3 m := ⟨h.blk, Kd.R_lower h.ahead hb, Kd.R_lower h.recs hb⟩
theorem tyU (q : Nat) (hq : q ∈ 5 :: (Kd.int .u8).E) : q ≠ 77 ∧ q ≠ 81 := by rw [List.mem_singleton.1 hq]; decide
theorem tyR (q : Nat) (hq : q ∈ 81 :: kRec.E) : q ≠ 77 := by
  rcases List.mem_cons.1 hq with rfl | h
  · decide
  · rw [List.mem_singleton.1 (show q ∈ [5] from h)]; decide
/-- Another field of the strand is written. -/
theorem SV.set (h : SV w base ok gs gd v2 v3 m) (x : Int) : SV (w.setCell ⟨gs, 1, none⟩ (.int .i64 x)) base ok gs gd v2 v3 ⟨x, m.ahead, m.recs⟩ ∧ Fr w (w.setCell ⟨gs, 1, none⟩ (.int .i64 x)) (fun k => k = gs) :=
  ⟨⟨blk_set h.blk 1 _, Kd.R_set h.ahead h.blk (fun q hq => (tyU q hq).1) 1 _, Kd.R_set h.recs h.blk tyR 1 _⟩, Fr.set (g := gs) (F := fun k => k = gs) (Fr.refl w (fun k => k = gs)) (Or.inl rfl) _⟩
theorem SV.ahd (h : SV w base ok gs gd v2 v3 m) {v : Value} {l : List Int} (hR : Kd.R (Kd.int .u8) 5 w base ok v l) : SV (w.setCell ⟨gs, 2, none⟩ v) base ok gs gd v v3 ⟨m.at_, l, m.recs⟩ ∧ Fr w (w.setCell ⟨gs, 2, none⟩ v) (fun k => k = gs) :=
  ⟨⟨blk_set h.blk 2 _, Kd.R_set hR h.blk (fun q hq => (tyU q hq).1) 2 _, Kd.R_set h.recs h.blk tyR 2 _⟩, Fr.set (g := gs) (F := fun k => k = gs) (Fr.refl w (fun k => k = gs)) (Or.inl rfl) _⟩
theorem SV.push (h : SV w base ok gs gd v2 v3 m) {v : Value} {l : List (List Int × Int)} (hR : Kd.R kRec 81 w1 base ok v l) (hg : w.grownBy w1 v3.ownBlock) :
    SV (w1.setCell ⟨gs, 3, none⟩ v) base ok gs gd v2 v ⟨m.at_, m.ahead, l⟩ ∧ Fr w (w1.setCell ⟨gs, 3, none⟩ v) (fun k => k = gs ∨ own v3 k) := by
  have hb : w1.heap[gs]? = _ := (hg.block gs (blk_lt h.blk) (fun he => Kd.R_ne h.recs h.blk (by decide) he)).trans h.blk
  exact ⟨⟨blk_set hb 3 _, Kd.R_set (Kd.R_over h.ahead h.recs (fun q hq => (tyU q hq).2) hg) hb (fun q hq => (tyU q hq).1) 3 _, Kd.R_set hR hb tyR 3 _⟩,
    (Fr.grown (Fr.refl w (fun k => k = gs ∨ own v3 k)) hg (fun k hk => .inl (.inr hk))).set (.inl (.inl rfl)) _⟩
/-- A record is put behind the others, its body a row that lies there. -/
theorem kRec_M {v : Value} {D : List Int} {x : Int} (h : Kd.R (Kd.int .u8) 5 w base ok v D) : kRec.M w base ok (D, x) [v, .int .i64 x] := ⟨[v], [.int .i64 x], rfl, ⟨v, rfl, h⟩, rfl⟩
end
theorem infoU : (Try.prog.info? 5).map (fun i => (i.zero, i.size, i.bytes)) = some (some (.int .u8 0), 1, 1) := by kernel_rfl
theorem infoRec : (Try.prog.info? 81).map (fun i => (i.zero, i.size, i.bytes)) = some (some (.agg #[.slice none 0 0, .int .i64 0]), 2, 32) := by kernel_rfl
/-- What is found on the first k sectors. -/
def opA (s : List (List Int)) : Nat → Int
  | 0 => 0
  | i + 1 => if blankB (s.getD i zB) = true then opA s i else (i : Int) + 1
def tagL (l : List (List Int)) (i : Int) : List (List Int × Int) := l.map (fun b => (b, i))
def opR (s : List (List Int)) : Nat → List (List Int × Int)
  | 0 => []
  | i + 1 => opR s i ++ tagL (scanL (s.getD i zB)) i
theorem opA_range (s : List (List Int)) : ∀ i, 0 ≤ opA s i ∧ opA s i ≤ i
  | 0 => by unfold opA; omega
  | i + 1 => by
    have := opA_range s i
    unfold opA
    split <;> omega
theorem scanL_len (l : List Int) : (scanL l).length ≤ l.length := scanM_len _ l
def openM (m : DM) : SM := ⟨opA m.now m.now.length, [], opR m.now m.now.length⟩
/-- The bytes of a disk's sectors. -/
def BM (m : DM) : Prop := (∀ s ∈ m.now, Byt s) ∧ (∀ s ∈ m.sure, Byt s) ∧ ∀ p ∈ m.since, Byt p.2
theorem BM.sec {m : DM} (h : BM m) (i : Nat) (hi : i < m.now.length) : Byt (m.now.getD i zB) := h.1 _ (by
  rw [List.getD_eq_getElem?_getD, List.getElem?_eq_getElem hi]
  exact List.getElem_mem hi)
theorem putObj_fr {W : World} {l : Nat} {o : Obj} (o' : Obj) (h : W.heap[l]? = some o) : Fr W (W.putObj l o') (fun k => k = l) :=
  Fr.grown (Fr.refl W _) (grownBy_putObj' W l o') (fun k hk => by cases hk; exact .inl rfl)
end Go.Proofs.Ytldddinebhopcaa.St
namespace Go.Proofs.Ytldddinebhopcaa.St
open Go.RowKit Go.Shelf Go.Proofs.YtldddinebhopcaaW.PrintWords Go.Proofs.YtldddinebhopcaaW.PrintLast Go.Proofs.YtldddinebhopcaaW.PrintMore Go.Proofs.Ytldddinebhopcaa.Bs Go.Proofs.Ytldddinebhopcaa.Fr Go.Proofs.Ytldddinebhopcaa.Oct Go.Proofs.Ytldddinebhopcaa.Sec Go.Proofs.Ytldddinebhopcaa.Rg
set_option linter.unusedVariables false
set_option linter.unusedSimpArgs false
attribute [local go_sem] Oper.semAt_some
/-- How Open stands: a records R, place a. -/
structure OI (w W : World) (base gd : Nat) (v0 v1 v2 v3 : Value) (m : DM) (R : List (List Int × Int)) (a : Int) (v4 : Value) : Prop where
  sv : SV W w.heap.size (fun k => w.heap.size + 5 ≤ k) w.heap.size gd (.slice none 0 0) v4 ⟨a, [], R⟩
  p : W.heap[w.heap.size + 1]? = some (.cells #[.pointer (some ⟨w.heap.size, 0, none⟩)] 31 (0, 0))
  q : W.heap[w.heap.size + 2]? = some (.cells #[.pointer (some ⟨gd, 0, none⟩)] 27 (0, 0))
  d : DV W base gd v0 v1 v2 v3 m
  b : Below w.heap.size w W
section
variable {w W W' w5 : World} {base gd : Nat} {v0 v1 v2 v3 : Value} {m : DM} {R : List (List Int × Int)} {a : Int} {v4 : Value}
theorem OI.below (h : OI w W base gd v0 v1 v2 v3 m R a v4) (hb : Below W.heap.size W W') : OI w W' base gd v0 v1 v2 v3 m R a v4 :=
  ⟨h.sv.below hb, blk_below h.p hb, blk_below h.q hb, h.d.below hb, below_step h.b hb⟩
theorem OI.drew (h : OI w W base gd v0 v1 v2 v3 m R a v4) : OI w W.drew base gd v0 v1 v2 v3 m R a v4 := h.below (below_drew (Below.refl _ _))
theorem OI.keep (h : OI w W base gd v0 v1 v2 v3 m R a v4) (HF : ∀ k, foot gd v0 v1 v2 v3 k → k < w.heap.size) {F : Nat → Prop} (k : Fr W W' F) (hF : ∀ q, F q → w.heap.size + 3 ≤ q) (hn : ∀ q, w.heap.size + 5 ≤ q → ¬ F q) : OI w W' base gd v0 v1 v2 v3 m R a v4 :=
  ⟨h.sv.keep k hn (fun hf => by have := hF _ hf; omega), k.blk h.p (fun hf => by have := hF _ hf; omega), k.blk h.q (fun hf => by have := hF _ hf; omega), h.d.keep k (fun q hq hf => by have h1 := hF _ hf; have h2 := HF q hq; omega), below_fr h.b h.b.size k (fun q hf => by have := hF _ hf; omega)⟩
theorem OI.push (h : OI w W base gd v0 v1 v2 v3 m R a v4) (HF : ∀ k, foot gd v0 v1 v2 v3 k → k < w.heap.size) {v5 : Value} {l : List (List Int × Int)} (hR : Kd.R kRec 81 w5 w.heap.size (fun k => w.heap.size + 5 ≤ k) v5 l) (hg : W.grownBy w5 v4.ownBlock) :
    OI w (w5.setCell ⟨w.heap.size, 3, none⟩ v5) base gd v0 v1 v2 v3 m l a v5 ∧ Fr W (w5.setCell ⟨w.heap.size, 3, none⟩ v5) (fun k => k = w.heap.size ∨ own v4 k) := by
  obtain ⟨s, fr⟩ := h.sv.push hR hg
  have ho : ∀ k, own v4 k → w.heap.size + 5 ≤ k := fun k hk => h.sv.recs.1 k hk
  refine ⟨⟨s, fr.blk h.p ?_, fr.blk h.q ?_, h.d.keep fr ?_, below_fr h.b h.b.size fr ?_⟩, fr⟩
  · rintro (hf | hf)
    · omega
    · have := ho _ hf; omega
  · rintro (hf | hf)
    · omega
    · have := ho _ hf; omega
  · rintro q hq (hf | hf)
    · have := HF q hq; omega
    · have h1 := ho _ hf; have h2 := HF q hq; omega
  · rintro q (hf | hf)
    · omega
    · have := ho _ hf; omega
theorem OI.at_ (h : OI w W base gd v0 v1 v2 v3 m R a v4) (HF : ∀ k, foot gd v0 v1 v2 v3 k → k < w.heap.size) (x : Int) : OI w (W.setCell ⟨w.heap.size, 1, none⟩ (.int .i64 x)) base gd v0 v1 v2 v3 m R x v4 := by
  obtain ⟨s, fr⟩ := h.sv.set x
  exact ⟨s, fr.blk h.p (by omega), fr.blk h.q (by omega), h.d.keep fr (fun q hq hf => by have := HF q hq; omega), below_fr h.b h.b.size fr (fun q hf => by omega)⟩
theorem OI.p_grown (h : OI w W base gd v0 v1 v2 v3 m R a v4) (hg : W.grownBy w5 v4.ownBlock) : w5.heap[w.heap.size + 1]? = some (.cells #[.pointer (some ⟨w.heap.size, 0, none⟩)] 31 (0, 0)) :=
  (hg.block _ (blk_lt h.p) (fun he => Kd.R_ne h.sv.recs h.p (by decide) he)).trans h.p
theorem OI.s_grown (h : OI w W base gd v0 v1 v2 v3 m R a v4) (hg : W.grownBy w5 v4.ownBlock) : w5.heap[w.heap.size]? = some (.cells #[.pointer (some ⟨gd, 0, none⟩), .int .i64 a, .slice none 0 0, v4] 77 (0, 0)) :=
  (hg.block _ (blk_lt h.sv.blk) (fun he => Kd.R_ne h.sv.recs h.sv.blk (by decide) he)).trans h.sv.blk
theorem tyLR (q : Nat) (hq : q ∈ 23 :: kL.E) : q ≠ 81 := by
  rcases List.mem_cons.1 hq with rfl | h
  · decide
  · rw [List.mem_singleton.1 (show q ∈ [5] from h)]; decide

theorem tagL_snoc (L : List (List Int)) (i : Int) (j : Nat) (hj : j < L.length) : tagL (L.take (j + 1)) i = tagL (L.take j) i ++ [(L.getD j [], i)] := by
  unfold tagL
  rw [List.take_add_one, List.getElem?_eq_getElem hj, Option.toList_some, List.map_append, List.getD_eq_getElem?_getD, List.getElem?_eq_getElem hj]
  rfl
/-- How a round stands when j bodies of its sector were put. -/
structure IL (w W : World) (base gd : Nat) (v0 v1 v2 v3 : Value) (m : DM) (R0 : List (List Int × Int)) (a : Int) (i : Int) (L : List (List Int)) (u : Value) (g2 : Nat) (sec : List Int) (j : Nat) (v4 : Value) (wr : World) : Prop where
  oi : OI w wr base gd v0 v1 v2 v3 m (R0 ++ tagL (L.take j) i) a v4
  row : Kd.R kL 23 wr W.heap.size (fun _ => True) u L
  sec : wr.heap[g2]? = some (.cells (encs (Value.int .u8) sec).toArray 94 (0, 0))
  sz : W.heap.size ≤ wr.heap.size
  w5 : w.heap.size + 5 ≤ W.heap.size
  d : wr.heap[w.heap.size + 3]? = W.heap[w.heap.size + 3]?
  l : wr.heap[w.heap.size + 4]? = W.heap[w.heap.size + 4]?
section
variable {R0 : List (List Int × Int)} {i : Int} {L : List (List Int)} {u : Value} {g2 j : Nat} {sec : List Int} {wr : World}
theorem IL.drew (h : IL w W base gd v0 v1 v2 v3 m R0 a i L u g2 sec j v4 wr) : IL w W base gd v0 v1 v2 v3 m R0 a i L u g2 sec j v4 wr.drew :=
  ⟨h.oi.drew, Kd.R_drew h.row, h.sec, h.sz, h.w5, h.d, h.l⟩
theorem IL.push (h : IL w W base gd v0 v1 v2 v3 m R0 a i L u g2 sec j v4 wr) (HF : ∀ k, foot gd v0 v1 v2 v3 k → k < w.heap.size) {v5 : Value} {l : List (List Int × Int)} (hR : Kd.R kRec 81 w5 w.heap.size (fun k => w.heap.size + 5 ≤ k) v5 l) (hg : wr.grownBy w5 v4.ownBlock) (hl : l = R0 ++ tagL (L.take (j + 1)) i) :
    IL w W base gd v0 v1 v2 v3 m R0 a i L u g2 sec (j + 1) v5 (w5.setCell ⟨w.heap.size, 3, none⟩ v5) := by
  obtain ⟨o, fr⟩ := h.oi.push HF hR hg
  have ho : ∀ k, own v4 k → w.heap.size + 5 ≤ k := fun k hk => h.oi.sv.recs.1 k hk
  have hw := h.w5
  have hz := h.sz
  rw [hl] at o
  refine ⟨o, ?_, fr.blk h.sec ?_, Nat.le_trans hz fr.size, hw, ?_, ?_⟩
  · have h1 := Kd.R_apart' (Kd.R_mono (Kd.R_bound h.row) (fun k hk => hk.2.1)) (Kd.R_typed h.oi.sv.recs) tyLR
    refine Kd.R_mono (Kd.R_kept h1 fr.2 ?_) (fun _ _ => trivial)
    rintro k ⟨hk1, hk2⟩ (hf | hf)
    · omega
    · exact hk2 hf.symm
  · rintro (hf | hf)
    · have hx := h.oi.sv.blk
      rw [← hf, h.sec] at hx
      injection hx with hx
      injection hx with _ hx _
      exact absurd hx (by decide)
    · exact Kd.R_ne h.oi.sv.recs h.sec (by decide) hf.symm
  · refine (fr.2.2 _ (by omega) ?_).trans h.d
    rintro (hf | hf)
    · omega
    · have := ho _ hf; omega
  · refine (fr.2.2 _ (by omega) ?_).trans h.l
    rintro (hf | hf)
    · omega
    · have := ho _ hf; omega
/-- The body that is next: its cell, its row. -/
theorem IL.next {Ak : Option Addr} {ck : Nat} (h : IL w W base gd v0 v1 v2 v3 m R0 a i L (.slice Ak L.length ck) g2 sec j v4 wr) (hj : j < L.length) :
    ∃ g Ax cx, Ak = some ⟨g, 0, none⟩ ∧ wr.cell? ⟨g, j, none⟩ = some (.slice Ax (L.getD j []).length cx) ∧ Kd.R (Kd.int .u8) 5 wr w.heap.size (fun k => W.heap.size ≤ k ∧ some k ≠ v4.ownBlock) (.slice Ax (L.getD j []).length cx) (L.getD j []) := by
  have hw := h.w5
  have h1 := Kd.R_apart' (Kd.R_mono (Kd.R_bound h.row) (fun k hk => hk.2.1)) (Kd.R_typed h.oi.sv.recs) tyLR
  obtain ⟨g, cap, hv, _⟩ := Kd.R_form h1 (by omega)
  injection hv with hA _ _
  subst hA
  obtain ⟨cs, hl, hM, hc, _⟩ := Kd.R_elem h1 ([] : List Int) j (by omega) (by omega)
  rw [Int.toNat_natCast] at hM hc
  obtain ⟨v, rfl, hR⟩ := hM
  obtain ⟨Ax, cx, rfl⟩ := Kd.R_slice hR
  refine ⟨g, Ax, cx, rfl, ?_, Kd.R_lower (Kd.R_mono hR (fun k hk => hk.1)) (by omega)⟩
  have := hc 0 _ rfl
  rw [show j * kL.sz + 0 = j by show j * 1 + 0 = j; omega] at this
  exact this
end
theorem Scan64_calls (g2 : Nat) (b : List Int) (w : World) (hl : b.length = 64) (hx : w.heap[g2]? = some (.cells (encs (Value.int .u8) b).toArray 94 (0, 0))) (hB : Byt b) :
    Calls Try.prog 18 #[.slice (some ⟨g2, 0, none⟩) 64 64] w fun e w' => ∃ A c, e = .returned (.slice A (scanL b).length c) ∧ Kd.R kL 23 w' w.heap.size (fun _ => True) (.slice A (scanL b).length c) (scanL b) ∧ Below w.heap.size w w' := by
  have hC := C_blk hx hl
  have h := Scan_calls (some ⟨g2, 0, none⟩) 64 b w (by rw [hl]; exact hC) (by omega) (by omega) hB
  rw [hl] at h
  refine h.mono ?_
  rintro e w' ⟨v, rfl, hR, hb⟩
  obtain ⟨A, c, rfl⟩ := Kd.R_slice hR
  exact ⟨A, c, rfl, hR, hb⟩
theorem empty64_calls (g2 : Nat) (b : List Int) (w : World) (hl : b.length = 64) (hx : w.heap[g2]? = some (.cells (encs (Value.int .u8) b).toArray 94 (0, 0))) :
    Calls Try.prog 43 #[.slice (some ⟨g2, 0, none⟩) 64 64] w fun e w' => e = .returned (.bool (blankB b)) ∧ w = w' := by
  have hC := C_blk hx hl
  have h := empty_calls (some ⟨g2, 0, none⟩) 64 b w (by rw [hl]; exact hC) (by omega)
  rw [hl] at h
  exact h
theorem opR_len (s : List (List Int)) (hs : ∀ i, (s.getD i zB).length ≤ 64) : ∀ i, (opR s i).length ≤ 64 * i
  | 0 => by unfold opR; simp
  | i + 1 => by
    have h1 := opR_len s hs i
    have h2 := scanL_len (s.getD i zB)
    have h3 := hs i
    unfold opR tagL
    rw [List.length_append, List.length_map]
    omega
theorem sec_len {w : World} {base gd : Nat} {v0 v1 v2 v3 : Value} {m : DM} (h : DV w base gd v0 v1 v2 v3 m) (i : Nat) (hi : i < m.now.length) : (m.now.getD i zB).length = 64 := by
  obtain ⟨go, co, hv, gb, gl, cl, HG⟩ := Kd.R_form h.now (by omega)
  obtain ⟨s1, s2, s3⟩ := sector_at (by rw [← hv]; exact h.now) i hi
  exact s1
end
set_option maxRecDepth 100000 in
set_option maxHeartbeats 4000000 in
theorem Open_calls (w : World) (base gd : Nat) (v0 v1 v2 v3 : Value) (m : DM) (h : DV w base gd v0 v1 v2 v3 m) (hB : BM m) :
    Calls Try.prog 13 #[.pointer (some ⟨gd, 0, none⟩)] w fun e w' => ∃ gs v4, e = .returned (.tuple #[.pointer (some ⟨gs, 0, none⟩), .int .i64 0]) ∧ SV w' w.heap.size (fun _ => True) gs gd (.slice none 0 0) v4 (openM m) ∧ w.heap.size ≤ gs ∧ Below w.heap.size w w' := by
  have H := Aside0.mk h
  have HF := Aside0.mk h.foot_lt
  have HN := Aside0.mk h.n2
  have HB := Aside0.mk hB
  have HSL : Aside0 (∀ i, (m.now.getD i zB).length ≤ 64) := ⟨fun i => by
    rcases Nat.lt_or_ge i m.now.length with hi | hi
    · rw [sec_len h i hi]; exact Nat.le_refl _
    · rw [List.getD_eq_getElem?_getD, List.getElem?_eq_none hi]; simp [zB]⟩
  clear h hB
  refine (callsIn_wide (n := 4)).1 ?_
  refine callsIn_of_wp_marks Try.func13 rfl trivial ?_ rfl
  simp only [Try.ntmps13, List.size_toArray, List.length_cons, List.length_nil, Nat.reduceAdd, Nat.reduceSub, Array.replicate_succ, Array.replicate_zero, List.push_toArray, List.append_toArray, List.nil_append, List.cons_append]
  gi_wp2_with (refine ⟨trivial, ?_⟩; gi_at_call 42; refine (callsIn_wide.2 (sectors_calls _ _)).mono ?_; rintro e w' ⟨rfl, rfl⟩)
  obtain ⟨W0, hW0⟩ : ∃ W0, ((w.alloc (.cells #[.pointer (some ⟨gd, 0, none⟩), .int .i64 0, .slice none 0 0, .slice none 0 0] 77)).alloc (.cells #[.pointer (some ⟨w.heap.size, 0, none⟩)] 31)).alloc (.cells #[.pointer (some ⟨gd, 0, none⟩)] 27) = W0 := ⟨_, rfl⟩
  have hsz : W0.heap.size = w.heap.size + 3 := by rw [← hW0]; simp
  have hOI : OI w W0 base gd v0 v1 v2 v3 m [] 0 (.slice none 0 0) := by
    have x0 := blk_alloc (blk_alloc (blk_new w (.cells #[.pointer (some ⟨gd, 0, none⟩), .int .i64 0, .slice none 0 0, .slice none 0 0] 77)) (.cells #[.pointer (some ⟨w.heap.size, 0, none⟩)] 31)) (.cells #[.pointer (some ⟨gd, 0, none⟩)] 27)
    have x1 := blk_alloc (blk_new (w.alloc (.cells #[.pointer (some ⟨gd, 0, none⟩), .int .i64 0, .slice none 0 0, .slice none 0 0] 77)) (.cells #[.pointer (some ⟨w.heap.size, 0, none⟩)] 31)) (.cells #[.pointer (some ⟨gd, 0, none⟩)] 27)
    have x2 := blk_new ((w.alloc (.cells #[.pointer (some ⟨gd, 0, none⟩), .int .i64 0, .slice none 0 0, .slice none 0 0] 77)).alloc (.cells #[.pointer (some ⟨w.heap.size, 0, none⟩)] 31)) (.cells #[.pointer (some ⟨gd, 0, none⟩)] 27)
    have hb := below_alloc (below_alloc (below_alloc (Below.refl w.heap.size w) (.cells #[.pointer (some ⟨gd, 0, none⟩), .int .i64 0, .slice none 0 0, .slice none 0 0] 77)) (.cells #[.pointer (some ⟨w.heap.size, 0, none⟩)] 31)) (.cells #[.pointer (some ⟨gd, 0, none⟩)] 27)
    rw [hW0] at x0 x1 x2 hb
    rw [World.size_alloc] at x1 x2
    rw [World.size_alloc] at x2
    exact ⟨⟨x0, Kd.R_nil _ _ _ _ _, Kd.R_nil _ _ _ _ _⟩, x1, x2, H.out.below hb, hb⟩
  rw [hW0]
  clear hW0
  have HOI := Aside0.mk hOI
  have HSZ := Aside0.mk hsz
  clear hOI hsz
  refine wpIn_range rfl (by omega) (gf := 60) (lb := #[.pointer (some ⟨w.heap.size + 1 + 1, 0, none⟩)]) rfl trivial (enters_of Try.func60 (by kernel_rfl) rfl) (sectors_seq (4 - 1) (by omega) base gd v0 v1 v2 v3 m (w.heap.size + 1 + 1) (w.heap.size + 3) HN.out) rfl
    (fun i W => (∃ v4, OI w W base gd v0 v1 v2 v3 m (opR m.now i) (opA m.now i) v4) ∧ w.heap.size + 3 ≤ W.heap.size)
    ?dx ?ib ?ip ?gp ⟨⟨_, HOI.out⟩, by have := HSZ.out; omega⟩
    (fun i v => { tmps := #[.pointer (some ⟨gd, 0, none⟩), undef, .pointer none, .int .i64 0, .pointer (some ⟨w.heap.size + 1, 0, none⟩), .int .i64 (i : Int), v, undef, undef, .pointer (some ⟨gd, 0, none⟩), .bool false, .pointer (some ⟨gd, 0, none⟩), .agg #[.pointer (some ⟨gd, 0, none⟩), .int .i64 0, .slice none 0 0, .slice none 0 0], .pointer (some ⟨w.heap.size, 0, none⟩), .pointer (some ⟨gd, 0, none⟩), .func (.func 60) #[] #[.pointer (some ⟨w.heap.size + 1 + 1, 0, none⟩)], .int .i64 (i : Int), v, undef, undef, undef, undef, undef, undef, undef, undef, undef, undef, undef, undef, undef, undef, undef, undef, undef, undef, undef, undef, undef, undef, undef, undef, undef, undef, undef, undef, undef], defers := [] }) ?assign ?body ?done
  case dx =>
    rintro i W ⟨⟨v4, h⟩, hs⟩
    exact ⟨h.d, blk_cell h.q 0, hs⟩
  case ib =>
    rintro i W W' ⟨⟨v4, h⟩, hs⟩ hb
    exact ⟨⟨v4, h.below hb⟩, Nat.le_trans hs hb.size⟩
  case ip =>
    rintro i W r o ⟨⟨v4, h⟩, hs⟩ hl
    have hz := HSZ.out
    have fr := putObj_fr (.loop o) hl
    exact ⟨⟨v4, h.keep HF.out fr (fun q hq => by omega) (fun q hq => by omega)⟩, Nat.le_trans hs fr.size⟩
  case gp =>
    rintro i v W r o ⟨g2, rfl, hg, hx⟩ hl
    refine ⟨g2, rfl, hg, (putObj_fr (.loop o) hl).blk hx (fun he => ?_)⟩
    rw [he, hl] at hx
    cases hx
  case assign =>
    intro l i v W K hK
    gi_wp2
    exact hK
  case body =>
    rintro l i v W hi ⟨⟨v4, hO⟩, hs⟩ ⟨g2, rfl, hg2, hx2⟩ ⟨rl, hl⟩ ⟨rd, hd⟩
    rw [HSZ.out] at hl hd ⊢
    have OI0 := Aside0.mk hO
    have HX2 := Aside0.mk hx2
    have HG2 := Aside0.mk hg2
    have HLL := Aside0.mk hl
    have HDD := Aside0.mk hd
    have HI := Aside0.mk hi
    have hil : 0 ≤ (i : Int) ∧ (i : Int) ≤ 4096 := by have := HN.out; omega
    clear hO hx2 hg2 hl hd hs hi
    have HS64 := Aside0.mk (sec_len H.out i HI.out)
    have HSB := Aside0.mk (HB.out.sec i HI.out)
    have HRI : Aside0 ((opR m.now i).length ≤ 64 * i) := ⟨opR_len m.now HSL.out i⟩
    have HNX : Aside0 (opR m.now (i + 1) = opR m.now i ++ tagL (scanL (m.now.getD i zB)) i ∧ opA m.now (i + 1) = if blankB (m.now.getD i zB) = true then opA m.now i else (i : Int) + 1) := ⟨rfl, rfl⟩
    have HSCL := Aside0.mk (scanL_len (m.now.getD i zB))
    rw [HNX.out.1, HNX.out.2]
    rw [HS64.out] at HSCL
    clear HNX
    generalize opA m.now i = ai at *
    generalize opR m.now i = RI0 at *
    generalize m.now.getD i zB = sec at *
    obtain ⟨L, hL⟩ : ∃ L, scanL sec = L := ⟨_, rfl⟩
    have HL := Aside0.mk hL
    rw [hL] at HSCL
    rw [hL]
    clear hL
    gi_wp2_with (refine ⟨trivial, ?_⟩; gi_at_call 18; refine (CallsIn.inRound l (callsIn_wide.2 (Scan64_calls g2 sec W HS64.out HX2.out HSB.out))).mono ?_; rw [HL.out]; rintro e W1 ⟨Ak, ck, rfl, hRL, hb1⟩; have RL0 := Aside0.mk hRL; have BW0 := Aside0.mk hb1; clear hRL hb1)
    have IL0 : Aside0 (IL w W base gd v0 v1 v2 v3 m RI0 ai (i : Int) L (.slice Ak L.length ck) g2 sec 0 v4 W1) := ⟨by
      have hlt := blk_lt HLL.out
      have hb := BW0.out
      exact ⟨by rw [List.take_zero]; unfold tagL; rw [List.map_nil, List.append_nil]; exact OI0.out.below hb, RL0.out, blk_below HX2.out hb, hb.size, by omega, hb.block _ (by omega), hb.block _ (by omega)⟩⟩
    clear RL0 BW0
    gi_loopw [21] (fun v21 wr => ∃ (j : Nat) (v5 : Value), j ≤ L.length ∧ v21 = .int .i64 (j : Int) ∧ Aside0 (IL w W base gd v0 v1 v2 v3 m RI0 ai (i : Int) L (.slice Ak L.length ck) g2 sec j v5 wr)) (fun v21 _ => L.length - (intOf v21).toNat)
    case atStart => exact ⟨0, _, Nat.zero_le _, rfl, IL0⟩
    case round =>
      clear IL0
      obtain ⟨j, v5, hj, rfl, ILr⟩ := hrel
      have hjl : (j : Int) ≤ 64 := by have := HSCL.out; omega
      by_cases hlt : j < L.length
      · have hlb : decide ((j : Int) < (L.length : Int)) = true := decide_eq_true (by omega)
        have hlp : (j : Int) < (L.length : Int) := by omega
        obtain ⟨gk, Ax, cx, hA, kx, hRX⟩ := ILr.out.next hlt
        subst hA
        have HJT := Aside0.mk (tagL_snoc L (i : Int) j hlt)
        have HJ := Aside0.mk hlt
        obtain ⟨x, hx⟩ : ∃ x, L.getD j [] = x := ⟨_, rfl⟩
        rw [hx] at kx hRX HJT
        have RX := Aside0.mk hRX
        obtain ⟨RI, hRI⟩ : ∃ RI, RI0 ++ tagL (L.take j) (i : Int) = RI := ⟨_, rfl⟩
        have HRE : Aside0 (RI ++ [(x, (i : Int))] = RI0 ++ tagL (L.take (j + 1)) (i : Int)) := ⟨by rw [HJT.out, ← hRI, List.append_assoc]⟩
        have HRL : Aside0 (RI.length ≤ 64 * i + 64) := ⟨by
          have h1 := HRI.out
          have h2 := HSCL.out
          rw [← hRI, List.length_append]
          unfold tagL
          rw [List.length_map, List.length_take]
          omega⟩
        have hRs := ILr.out.oi.sv.recs
        rw [show (⟨ai, [], RI0 ++ tagL (L.take j) (i : Int)⟩ : SM).recs = RI from hRI] at hRs
        obtain ⟨A4, c4, ev⟩ := Kd.R_slice hRs
        subst ev
        have RS := Aside0.mk hRs
        have HAL : Aside0 ((RI.length + 1) * 32 ≤ 140737488355328) := ⟨by have h1 := HRL.out; have h2 := hil.2; omega⟩
        have hlj : 0 ≤ (j : Int) ∧ (j : Int) < (L.length : Int) := ⟨by omega, hlp⟩
        have kp : wr.cell? ⟨w.heap.size + 1, 0, none⟩ = some (.pointer (some ⟨w.heap.size, 0, none⟩)) := blk_cell ILr.out.oi.p 0
        have k3 : wr.cell? ⟨w.heap.size, 3, none⟩ = some (.slice A4 RI.length c4) := blk_cell ILr.out.oi.sv.blk 3
        clear hRX hx hRI hRs hlt
        gi_wp2
        refine region_round l _ (k := 13) (S := fun w' => w'.cell? ⟨w.heap.size + 1, 0, none⟩ = some (.pointer (some ⟨w.heap.size, 0, none⟩)) ∧ w'.cell? ⟨w.heap.size, 3, none⟩ = some (.slice A4 RI.length c4)) (ds := [12]) #[false, false, false, false, false, false, false, false, false, false, false, false, false] (by kernel_rfl) (fun ⟨_, _, h_⟩ => h_) (by kernel_rfl) rfl rfl ⟨kp, k3⟩ (fun hHeld => ?_)
        refine pure_ (i := 5) (N := some 30) (v := ?_) (a' := ?_) #[false, false, false, false, false, true, false, false, false, false, false, false, false] rfl rfl (by kernel_rfl) (fun _ _ _ h => h) (Or.inl ⟨by rfl, ?_⟩) ?_ ?_
        rotate_left
        · intro w'
          go_simp
          with_reducible rfl
        rotate_left
        · simp only [Act.put, List.setIfInBounds_toArray, List.set_cons_zero, List.set_cons_succ, i64_w, i32_w]
          rfl
        refine pure_ (i := 6) (N := some 31) (v := ?_) (a' := ?_) #[false, false, false, false, false, true, true, false, false, false, false, false, false] rfl rfl (by kernel_rfl) (fun _ _ _ h => h) (Or.inl ⟨by rfl, ?_⟩) ?_ ?_
        rotate_left
        · intro w'
          go_simp
          with_reducible rfl
        rotate_left
        · simp only [Act.put, List.setIfInBounds_toArray, List.set_cons_zero, List.set_cons_succ, i64_w, i32_w]
          rfl
        refine pure_ (i := 7) (N := some 32) (v := ?_) (a' := ?_) #[false, false, false, false, false, true, true, true, false, false, false, false, false] rfl rfl (by kernel_rfl) (fun _ _ _ h => h) (Or.inl ⟨by rfl, ?_⟩) ?_ ?_
        rotate_left
        · intro w'
          go_simp
          with_reducible rfl
        rotate_left
        · simp only [Act.put, List.setIfInBounds_toArray, List.set_cons_zero, List.set_cons_succ, i64_w, i32_w]
          rfl
        refine take_ (i := 0) (N := some 25) (v := ?_) (a' := ?_) #[true, false, false, false, false, true, true, true, false, false, false, false, false] rfl rfl (by kernel_rfl) (fun _ _ _ h => h) (Or.inl ⟨by rfl, ?_⟩) hHeld ?_ ?_
        rotate_left
        · rintro w' ⟨s0, s1⟩
          go_simp
          with_reducible rfl
        rotate_left
        · simp only [Act.put, List.setIfInBounds_toArray, List.set_cons_zero, List.set_cons_succ, i64_w, i32_w]
          rfl
        refine take_ (i := 1) (N := some 26) (v := ?_) (a' := ?_) #[true, true, false, false, false, true, true, true, false, false, false, false, false] rfl rfl (by kernel_rfl) (fun _ _ _ h => h) (Or.inl ⟨by rfl, ?_⟩) hHeld ?_ ?_
        rotate_left
        · rintro w' ⟨s0, s1⟩
          go_simp
          with_reducible rfl
        rotate_left
        · simp only [Act.put, List.setIfInBounds_toArray, List.set_cons_zero, List.set_cons_succ, i64_w, i32_w]
          rfl
        refine pure_ (i := 2) (N := some 27) (v := ?_) (a' := ?_) #[true, true, true, false, false, true, true, true, false, false, false, false, false] rfl rfl (by kernel_rfl) (fun _ _ _ h => h) (Or.inl ⟨by rfl, ?_⟩) ?_ ?_
        rotate_left
        · intro w'
          go_simp
          with_reducible rfl
        rotate_left
        · simp only [Act.put, List.setIfInBounds_toArray, List.set_cons_zero, List.set_cons_succ, i64_w, i32_w]
          rfl
        refine pure_ (i := 3) (N := some 28) (v := ?_) (a' := ?_) #[true, true, true, true, false, true, true, true, false, false, false, false, false] rfl rfl (by kernel_rfl) (fun _ _ _ h => h) (Or.inl ⟨by rfl, ?_⟩) ?_ ?_
        rotate_left
        · intro w'
          go_simp
          with_reducible rfl
        rotate_left
        · simp only [Act.put, List.setIfInBounds_toArray, List.set_cons_zero, List.set_cons_succ, i64_w, i32_w]
          rfl
        refine take_ (i := 4) (N := some 29) (v := ?_) (a' := ?_) #[true, true, true, true, true, true, true, true, false, false, false, false, false] rfl rfl (by kernel_rfl) (fun _ _ _ h => h) (Or.inl ⟨by rfl, ?_⟩) hHeld ?_ ?_
        rotate_left
        · rintro w' ⟨s0, s1⟩
          go_simp
          with_reducible rfl
        rotate_left
        · simp only [Act.put, List.setIfInBounds_toArray, List.set_cons_zero, List.set_cons_succ, i64_w, i32_w]
          rfl
        refine one_ (i := 8) (N := some 33) #[true, true, true, true, true, true, true, true, true, false, false, false, false] rfl rfl (by kernel_rfl) (by decide) (fun K hK => ?_)
        refine value_ (w1 := ?_) (v := ?_) (by rfl) rfl ?_ ?_
        rotate_left 2
        · go_simp
          constructor
          · rfl
          · rfl
        refine hK.out _ _ ⟨(cell_alloc_old hHeld.1 _), (cell_alloc_old hHeld.2 _)⟩ (fun hHeld => ?_)
        clear hK K
        refine norm_ (a' := ?_) ?_ ?_
        rotate_left
        · show Act.put _ (some 33) _ = _
          simp only [Act.put, List.setIfInBounds_toArray, List.set_cons_zero, List.set_cons_succ, i64_w, i32_w]
          rfl
        refine one_ (i := 9) (N := some 34) #[true, true, true, true, true, true, true, true, true, true, false, false, false] rfl rfl (by kernel_rfl) (by decide) (fun K hK => ?_)
        refine Kd.R_append_step kRec (w0 := wr.drew) w.heap.size (by rfl) (.tmp 29) (.tmp 33) 75 81 (.agg #[.slice none 0 0, .int .i64 0]) 32 rfl Try.underlying75 infoRec rfl (by decide) (by decide) (.slice A4 RI.length c4) RI (x, (i : Int)) [.slice Ax x.length cx, .int .i64 (i : Int)] (fun k => w.heap.size + 5 ≤ k) (fun k => W.heap.size ≤ k ∧ some k ≠ Value.ownBlock (.slice A4 RI.length c4)) rfl rfl (kRec_M (Kd.R_drew RX.out)) (fun k hk => ⟨Nat.le_trans ILr.out.w5 hk.1, hk.2⟩) (fun k hk => Nat.le_trans (Nat.le_trans ILr.out.w5 ILr.out.sz) hk) (Kd.R_drew RS.out) (Below.refl _ _) (Nat.le_trans (Nat.le_add_right _ 5) (Nat.le_trans ILr.out.w5 ILr.out.sz)) HAL.out ?_
        intro v5 w5 hr1 hb1 hg1 hat1
        have P1 := Aside0.mk (ILr.out.drew.push HF.out hr1 hg1 HRE.out)
        have hq1 := ILr.out.drew.oi.p_grown hg1
        have hq2 := ILr.out.drew.oi.s_grown hg1
        obtain ⟨A5, c5, ev⟩ := Kd.R_slice hr1
        obtain ⟨n5, hn5⟩ : ∃ n5, n5 = (RI ++ [(x, (i : Int))]).length := ⟨_, rfl⟩
        rw [← hn5] at ev
        subst ev
        have c1' : w5.cell? ⟨w.heap.size + 1, 0, none⟩ = some (.pointer (some ⟨w.heap.size, 0, none⟩)) := blk_cell hq1 0
        have c4' : w5.cell? ⟨w.heap.size, 3, none⟩ = some (.slice A4 RI.length c4) := blk_cell hq2 3
        have hfz : w5.frozen? ⟨w.heap.size, 3, none⟩ = false := blk_frozen hq2 3
        clear hr1 hb1 hg1 hat1 hq1 hq2 hn5
        refine hK.out _ _ ⟨c1', c4'⟩ (fun hHeld => ?_)
        clear hK K
        refine norm_ (a' := ?_) ?_ ?_
        rotate_left
        · show Act.put _ (some 34) _ = _
          simp only [Act.put, List.setIfInBounds_toArray, List.set_cons_zero, List.set_cons_succ, i64_w, i32_w]
          rfl
        refine pure_ (i := 10) (N := some 35) (v := ?_) (a' := ?_) #[true, true, true, true, true, true, true, true, true, true, true, false, false] rfl rfl (by kernel_rfl) (fun _ _ _ h => h) (Or.inl ⟨by rfl, ?_⟩) ?_ ?_
        rotate_left
        · intro w'
          go_simp
          with_reducible rfl
        rotate_left
        · simp only [Act.put, List.setIfInBounds_toArray, List.set_cons_zero, List.set_cons_succ, i64_w, i32_w]
          rfl
        refine pure_ (i := 11) (N := some 36) (v := ?_) (a' := ?_) #[true, true, true, true, true, true, true, true, true, true, true, true, false] rfl rfl (by kernel_rfl) (fun _ _ _ h => h) (Or.inl ⟨by rfl, ?_⟩) ?_ ?_
        rotate_left
        · intro w'
          go_simp
          with_reducible rfl
        rotate_left
        · simp only [Act.put, List.setIfInBounds_toArray, List.set_cons_zero, List.set_cons_succ, i64_w, i32_w]
          rfl
        refine last_ (i := 12) (N := none) #[true, true, true, true, true, true, true, true, true, true, true, true, true] rfl rfl (by kernel_rfl) (by decide) (fun K hK => ?_)
        refine skip_ (w1 := ?_) (by rfl) rfl ?_ ?_
        rotate_left
        · go_simp
          rfl
        refine hK.out _ _ ?_
        clear hK K
        refine done_ (by kernel_rfl) ?_
        gi_wp2
        go_roundw
        case rel => exact ⟨j + 1, _, by have := HJ.out; omega, by go_num, P1⟩
        case measure => simp [intOf]; omega
      · obtain rfl : j = L.length := by omega
        have hlb : decide (((L.length : Nat) : Int) < (L.length : Int)) = false := decide_eq_false (by omega)
        have HTL : Aside0 (tagL (L.take L.length) (i : Int) = tagL L (i : Int)) := ⟨by rw [List.take_length]⟩
        have hOL := ILr.out.oi
        rw [HTL.out] at hOL
        have OL := Aside0.mk hOL
        have HDF := Aside0.mk ILr.out.d
        have HLF := Aside0.mk ILr.out.l
        have HSF := Aside0.mk ILr.out.sec
        have HZF : Aside0 (w.heap.size + 3 ≤ wr.heap.size) := ⟨by have h1 := ILr.out.w5; have h2 := ILr.out.sz; omega⟩
        have kp : wr.cell? ⟨w.heap.size + 1, 0, none⟩ = some (.pointer (some ⟨w.heap.size, 0, none⟩)) := blk_cell hOL.p 0
        have f1 : wr.frozen? ⟨w.heap.size, 1, none⟩ = false := blk_frozen hOL.sv.blk 1
        have k1 : wr.cell? ⟨w.heap.size, 1, none⟩ = some (.int .i64 ai) := blk_cell hOL.sv.blk 1
        clear hOL hlt
        by_cases hbk : blankB sec = true
        · gi_wp2_with (refine ⟨trivial, ?_⟩; gi_at_call 43; refine (CallsIn.inRound l (callsIn_wide.2 (empty64_calls g2 sec wr HS64.out HSF.out))).mono ?_; rw [hbk]; rintro e W2 ⟨rfl, rfl⟩)
          refine ⟨HDF.out, HLF.out, ⟨v5, ?_⟩, HZF.out⟩
          first | exact OL.out | (rw [if_pos hbk]; exact OL.out)
        · have hbf : blankB sec = false := by simpa using hbk
          gi_wp2_with (refine ⟨trivial, ?_⟩; gi_at_call 43; refine (CallsIn.inRound l (callsIn_wide.2 (empty64_calls g2 sec wr HS64.out HSF.out))).mono ?_; rw [hbf]; rintro e W2 ⟨rfl, rfl⟩)
          have hh : ∀ k, k ≠ w.heap.size → (wr.setCell ⟨w.heap.size, 1, none⟩ (.int .i64 ((i : Int) + 1))).heap[k]? = wr.heap[k]? := fun k hk => Below.heap_setCell wr ⟨w.heap.size, 1, none⟩ _ k hk
          refine ⟨(hh _ (by omega)).trans HDF.out, (hh _ (by omega)).trans HLF.out, ⟨v5, ?_⟩, by simpa using HZF.out⟩
          first | exact OL.out.at_ HF.out _ | (rw [if_neg hbk]; exact OL.out.at_ HF.out _)
  case done =>
    rintro W ⟨⟨v4, h⟩, hs⟩ hK
    have HO := Aside0.mk h
    have hk1 : W.cell? ⟨w.heap.size + 1, 0, none⟩ = some (.pointer (some ⟨w.heap.size, 0, none⟩)) := blk_cell h.p 0
    rw [HSZ.out] at hK ⊢
    clear h
    gi_wp2
    refine ⟨by simp, .inl ⟨_, _, rfl, run_takeDeferred hK, ?_⟩⟩
    have fr := putObj_fr (.deferred none) hK
    have h2 := HO.out.keep HF.out fr (fun q hq => by omega) (fun q hq => by omega)
    have hz := HSZ.out
    refine ⟨.tuple #[.pointer (some ⟨w.heap.size, 0, none⟩), .int .i64 0], by simp [results, Try.results13, go_sem], w.heap.size, v4, rfl, ?_, Nat.le_refl _, ?_⟩
    · exact h2.sv.okto (fun _ _ _ _ => trivial)
    · exact h2.b
end Go.Proofs.Ytldddinebhopcaa.St
namespace Go.Proofs.Ytldddinebhopcaa.St
open Go.RowKit Go.Shelf Go.Proofs.YtldddinebhopcaaW.PrintWords Go.Proofs.YtldddinebhopcaaW.PrintLast Go.Proofs.YtldddinebhopcaaW.PrintMore Go.Proofs.Ytldddinebhopcaa.Bs Go.Proofs.Ytldddinebhopcaa.Fr Go.Proofs.Ytldddinebhopcaa.Oct Go.Proofs.Ytldddinebhopcaa.Sec Go.Proofs.Ytldddinebhopcaa.Rg
set_option linter.unusedVariables false
set_option linter.unusedSimpArgs false
def nextM (m : SM) : SM := ⟨m.at_ + 1, [], m.recs⟩
set_option maxHeartbeats 1000000 in
set_option maxRecDepth 100000 in
theorem Snext_calls (w : World) (base gs gd : Nat) (ok : Nat → Prop) (v2 v3 : Value) (m : SM) (h : SV w base ok gs gd v2 v3 m) (ha : 0 ≤ m.at_ ∧ m.at_ ≤ 1000000) :
    Calls Try.prog 44 #[.pointer (some ⟨gs, 0, none⟩)] w fun e w' => e = .returned (.tuple #[]) ∧ SV w' base ok gs gd (.slice none 0 0) v3 (nextM m) ∧ Fr w w' (fun k => k = gs) := by
  have H := Aside0.mk h
  have k1 : w.cell? ⟨gs, 1, none⟩ = some (.int .i64 m.at_) := blk_cell h.blk 1
  have f1 : w.frozen? ⟨gs, 1, none⟩ = false := blk_frozen h.blk 1
  have f2 : w.frozen? ⟨gs, 2, none⟩ = false := blk_frozen h.blk 2
  have k2 : w.cell? ⟨gs, 2, none⟩ = some v2 := blk_cell h.blk 2
  clear h
  go_enter Try.func44, Try.ntmps44
  go_wp2
  first | go_end0 | ((try simp only [Exit.inBlock, Exit.then]); refine bodyPost_ret (results_none rfl _ _ _) rfl ?_)
  obtain ⟨s1, r1⟩ := H.out.set (m.at_ + 1)
  obtain ⟨s2, r2⟩ := s1.ahd (v := .slice none 0 0) (l := []) (Kd.R_nil _ _ _ _ _)
  exact ⟨rfl, s2, r1.trans r2 (fun k hk => .inl hk)⟩
set_option maxHeartbeats 1000000 in
set_option maxRecDepth 100000 in
theorem Place_calls (w : World) (base gs gd : Nat) (ok : Nat → Prop) (v2 v3 : Value) (m : SM) (h : SV w base ok gs gd v2 v3 m) :
    Calls Try.prog 15 #[.pointer (some ⟨gs, 0, none⟩)] w fun e w' => e = .returned (.tuple #[.int .i64 m.at_, .int .i64 m.ahead.length]) ∧ w.drew = w' := by
  obtain ⟨A2, c2, rfl⟩ := Kd.R_slice h.ahead
  have k1 : w.cell? ⟨gs, 1, none⟩ = some (.int .i64 m.at_) := blk_cell h.blk 1
  have k2 : w.cell? ⟨gs, 2, none⟩ = some (.slice A2 m.ahead.length c2) := blk_cell h.blk 2
  clear h
  go_enter Try.func15, Try.ntmps15
  go_upto_region 3 with fail
  refine start_ (n := 11) (S := fun w' => w'.cell? ⟨gs, 1, none⟩ = some (.int .i64 m.at_) ∧ w'.cell? ⟨gs, 2, none⟩ = some (.slice A2 m.ahead.length c2)) (ds := []) #[false, false, false, false, false, false, false, false, false, false, false] (by kernel_rfl) rfl rfl ⟨k1, k2⟩ (fun hHeld => ?_)
  refine pure_ (i := 0) (N := some 6) (v := ?_) (a' := ?_) #[true, false, false, false, false, false, false, false, false, false, false] rfl rfl (by kernel_rfl) (fun _ _ _ h => h) (Or.inl ⟨by rfl, ?_⟩) ?_ ?_
  rotate_left
  · intro w'
    go_simp
    with_reducible rfl
  rotate_left
  · simp only [Act.put, List.setIfInBounds_toArray, List.set_cons_zero, List.set_cons_succ, i64_w, i32_w]
    rfl
  refine pure_ (i := 1) (N := some 7) (v := ?_) (a' := ?_) #[true, true, false, false, false, false, false, false, false, false, false] rfl rfl (by kernel_rfl) (fun _ _ _ h => h) (Or.inl ⟨by rfl, ?_⟩) ?_ ?_
  rotate_left
  · intro w'
    go_simp
    with_reducible rfl
  rotate_left
  · simp only [Act.put, List.setIfInBounds_toArray, List.set_cons_zero, List.set_cons_succ, i64_w, i32_w]
    rfl
  refine pure_ (i := 2) (N := some 8) (v := ?_) (a' := ?_) #[true, true, true, false, false, false, false, false, false, false, false] rfl rfl (by kernel_rfl) (fun _ _ _ h => h) (Or.inl ⟨by rfl, ?_⟩) ?_ ?_
  rotate_left
  · intro w'
    go_simp
    with_reducible rfl
  rotate_left
  · simp only [Act.put, List.setIfInBounds_toArray, List.set_cons_zero, List.set_cons_succ, i64_w, i32_w]
    rfl
  refine pure_ (i := 4) (N := some 10) (v := ?_) (a' := ?_) #[true, true, true, false, true, false, false, false, false, false, false] rfl rfl (by kernel_rfl) (fun _ _ _ h => h) (Or.inl ⟨by rfl, ?_⟩) ?_ ?_
  rotate_left
  · intro w'
    go_simp
    with_reducible rfl
  rotate_left
  · simp only [Act.put, List.setIfInBounds_toArray, List.set_cons_zero, List.set_cons_succ, i64_w, i32_w]
    rfl
  refine pure_ (i := 5) (N := some 11) (v := ?_) (a' := ?_) #[true, true, true, false, true, true, false, false, false, false, false] rfl rfl (by kernel_rfl) (fun _ _ _ h => h) (Or.inl ⟨by rfl, ?_⟩) ?_ ?_
  rotate_left
  · intro w'
    go_simp
    with_reducible rfl
  rotate_left
  · simp only [Act.put, List.setIfInBounds_toArray, List.set_cons_zero, List.set_cons_succ, i64_w, i32_w]
    rfl
  refine pure_ (i := 6) (N := some 12) (v := ?_) (a' := ?_) #[true, true, true, false, true, true, true, false, false, false, false] rfl rfl (by kernel_rfl) (fun _ _ _ h => h) (Or.inl ⟨by rfl, ?_⟩) ?_ ?_
  rotate_left
  · intro w'
    go_simp
    with_reducible rfl
  rotate_left
  · simp only [Act.put, List.setIfInBounds_toArray, List.set_cons_zero, List.set_cons_succ, i64_w, i32_w]
    rfl
  refine take_ (i := 3) (N := some 9) (v := ?_) (a' := ?_) #[true, true, true, true, true, true, true, false, false, false, false] rfl rfl (by kernel_rfl) (fun _ _ _ h => h) (Or.inl ⟨by rfl, ?_⟩) hHeld ?_ ?_
  rotate_left
  · rintro w' ⟨s0, s1⟩
    go_simp
    with_reducible rfl
  rotate_left
  · simp only [Act.put, List.setIfInBounds_toArray, List.set_cons_zero, List.set_cons_succ, i64_w, i32_w]
    rfl
  refine pure_ (i := 9) (N := some 2) (v := ?_) (a' := ?_) #[true, true, true, true, true, true, true, false, false, true, false] rfl rfl (by kernel_rfl) (fun _ _ _ h => h) (Or.inl ⟨by rfl, ?_⟩) ?_ ?_
  rotate_left
  · intro w'
    go_simp
    with_reducible rfl
  rotate_left
  · simp only [Act.put, List.setIfInBounds_toArray, List.set_cons_zero, List.set_cons_succ, i64_w, i32_w]
    rfl
  refine take_ (i := 7) (N := some 13) (v := ?_) (a' := ?_) #[true, true, true, true, true, true, true, true, false, true, false] rfl rfl (by kernel_rfl) (fun _ _ _ h => h) (Or.inl ⟨by rfl, ?_⟩) hHeld ?_ ?_
  rotate_left
  · rintro w' ⟨s0, s1⟩
    go_simp
    with_reducible rfl
  rotate_left
  · simp only [Act.put, List.setIfInBounds_toArray, List.set_cons_zero, List.set_cons_succ, i64_w, i32_w]
    rfl
  refine pure_ (i := 8) (N := some 14) (v := ?_) (a' := ?_) #[true, true, true, true, true, true, true, true, true, true, false] rfl rfl (by kernel_rfl) (fun _ _ _ h => h) (Or.inl ⟨by rfl, ?_⟩) ?_ ?_
  rotate_left
  · intro w'
    go_simp
    with_reducible rfl
  rotate_left
  · simp only [Act.put, List.setIfInBounds_toArray, List.set_cons_zero, List.set_cons_succ, i64_w, i32_w]
    rfl
  refine pure_ (i := 10) (N := some 3) (v := ?_) (a' := ?_) #[true, true, true, true, true, true, true, true, true, true, true] rfl rfl (by kernel_rfl) (fun _ _ _ h => h) (Or.inl ⟨by rfl, ?_⟩) ?_ ?_
  rotate_left
  · intro w'
    go_simp
    with_reducible rfl
  rotate_left
  · simp only [Act.put, List.setIfInBounds_toArray, List.set_cons_zero, List.set_cons_succ, i64_w, i32_w]
    rfl
  refine done_ (by kernel_rfl) ?_
  go_wp2
  go_ret2
  exact ⟨rfl, rfl⟩
/-- What Sync makes of a strand. -/
def sySM (m : SM) (e : Int) : SM := if e ≠ 0 ∧ m.ahead.length ≠ 0 then nextM m else m
set_option maxHeartbeats 2000000 in
set_option maxRecDepth 100000 in
theorem SSync_calls (w : World) (base gs gd : Nat) (ok : Nat → Prop) (u2 u3 v0 v1 v2 v3 : Value) (m : SM) (d : DM) (h : SV w base ok gs gd u2 u3 m) (hd : DV w base gd v0 v1 v2 v3 d) (ho : 0 ≤ d.ops ∧ d.ops ≤ 1000000000) (hs : d.since.length ≤ 1000000) (hb : base ≤ w.heap.size)
    (ha : 0 ≤ m.at_ ∧ m.at_ ≤ 1000000) (hl : m.ahead.length ≤ 64) (hk : ∀ k, ok k → ¬ foot gd v0 v1 v2 v3 k) (hg : ¬ foot gd v0 v1 v2 v3 gs) :
    Calls Try.prog 23 #[.pointer (some ⟨gs, 0, none⟩)] w fun e w' => e = .returned (.int .i64 (tell (outc d))) ∧ ∃ u2' v2' v3', DV w' base gd v0 v1 v2' v3' (syM d) ∧ SV w' base (fun k => ok k ∧ ¬ foot gd v0 v1 v2' v3' k) gs gd u2' u3 (sySM m (tell (outc d))) ∧ ¬ foot gd v0 v1 v2' v3' gs ∧
      Fr w w' (fun k => foot gd v0 v1 v2 v3 k ∨ k = gs) ∧ ∀ k, foot gd v0 v1 v2' v3' k → foot gd v0 v1 v2 v3 k ∨ w.heap.size ≤ k := by
  have H := Aside0.mk h
  have D := Aside0.mk hd
  have HB := Aside0.mk hb
  have HO := Aside0.mk (And.intro ho hs)
  have HK := Aside0.mk hk
  have HG := Aside0.mk hg
  have HA := Aside0.mk ha
  have HLT := Aside0.mk (blk_lt h.blk)
  have HRL := Aside0.mk (fun k (q : ok k ∧ base ≤ k ∧ k < w.heap.size) => q.2.2)
  have k0 : w.cell? ⟨gs, 0, none⟩ = some (.pointer (some ⟨gd, 0, none⟩)) := blk_cell h.blk 0
  have hll : 0 ≤ (m.ahead.length : Int) ∧ (m.ahead.length : Int) ≤ 64 := by omega
  clear h hd ho hs hb hk hg ha hl
  go_enter Try.func23, Try.ntmps23
  go_wp2_with fail
  refine (Sync_all w base gd v0 v1 v2 v3 d D.out HO.out.1 HO.out.2 HB.out).mono ?_
  rintro e w1 ⟨rfl, v2', v3', d1, f1, ft1⟩
  have D1 := Aside0.mk d1
  have F1 := Aside0.mk f1
  have FT1 := Aside0.mk ft1
  have S1 : Aside0 (SV w1 base (fun k => ok k ∧ ¬ foot gd v0 v1 v2' v3' k) gs gd u2 u3 m) := ⟨by
    have h1 := H.out.okto (ok' := fun k => ok k ∧ k < w.heap.size) (fun k q1 _ q3 => ⟨q1, q3⟩)
    refine (h1.keep f1 (fun q hq => HK.out q hq.1) HG.out).okto (fun k q1 _ _ => ⟨q1.1, fun hf => ?_⟩)
    rcases ft1 k hf with q | q
    · exact HK.out k q1.1 q
    · have := q1.2; omega⟩
  have G1 : Aside0 (¬ foot gd v0 v1 v2' v3' gs) := ⟨fun hf => by
    rcases ft1 gs hf with q | q
    · exact HG.out q
    · have := HLT.out; omega⟩
  obtain ⟨A2, c2, rfl⟩ := Kd.R_slice H.out.ahead
  have k2 : w1.cell? ⟨gs, 2, none⟩ = some (.slice A2 m.ahead.length c2) := blk_cell S1.out.blk 2
  have HT := outc_range d
  clear d1 f1 ft1 k0
  by_cases hc : tell (outc d) ≠ 0 ∧ m.ahead.length ≠ 0
  · have HM : Aside0 (sySM m (tell (outc d)) = nextM m) := ⟨by unfold sySM; rw [if_pos hc]⟩
    have hn : (tell (outc d) != 0) = true := bne_iff_ne.mpr hc.1
    have hp : (m.ahead.length : Int) > 0 := by have := hc.2; omega
    have hpb : decide (0 < (m.ahead.length : Int)) = true := decide_eq_true hp
    clear hc
    go_wp2_with fail
    refine (Snext_calls w1 base gs gd _ _ u3 m S1.out HA.out).mono ?_
    rintro e w2 ⟨rfl, s2, f2⟩
    have S2 := Aside0.mk s2
    have F2 := Aside0.mk f2
    clear s2 f2
    go_wp2
    go_ret
    refine ⟨rfl, .slice none 0 0, v2', v3', D1.out.keep F2.out (fun q hq he => G1.out (he ▸ hq)), by rw [HM.out]; exact S2.out, G1.out, (F1.out.mono (fun k hk => Or.inl hk)).trans F2.out (fun k hk => .inl (.inr hk)), FT1.out⟩
  · have HM : Aside0 (sySM m (tell (outc d)) = m) := ⟨by unfold sySM; rw [if_neg hc]⟩
    by_cases h0 : tell (outc d) = 0
    · have hn : (tell (outc d) != 0) = false := by rw [h0]; rfl
      clear hc h0
      go_wp2
      go_ret
      exact ⟨rfl, _, v2', v3', D1.out, by rw [HM.out]; exact S1.out, G1.out, F1.out.mono (fun k hk => Or.inl hk), FT1.out⟩
    · have hn : (tell (outc d) != 0) = true := bne_iff_ne.mpr h0
      have hp : ¬ (m.ahead.length : Int) > 0 := by omega
      have hpb : decide (0 < (m.ahead.length : Int)) = false := decide_eq_false hp
      clear hc h0
      go_wp2
      go_ret
      exact ⟨rfl, _, v2', v3', D1.out, by rw [HM.out]; exact S1.out, G1.out, F1.out.mono (fun k hk => Or.inl hk), FT1.out⟩
theorem below_nil {w w1 : World} (hg : w.grownBy w1 (Value.ownBlock (.slice none 0 0))) : Below w.heap.size w w1 := (Below.refl _ _).grown hg (Nat.le_refl _) (fun k hk => by cases hk)
/-- A record of a row of them: its cells, its body. -/
theorem rec_at {w : World} {base : Nat} {ok : Nat → Prop} {A : Option Addr} {c : Nat} {l : List (List Int × Int)} (h : Kd.R kRec 81 w base ok (.slice A l.length c) l) (i : Nat) (hi : i < l.length) :
    ∃ g Ab cb, A = some ⟨g, 0, none⟩ ∧ w.cell? ⟨g, i * 2, none⟩ = some (.slice Ab (l.getD i ([], 0)).1.length cb) ∧ w.cell? ⟨g, i * 2 + 1, none⟩ = some (.int .i64 (l.getD i ([], 0)).2) ∧ Kd.R (Kd.int .u8) 5 w base ok (.slice Ab (l.getD i ([], 0)).1.length cb) (l.getD i ([], 0)).1 := by
  obtain ⟨g, cap, hv, _⟩ := Kd.R_form h (by omega)
  injection hv with hA _ _
  subst hA
  obtain ⟨cs, hl, hM, hc, _⟩ := Kd.R_elem h (([], 0) : List Int × Int) i (by omega) (by omega)
  rw [Int.toNat_natCast] at hM hc
  obtain ⟨c1, c2, rfl, ⟨v, rfl, hR⟩, h2⟩ := hM
  have h2 : c2 = [Value.int .i64 (l.getD i ([], 0)).2] := h2
  subst h2
  obtain ⟨Ab, cb, rfl⟩ := Kd.R_slice hR
  exact ⟨g, Ab, cb, rfl, hc 0 _ rfl, hc 1 _ rfl, Kd.R_mono hR (fun k hk => hk.1)⟩
set_option maxHeartbeats 2000000 in
set_option maxRecDepth 100000 in
theorem All_calls (w : World) (base gs gd : Nat) (ok : Nat → Prop) (v2 v3 : Value) (m : SM) (h : SV w base ok gs gd v2 v3 m) (hn : m.recs.length ≤ 1000000) (hl : ∀ r ∈ m.recs, r.1.length ≤ 1000) :
    Calls Try.prog 27 #[.pointer (some ⟨gs, 0, none⟩)] w fun e w' => ∃ v, e = .returned v ∧ Kd.R kL 23 w' w.heap.size (fun _ => True) v (m.recs.map (·.1)) ∧ Below w.heap.size w w' := by
  have HR := Aside0.mk h.recs
  have HN := Aside0.mk hn
  have HL := Aside0.mk hl
  obtain ⟨A3, c3, rfl⟩ := Kd.R_slice h.recs
  have k3 : w.cell? ⟨gs, 3, none⟩ = some (.slice A3 m.recs.length c3) := blk_cell h.blk 3
  clear h hn hl
  go_enter Try.func27, Try.ntmps27
  go_upto_region 5 with fail
  go_loopg [3, 13] m.recs.length (fun q v3 v13 wr => ∃ i : Nat, v13 = .int .i64 (i : Int) ∧ Aside0 (i + q = m.recs.length) ∧ Aside0 (Kd.R kL 23 wr w.heap.size (fun _ => True) v3 ((m.recs.take i).map (·.1))) ∧ Aside0 (Below w.heap.size w wr))
  case atStart => exact ⟨0, rfl, ⟨by omega⟩, ⟨Kd.R_nil _ _ _ _ _⟩, ⟨Below.refl _ _⟩⟩
  case round =>
    obtain ⟨i, rfl, Hi, RA, BA⟩ := hrel
    cases gk with
    | zero =>
      have hlt : ¬ ((i : Int) < (m.recs.length : Int)) := by have := Hi.out; omega
      have hlb := decide_eq_false hlt
      have HT : Aside0 (m.recs.take i = m.recs) := ⟨List.take_of_length_le (by have := Hi.out; omega)⟩
      go_wp2
      go_ret
      exact ⟨u3, rfl, by have h := RA.out; rw [HT.out] at h; exact h, BA.out⟩
    | succ q =>
      have hlt : (i : Int) < (m.recs.length : Int) := by have := Hi.out; omega
      have hlb := decide_eq_true hlt
      have hi0 : (0 : Int) ≤ i ∧ (i : Int) < (m.recs.length : Int) := ⟨by omega, hlt⟩
      have hil : (i : Int) ≤ 1000000 := by have := HN.out; omega
      obtain ⟨g, Ab, cb, hA, x0, x1, RX⟩ := rec_at HR.out i (by omega)
      subst hA
      have HTS : Aside0 ((m.recs.take (i + 1)).map (·.1) = (m.recs.take i).map (·.1) ++ [(m.recs.getD i ([], 0)).1]) := ⟨by
        have hi' : i < m.recs.length := by omega
        rw [List.take_add_one, List.getElem?_eq_getElem hi', Option.toList_some, List.map_append, List.getD_eq_getElem?_getD, List.getElem?_eq_getElem hi']
        rfl⟩
      have HXL : Aside0 ((m.recs.getD i ([], 0)).1.length ≤ 1000) := ⟨HL.out _ (by
        have hi' : i < m.recs.length := by omega
        rw [List.getD_eq_getElem?_getD, List.getElem?_eq_getElem hi']
        exact List.getElem_mem hi')⟩
      have RXC := Aside0.mk (Kd.C_below (Kd.R_reads' RX).2.2 BA.out)
      have y0 := pw_cell_below BA.out x0
      have y1 := pw_cell_below BA.out x1
      obtain ⟨A4, c4, ev⟩ := Kd.R_slice RA.out
      subst ev
      have HAL : Aside0 ((((m.recs.take i).map (·.1)).length + 1) * 24 ≤ 140737488355328) := ⟨by rw [List.length_map, List.length_take]; have := HN.out; omega⟩
      clear RX x0 x1
      obtain ⟨x, hx⟩ : ∃ x, (m.recs.getD i ([], 0)).1 = x := ⟨_, rfl⟩
      obtain ⟨n2, hn2⟩ : ∃ x, (m.recs.getD i ([], 0)).2 = x := ⟨_, rfl⟩
      rw [hx] at y0 HTS HXL RXC
      rw [hn2] at y1
      clear hx hn2
      obtain ⟨acc, hacc⟩ : ∃ acc, (m.recs.take i).map (·.1) = acc := ⟨_, rfl⟩
      rw [hacc] at RA HTS HAL
      rw [hacc]
      clear hacc
      have BA1 := Aside0.mk (Below.alloc BA.out BA.out.size (.cells #[.slice Ab x.length cb, .int .i64 n2] 81))
      have CX1 := Aside0.mk (Kd.C_below RXC.out (below_alloc (Below.refl _ _) (.cells #[.slice Ab x.length cb, .int .i64 n2] 81)))
      have RA1 := Aside0.mk (Kd.R_alloc RA.out (.cells #[.slice Ab x.length cb, .int .i64 n2] 81))
      go_upto_region 8 with (first
        | ((with_reducible refine gate_builtin (b := .append) (xs := #[.const (.slice none 0 0), .tmp 19]) rfl ?_); at_builtin; refine Kd.R_append_row (Value.int .u8) (0 : Int) (w0 := w) w.heap.size rfl (.const (.slice none 0 0)) (.tmp 19) 23 5 (.int .u8 0) 1 rfl Try.underlying23 infoU rfl (Nat.succ_pos _) (.slice none 0 0) [] x Ab x.length cb (fun k => (wr.alloc (.cells #[.slice Ab x.length cb, .int .i64 n2] 81)).heap.size ≤ k) rfl rfl (fun _ h_ => h_) (Kd.R_nil _ _ _ _ _) CX1.out BA1.out BA1.out.size (by have := HXL.out; rw [List.length_nil]; omega) ?_; intro v6 w6 hr_ hb_ hg_ _; rw [List.nil_append] at hr_; have R6 := Aside0.mk hr_; have B6 := Aside0.mk hb_; have RA6 := Aside0.mk (Kd.R_below RA1.out (below_nil hg_)); obtain ⟨A6, c6, ev⟩ := Kd.R_slice hr_; subst ev; clear hr_ hb_ hg_)
        | ((with_reducible refine gate_builtin (b := .append) (xs := #[.tmp 17, .tmp 21]) rfl ?_); at_builtin; refine Kd.R_append kL (w0 := w) w.heap.size rfl (.tmp 17) (.tmp 21) 40 23 (.slice none 0 0) 24 rfl Try.underlying40 infoL rfl (by decide) (by decide) (.slice A4 acc.length c4) acc x [.slice A6 x.length c6] (fun _ => True) (fun k => (wr.alloc (.cells #[.slice Ab x.length cb, .int .i64 n2] 81)).heap.size ≤ k) rfl rfl (kL_mk R6.out) (fun k hk => ⟨trivial, fun he => by have := R_own_lt RA1.out k he.symm; omega⟩) (fun _ _ => trivial) RA6.out B6.out B6.out.size HAL.out ?_; intro v8 w8 hr_ hb_ _ _; have R8 := Aside0.mk hr_; have B8 := Aside0.mk hb_; clear hr_ hb_))
      go_wp2
      go_roundg q
      case measure => omega
      case rel => exact ⟨i + 1, by go_num, ⟨by have := Hi.out; omega⟩, ⟨by rw [HTS.out]; exact R8.out⟩, B8⟩
end Go.Proofs.Ytldddinebhopcaa.St
