/- Crc: octet's and the document's. -/
import Derived.Laws.BitsAll
import Derived.Laws.Closers25b
import Derived.Test.YtldddinebhopcaaOctP
import Derived.Test.YtldddinebhopcaaAr
namespace Go.Proofs.Ytldddinebhopcaa.St
open Go.RowKit Go.Proofs.YtldddinebhopcaaW.PrintWords Go.Proofs.YtldddinebhopcaaW.PrintLast Go.Proofs.YtldddinebhopcaaW.PrintMore Go.Proofs.Ytldddinebhopcaa.Bs Go.Proofs.Ytldddinebhopcaa.Fr Go.Proofs.Ytldddinebhopcaa.Oct
set_option linter.unusedVariables false
set_option linter.unusedSimpArgs false

theorem at_one {w : World} {A : Option Addr} {b : List Int} (hC : Kd.C (Kd.int .u8) w A b.length b) (i : Int) (h0 : 0 ≤ i) (h1 : i < b.length) : ∃ ad, A = some ad ∧ w.cell? (ad.add i.toNat) = some (.int .u8 (rd b i)) :=
  (Kd.reads_of_C (d := (0 : Int)) hC).at_ i h0 h1
/-- One bit of the register, eight of them, a byte. -/
def bitC (x : Int) : Int := if x % 2 = 1 then Go.bits .xor .u32 (x / 2) 3988292384 else x / 2
def bitsC : Nat → Int → Int
  | 0, x => x
  | n + 1, x => bitC (bitsC n x)
def byteC (r c : Int) : Int := bitsC 8 (Go.bits .xor .u32 r c)
def crcR : List Int → Int → Int
  | [], r => r
  | c :: l, r => crcR l (byteC r c)
def crcN (l : List Int) : Int := Go.bits .xor .u32 IntKind.u32.max (crcR l 4294967295)
theorem bitC_range (x : Int) (h : 0 ≤ x ∧ x ≤ 4294967295) : 0 ≤ bitC x ∧ bitC x ≤ 4294967295 := by
  unfold bitC
  split
  · exact bits_within .xor .u32 _ _
  · omega
theorem bitsC_range (x : Int) (h : 0 ≤ x ∧ x ≤ 4294967295) : ∀ n, 0 ≤ bitsC n x ∧ bitsC n x ≤ 4294967295
  | 0 => h
  | n + 1 => bitC_range _ (bitsC_range x h n)
theorem xor_range (r c : Int) : 0 ≤ Go.bits .xor .u32 r c ∧ Go.bits .xor .u32 r c ≤ 4294967295 := bits_within .xor .u32 r c
theorem byteC_range (r c : Int) : 0 ≤ byteC r c ∧ byteC r c ≤ 4294967295 := bitsC_range _ (xor_range r c) 8
theorem crcR_range (l : List Int) : ∀ r, 0 ≤ r ∧ r ≤ 4294967295 → 0 ≤ crcR l r ∧ crcR l r ≤ 4294967295 := by
  induction l with
  | nil => intro r h; exact h
  | cons c l ih => intro r _; exact ih _ (byteC_range r c)
theorem crcN_range (l : List Int) : 0 ≤ crcN l ∧ crcN l ≤ 4294967295 := bits_within .xor .u32 _ _
theorem crcR_app (l k : List Int) : ∀ r, crcR (l ++ k) r = crcR k (crcR l r) := by
  induction l with
  | nil => intro r; rfl
  | cons c l ih => intro r; exact ih _
theorem and_one (x : Int) (h : 0 ≤ x ∧ x ≤ 4294967295) : Go.bits .and .u32 x 1 = x % 2 := by
  rw [u32_and _ _ (by omega) (by omega) (by omega) (by omega)]
  obtain ⟨m, rfl⟩ := Int.eq_ofNat_of_zero_le h.1
  rw [show (1 : Int).toNat = 1 from rfl, Int.toNat_natCast, Nat.and_one_is_mod]
  omega
theorem xor_nought (x : Int) (h : 0 ≤ x ∧ x ≤ 4294967295) : Go.bits .xor .u32 x 0 = x := by
  rw [u32_xor _ _ (by omega) (by omega) (by omega) (by omega)]
  obtain ⟨m, rfl⟩ := Int.eq_ofNat_of_zero_le h.1
  rw [show (0 : Int).toNat = 0 from rfl, Int.toNat_natCast, Nat.xor_zero]
theorem bit_eq (x : Int) (h : 0 ≤ x ∧ x ≤ 4294967295) : Go.bits .xor .u32 (x / 2) (Go.bits .and .u32 3988292384 (-Go.bits .and .u32 x 1 % 4294967296)) = bitC x := by
  rw [and_one x h]
  unfold bitC
  split
  · rename_i h1
    rw [h1, show Go.bits .and .u32 3988292384 (-1 % 4294967296) = 3988292384 by decide]
  · rename_i h1
    rw [show x % 2 = 0 by omega, show Go.bits .and .u32 3988292384 (-0 % 4294967296) = 0 by decide]
    exact xor_nought _ (by omega)
set_option maxHeartbeats 1000000 in
set_option maxRecDepth 100000 in
theorem step_calls (g : Nat) (t : TypeId) (r c : Int) (w : World) (hr : 0 ≤ r ∧ r ≤ 4294967295) (hc : 0 ≤ c ∧ c ≤ 255) (hg : w.heap[g]? = some (.cells #[.int .u32 r] t (0, 0))) :
    Calls Try.prog 59 #[.pointer (some ⟨g, 0, none⟩), .int .u8 c] w fun e w' => (∃ v, e = .returned v) ∧ w'.heap[g]? = some (.cells #[.int .u32 (byteC r c)] t (0, 0)) ∧ Fr w w' (fun k => k = g) := by
  have kg : w.cell? ⟨g, 0, none⟩ = some (.int .u32 r) := blk_cell hg 0
  have fg : w.frozen? ⟨g, 0, none⟩ = false := blk_frozen hg 0
  have HG := Aside0.mk hg
  clear hg
  go_enter Try.func59, Try.ntmps59
  go_upto_region 2 with fail
  obtain ⟨x0, hx0⟩ : ∃ x0, Go.bits .xor .u32 r c = x0 := ⟨_, rfl⟩
  rw [hx0]
  have HX0 := Aside0.mk hx0
  have X0R : Aside0 (0 ≤ x0 ∧ x0 ≤ 4294967295) := ⟨by rw [← hx0]; exact xor_range r c⟩
  clear hx0
  go_loopg [4, 11] 8 (fun q v4 v11 wr => ∃ i : Nat, v4 = .int .u32 (bitsC i x0) ∧ v11 = .int .i64 (i : Int) ∧ Aside0 (i + q = 8) ∧ wr = w)
  case atStart => exact ⟨0, rfl, rfl, ⟨by omega⟩, rfl⟩
  case round =>
    obtain ⟨i, rfl, rfl, Hi, rfl⟩ := hrel
    obtain ⟨x, hx⟩ : ∃ x, bitsC i x0 = x := ⟨_, rfl⟩
    rw [hx]
    have HX := Aside0.mk hx
    have XR : Aside0 (0 ≤ x ∧ x ≤ 4294967295) := ⟨by rw [← hx]; exact bitsC_range x0 X0R.out i⟩
    have hxr := XR.out
    clear hx
    cases gk with
    | zero =>
      have hlt : ¬ ((i : Int) < 8) := by have := Hi.out; omega
      have hlb := decide_eq_false hlt
      have HF : Aside0 (x = byteC r c) := ⟨by rw [← HX.out, show i = 8 by have := Hi.out; omega, ← HX0.out]; rfl⟩
      go_wp2
      go_end0
      exact ⟨⟨_, rfl⟩, by rw [← HF.out]; exact blk_put HG.out 0 _ rfl, (Fr.refl _ (fun k => k = g)).set (Or.inl rfl) _⟩
    | succ q =>
      have hlt : (i : Int) < 8 := by have := Hi.out; omega
      have hlb := decide_eq_true hlt
      go_wp2
      go_roundg q
      case measure => omega
      case rel => exact ⟨i + 1, by rw [bit_eq x XR.out, ← HX.out]; rfl, by go_num, ⟨by have := Hi.out; omega⟩, rfl⟩
set_option maxHeartbeats 1000000 in
set_option maxRecDepth 100000 in
theorem Crc_calls (A : Option Addr) (c : Nat) (l : List Int) (w : World) (hC : Kd.C (Kd.int .u8) w A l.length l) (hc : l.length ≤ c) (hm : l.length ≤ 1000000) (hB : Byt l) :
    Calls Try.prog 39 #[.slice A l.length c] w fun e w' => e = .returned (.int .u32 (crcN l)) ∧ Below w.heap.size w w' := by
  have HC := Aside0.mk hC
  have HB := Aside0.mk hB
  clear hC hB
  go_enter Try.func39, Try.ntmps39
  go_upto_region 4 with fail
  have X0 := Aside0.mk (blk_new w (.cells #[.int .u32 4294967295] 108))
  have B0 := Aside0.mk (below_alloc (Below.refl w.heap.size w) (.cells #[.int .u32 4294967295] 108))
  go_loopg [10] l.length (fun q v10 wr => ∃ i : Nat, v10 = .int .i64 (i : Int) ∧ Aside0 (i + q = l.length) ∧ Aside0 (wr.heap[w.heap.size]? = some (.cells #[.int .u32 (crcR (l.take i) 4294967295)] 108 (0, 0))) ∧ Aside0 (Below w.heap.size w wr))
  case atStart => exact ⟨0, rfl, ⟨by omega⟩, X0, B0⟩
  case round =>
    clear X0 B0
    obtain ⟨i, rfl, Hi, XR, BR⟩ := hrel
    obtain ⟨r, hr⟩ : ∃ r, crcR (l.take i) 4294967295 = r := ⟨_, rfl⟩
    rw [hr] at XR
    have RR : Aside0 (0 ≤ r ∧ r ≤ 4294967295) := ⟨by rw [← hr]; exact crcR_range _ _ (by omega)⟩
    have HR := Aside0.mk hr
    clear hr
    cases gk with
    | zero =>
      have hlt : ¬ ((i : Int) < (l.length : Int)) := by have := Hi.out; omega
      have hlb := decide_eq_false hlt
      have k0 : wr.cell? ⟨w.heap.size, 0, none⟩ = some (.int .u32 r) := blk_cell XR.out 0
      have HF : Aside0 (Go.bits .xor .u32 IntKind.u32.max r = crcN l) := ⟨by unfold crcN; rw [← HR.out, List.take_of_length_le (by have := Hi.out; omega)]⟩
      have hrr := RR.out
      have hsg : IntKind.u32.signed = false := rfl
      go_wp2
      go_ret
      exact ⟨by rw [← HF.out]; rfl, BR.out⟩
    | succ q =>
      have hlt : (i : Int) < (l.length : Int) := by have := Hi.out; omega
      have hlb := decide_eq_true hlt
      have hi0 : (0 : Int) ≤ i ∧ (i : Int) < (l.length : Int) := ⟨by omega, hlt⟩
      have hil : (i : Int) ≤ 1000000 := by omega
      obtain ⟨ad, e1, cb⟩ := at_one HC.out (i : Int) (by omega) hlt
      subst e1
      rw [Int.toNat_natCast] at cb
      have cb1 := pw_cell_below BR.out cb
      have HX := Aside0.mk (HB.out.rd i)
      have HT : Aside0 (crcR (l.take (i + 1)) 4294967295 = byteC r (rd l i)) := ⟨by rw [take_snoc_rd l i (by omega), crcR_app, HR.out]; rfl⟩
      clear cb
      go_wp2_with fail
      refine (step_calls w.heap.size _ r (rd l i) wr RR.out HX.out XR.out).mono ?_
      rintro e w5 ⟨⟨v5, rfl⟩, x5, f5⟩
      have X5 := Aside0.mk x5
      have B5 := Aside0.mk (below_fr BR.out BR.out.size f5 (fun k hk => by rw [hk]; exact Nat.le_refl _))
      clear x5 f5 cb1
      go_wp2
      go_roundg q
      case measure => omega
      case rel => exact ⟨i + 1, by go_num, ⟨by have := Hi.out; omega⟩, ⟨by rw [HT.out]; exact X5.out⟩, B5⟩
set_option maxHeartbeats 1000000 in
set_option maxRecDepth 100000 in
theorem RCrc_calls (A : Option Addr) (c : Nat) (l : List Int) (w : World) (hC : Kd.C (Kd.int .u8) w A l.length l) (hc : l.length ≤ c) (hm : l.length ≤ 1000000) (hB : Byt l) :
    Calls Try.prog 47 #[.slice A l.length c] w fun e w' => e = .returned (.int .u32 (crcN l)) ∧ w = w' := by
  have HC := Aside0.mk hC
  have HB := Aside0.mk hB
  clear hC hB
  go_enter Try.func47, Try.ntmps47
  go_upto_region 3 with fail
  go_loopg [3, 4] l.length (fun q v3 v4 wr => ∃ i : Nat, v3 = .int .u32 (crcR (l.take i) 4294967295) ∧ v4 = .int .i64 (i : Int) ∧ Aside0 (i + q = l.length) ∧ wr = w)
  case atStart => exact ⟨0, rfl, rfl, ⟨by omega⟩, rfl⟩
  case round =>
    obtain ⟨i, rfl, rfl, Hi, rfl⟩ := hrel
    obtain ⟨r, hr⟩ : ∃ r, crcR (l.take i) 4294967295 = r := ⟨_, rfl⟩
    rw [hr]
    have RR : Aside0 (0 ≤ r ∧ r ≤ 4294967295) := ⟨by rw [← hr]; exact crcR_range _ _ (by omega)⟩
    have HR := Aside0.mk hr
    clear hr
    cases gk with
    | zero =>
      have hlt : ¬ ((i : Int) < (l.length : Int)) := by have := Hi.out; omega
      have hlb := decide_eq_false hlt
      have HF : Aside0 (Go.bits .xor .u32 IntKind.u32.max r = crcN l) := ⟨by unfold crcN; rw [← HR.out, List.take_of_length_le (by have := Hi.out; omega)]⟩
      have hrr := RR.out
      have hsg : IntKind.u32.signed = false := rfl
      go_wp2
      go_ret
      exact ⟨by rw [← HF.out]; rfl, rfl⟩
    | succ q =>
      have hlt : (i : Int) < (l.length : Int) := by have := Hi.out; omega
      have hlb := decide_eq_true hlt
      have hi0 : (0 : Int) ≤ i ∧ (i : Int) < (l.length : Int) := ⟨by omega, hlt⟩
      have hil : (i : Int) ≤ 1000000 := by omega
      obtain ⟨ad, e1, cb⟩ := at_one HC.out (i : Int) (by omega) hlt
      subst e1
      rw [Int.toNat_natCast] at cb
      have HX := Aside0.mk (HB.out.rd i)
      have HT : Aside0 (crcR (l.take (i + 1)) 4294967295 = byteC r (rd l i)) := ⟨by rw [take_snoc_rd l i (by omega), crcR_app, HR.out]; rfl⟩
      have hx := HX.out
      go_upto_region 7 with fail
      obtain ⟨x0, hx0⟩ : ∃ x0, Go.bits .xor .u32 r (rd l i) = x0 := ⟨_, rfl⟩
      rw [hx0]
      have HX0 := Aside0.mk hx0
      have X0R : Aside0 (0 ≤ x0 ∧ x0 ≤ 4294967295) := ⟨by rw [← hx0]; exact xor_range r _⟩
      clear hx0 hx
      go_loopg [3, 5] 8 (fun p v3 v5 wq => ∃ j : Nat, v3 = .int .u32 (bitsC j x0) ∧ v5 = .int .i64 (j : Int) ∧ Aside0 (j + p = 8) ∧ wq = wr)
      case atStart => exact ⟨0, rfl, rfl, ⟨by omega⟩, rfl⟩
      case round =>
        obtain ⟨j, rfl, rfl, Hj, rfl⟩ := hrel
        obtain ⟨x, hx⟩ : ∃ x, bitsC j x0 = x := ⟨_, rfl⟩
        rw [hx]
        have HXJ := Aside0.mk hx
        have XR : Aside0 (0 ≤ x ∧ x ≤ 4294967295) := ⟨by rw [← hx]; exact bitsC_range x0 X0R.out j⟩
        have hxr := XR.out
        have hand := and_one x XR.out
        clear hx
        cases gk with
        | zero =>
          have hlj : ¬ ((j : Int) < 8) := by have := Hj.out; omega
          have hljb := decide_eq_false hlj
          have HF : Aside0 (x = byteC r (rd l i)) := ⟨by rw [← HXJ.out, show j = 8 by have := Hj.out; omega, ← HX0.out]; rfl⟩
          clear hand
          go_wp2
          go_roundg q
          case measure => omega
          case rel => exact ⟨i + 1, by rw [HT.out, ← HF.out], by go_num, ⟨by have := Hi.out; omega⟩, rfl⟩
        | succ p =>
          have hlj : (j : Int) < 8 := by have := Hj.out; omega
          have hljb := decide_eq_true hlj
          have hjl : (j : Int) ≤ 8 := by omega
          have HT2 : Aside0 (bitsC (j + 1) x0 = bitC x) := ⟨by rw [← HXJ.out]; rfl⟩
          by_cases hodd : x % 2 = 1
          · rw [hodd] at hand
            have HB2 : Aside0 (bitC x = Go.bits .xor .u32 (x / 2) 3988292384) := ⟨by unfold bitC; rw [if_pos hodd]⟩
            clear hodd
            go_wp2
            go_roundg p
            case measure => omega
            case rel => exact ⟨j + 1, by rw [HT2.out, HB2.out], by go_num, ⟨by have := Hj.out; omega⟩, rfl⟩
          · rw [show x % 2 = 0 by omega] at hand
            have HB2 : Aside0 (bitC x = x / 2) := ⟨by unfold bitC; rw [if_neg hodd]⟩
            clear hodd
            go_wp2
            go_roundg p
            case measure => omega
            case rel => exact ⟨j + 1, by rw [HT2.out, HB2.out], by go_num, ⟨by have := Hj.out; omega⟩, rfl⟩
end Go.Proofs.Ytldddinebhopcaa.St
