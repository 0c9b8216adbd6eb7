/- octet.Get: the number of some bytes. -/
import Derived.Test.YtpjkbokojlpjoaaBase
namespace Go.Proofs.Ytpjkbokojlpjoaa.Oct
open Go.RowKit Go.Proofs.YtpjkbokojlpjoaaW.PrintWords Go.Proofs.YtpjkbokojlpjoaaW.PrintLast Go.Proofs.YtpjkbokojlpjoaaW.PrintMore
set_option linter.unusedVariables false
set_option linter.unusedSimpArgs false

theorem info_u8 : (Try.prog.info? 5).map (fun i => (i.zero, i.size, i.bytes)) = some (some (.int .u8 0), 1, 1) := by kernel_rfl

/-- Bytes as a number, the highest first. -/
def beN (l : List Int) : Int := l.foldl (fun x c => x * 256 + c) 0
def Byt (l : List Int) : Prop := ∀ x ∈ l, 0 ≤ x ∧ x ≤ 255
theorem beN_snoc (l : List Int) (c : Int) : beN (l ++ [c]) = beN l * 256 + c := by simp [beN]
theorem Byt.take {l : List Int} (h : Byt l) (n : Nat) : Byt (l.take n) := fun x hx => h x (List.mem_of_mem_take hx)
theorem Byt.drop {l : List Int} (h : Byt l) (n : Nat) : Byt (l.drop n) := fun x hx => h x (List.mem_of_mem_drop hx)
theorem Byt.rd {l : List Int} (h : Byt l) (i : Nat) : 0 ≤ rd l i ∧ rd l i ≤ 255 := by
  unfold Go.Proofs.YtpjkbokojlpjoaaW.PrintWords.rd
  rw [List.getD_eq_getElem?_getD]
  by_cases hi : i < l.length
  · simp only [Int.toNat_natCast, List.getElem?_eq_getElem hi, Option.getD_some]
    exact h _ (List.getElem_mem hi)
  · simp only [Int.toNat_natCast, List.getElem?_eq_none (by omega : l.length ≤ i), Option.getD_none]
    omega
theorem rd_drop (l : List Int) (a i : Nat) : rd (l.drop a) i = rd l (a + i : Nat) := by
  have h1 : ((a : Int) + (i : Int)).toNat = a + i := by omega
  unfold rd; simp [List.getD_eq_getElem?_getD, h1]
theorem rd_take (l : List Int) (a i : Nat) (h : i < a) : rd (l.take a) i = rd l i := by
  unfold rd; simp [List.getD_eq_getElem?_getD, List.getElem?_take, h]
theorem beN_range {l : List Int} (h : Byt l) : 0 ≤ beN l ∧ beN l < 256 ^ l.length := by
  obtain ⟨n, hn⟩ : ∃ n, n = l.length := ⟨_, rfl⟩
  induction n generalizing l with
  | zero =>
    have : l = [] := List.length_eq_zero_iff.mp hn.symm
    subst this; simp [beN]
  | succ n ih =>
    obtain ⟨l', c, rfl⟩ : ∃ l' c, l = l' ++ [c] := ⟨l.dropLast, l.getLast (by intro e; simp [e] at hn), (List.dropLast_concat_getLast _).symm⟩
    have h1 := ih (fun x hx => h x (List.mem_append_left _ hx)) (by simpa using hn)
    have h2 := h c (by simp)
    rw [beN_snoc, List.length_append, List.length_singleton, Int.pow_succ]
    omega
theorem take_snoc_rd (l : List Int) (i : Nat) (h : i < l.length) : l.take (i + 1) = l.take i ++ [rd l i] := by
  rw [List.take_succ_eq_append_getElem h]
  congr 2
  unfold rd; simp [List.getD_eq_getElem?_getD, List.getElem?_eq_getElem h]
theorem pow_le (n : Nat) (h : n ≤ 7) : (256 : Int) ^ n ≤ 72057594037927936 := by
  have : n = 0 ∨ n = 1 ∨ n = 2 ∨ n = 3 ∨ n = 4 ∨ n = 5 ∨ n = 6 ∨ n = 7 := by omega
  rcases this with rfl | rfl | rfl | rfl | rfl | rfl | rfl | rfl <;> decide
theorem or_byte (x c : Int) (hx : 0 ≤ x ∧ x < 72057594037927936) (hc : 0 ≤ c ∧ c ≤ 255) : Go.bits .or .u64 (x * 256) c = x * 256 + c := by
  rw [u64_or _ _ (by omega) (by omega) (by omega) (by omega)]
  obtain ⟨m, rfl⟩ := Int.eq_ofNat_of_zero_le hx.1
  obtain ⟨n, rfl⟩ := Int.eq_ofNat_of_zero_le hc.1
  have h3 : ((m : Int) * 256).toNat = 2 ^ 8 * m := by omega
  rw [h3, Int.toNat_natCast, ← Nat.two_pow_add_eq_or_of_lt (by omega : n < 2 ^ 8)]
  omega

/-- Do so many bytes stand there? -/
def mayB (len : Nat) (at_ n : Int) : Bool := decide (1 ≤ n ∧ n ≤ 8 ∧ 0 ≤ at_ ∧ at_ + n ≤ (len : Int))
def getV (l : List Int) (at_ n : Int) : Int := if mayB l.length at_ n = true then beN ((l.drop at_.toNat).take n.toNat) else 0
set_option maxHeartbeats 1000000 in
set_option maxRecDepth 100000 in
theorem may_calls (A : Option Addr) (m c : Nat) (at_ n : Int) (hm : m ≤ 140737488351232) (w : World) :
    Calls Try.prog 44 #[.slice A m c, .int .i64 at_, .int .i64 n] w fun e w' => e = .returned (.bool (mayB m at_ n)) ∧ w = w' := by
  by_cases h1 : 1 ≤ n
  · by_cases h2 : n ≤ 8
    · by_cases h3 : 0 ≤ at_
      · have h1b := decide_eq_true h1
        have h2b := decide_eq_true h2
        have h3b := decide_eq_true h3
        have hfin : Aside0 (mayB m at_ n = decide (at_ ≤ (m : Int) - n)) := ⟨by unfold mayB; apply decide_eq_decide.mpr; omega⟩
        go_enter Try.func44, Try.ntmps44
        go_wp2
        go_ret
        exact ⟨by rw [hfin.out]; rfl, rfl⟩
      · have h1b := decide_eq_true h1
        have h2b := decide_eq_true h2
        have h3b := decide_eq_false h3
        have hfin : Aside0 (mayB m at_ n = false) := ⟨by unfold mayB; apply decide_eq_false; omega⟩
        go_enter Try.func44, Try.ntmps44
        go_wp2
        go_ret
        exact ⟨by rw [hfin.out]; rfl, rfl⟩
    · have h1b := decide_eq_true h1
      have h2b := decide_eq_false h2
      have hfin : Aside0 (mayB m at_ n = false) := ⟨by unfold mayB; apply decide_eq_false; omega⟩
      go_enter Try.func44, Try.ntmps44
      go_wp2
      go_ret
      exact ⟨by rw [hfin.out]; rfl, rfl⟩
  · have h1b := decide_eq_false h1
    have hfin : Aside0 (mayB m at_ n = false) := ⟨by unfold mayB; apply decide_eq_false; omega⟩
    go_enter Try.func44, Try.ntmps44
    go_wp2
    go_ret
    exact ⟨by rw [hfin.out]; rfl, rfl⟩
theorem getV_of {l : List Int} {at_ n : Int} (h : mayB l.length at_ n = true) : getV l at_ n = beN ((l.take (at_ + n).toNat).drop at_.toNat) := by
  unfold getV; rw [if_pos h]
  unfold mayB at h
  have h := of_decide_eq_true h
  congr 1
  rw [List.drop_take]
  congr 1
  omega
set_option maxHeartbeats 1000000 in
set_option maxRecDepth 100000 in
theorem Get_calls (A : Option Addr) (c : Nat) (l : List Int) (at_ n : Int) (w : World) (hC : Kd.C (Kd.int .u8) w A l.length l) (hc : l.length ≤ c) (hm : l.length ≤ 140737488351232) (hl : Byt l) :
    Calls Try.prog 32 #[.slice A l.length c, .int .i64 at_, .int .i64 n] w fun e w' => e = .returned (.tuple #[.int .u64 (getV l at_ n), .bool (mayB l.length at_ n)]) ∧ w = w' := by
  obtain ⟨y, hy⟩ : ∃ y, y = mayB l.length at_ n := ⟨_, rfl⟩
  have HY := Aside0.mk hy
  cases y with
  | false =>
    have hv : Aside0 (getV l at_ n = 0) := ⟨by unfold getV; rw [← hy]; rfl⟩
    rw [← hy]
    clear hy
    go_enter Try.func32, Try.ntmps32
    go_wp2_with (go_at_call 44; refine (may_calls A l.length c at_ n hm _).mono ?_; rintro e w' ⟨rfl, rfl⟩; rw [← HY.out])
    go_ret2
    exact ⟨by rw [hv.out]; rfl, rfl⟩
  | true =>
    obtain ⟨h1, h2, h3, h4⟩ : 1 ≤ n ∧ n ≤ 8 ∧ 0 ≤ at_ ∧ at_ + n ≤ (l.length : Int) := by
      have h0 := hy
      unfold mayB at h0
      exact of_decide_eq_true h0.symm
    have hv : Aside0 (getV l at_ n = beN ((l.take (at_ + n).toNat).drop at_.toNat)) := ⟨getV_of hy.symm⟩
    obtain ⟨i0, hi, hz0, hz1, hz2⟩ := info_parts info_u8
    obtain ⟨A', hcut, hcA, hcL⟩ := print_mid_of (P := Try.prog) (Value.int .u8) 0 22 5 .i64 .i64 Try.underlying22 hi hz1 A c l at_ (at_ + n) h3 (by omega) (by omega) hc
    have hRd := hcA w (Kd.reads_of_C (d := (0 : Int)) hC)
    have hbs : Byt ((l.take (at_ + n).toNat).drop at_.toNat) := (hl.take _).drop _
    have hsl : ((l.take (at_ + n).toNat).drop at_.toNat).length ≤ 8 := by rw [List.length_drop, List.length_take]; omega
    generalize (l.take (at_ + n).toNat).drop at_.toNat = s at hcut hRd hv hbs hsl
    rw [← hy]
    have HR := Aside0.mk hRd
    have HBS := Aside0.mk hbs
    have HM := Aside0.mk hm
    clear hy hC hcA hcL hRd hbs hl hi hz0 hz1 hz2
    go_enter Try.func32, Try.ntmps32
    go_wp2_with (go_at_call 44; refine (may_calls A l.length c at_ n HM.out _).mono ?_; rintro e w' ⟨rfl, rfl⟩; rw [← HY.out])
    go_loopg [8, 23] s.length (fun q v8 v23 wr => ∃ i : Nat, v23 = .int .i64 i ∧ v8 = .int .u64 (beN (s.take i)) ∧ Aside0 (i + q = s.length) ∧ wr = w)
    case atStart => exact ⟨0, rfl, rfl, ⟨by omega⟩, rfl⟩
    case round =>
      obtain ⟨i, rfl, rfl, Hi, rfl⟩ := hrel
      cases gk with
      | zero =>
        have hlt : ¬ ((i : Int) < (s.length : Int)) := by have := Hi.out; omega
        have hlb := decide_eq_false hlt
        have hfin : Aside0 (beN (s.take i) = getV l at_ n) := ⟨by rw [hv.out, List.take_of_length_le (by omega)]⟩
        clear hv
        go_wp2
        go_ret2
        exact ⟨by rw [← hfin.out]; rfl, rfl⟩
      | succ q =>
        have hlt : (i : Int) < (s.length : Int) := by have := Hi.out; omega
        have hi0 : (0 : Int) ≤ i := by omega
        have hlb := decide_eq_true hlt
        obtain ⟨ad, e1, hcell⟩ := HR.out.at_ i hi0 hlt
        subst e1
        have hr := HBS.out.rd i
        have hx := beN_range (HBS.out.take i)
        have hxp := pow_le i (by omega)
        have hx7 : 0 ≤ beN (s.take i) ∧ beN (s.take i) < 72057594037927936 := by
          rw [List.length_take, Nat.min_eq_left (by omega)] at hx; omega
        have hor := or_byte _ _ hx7 hr
        have hst : Aside0 (beN (s.take (i + 1)) = beN (s.take i) * 256 + rd s i) := ⟨by rw [take_snoc_rd _ _ (by omega), beN_snoc]⟩
        have hcell' : wr.cell? (ad.add i) = some (.int .u8 (rd s i)) := hcell
        generalize beN (s.take i) = x at *
        generalize rd s i = cc at *
        clear hx hxp hcell
        go_wp2
        go_roundg q
        case measure => omega
        case rel => exact ⟨i + 1, by go_num, by rw [hst.out], ⟨by have := Hi.out; omega⟩, rfl⟩
end Go.Proofs.Ytpjkbokojlpjoaa.Oct
