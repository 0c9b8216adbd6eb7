/- ask.Read: an answer; a request too short; AskKnown. -/
import Derived.Test.YtpjkbokojlpjoaaAsk9
namespace Go.Proofs.Ytpjkbokojlpjoaa.Ak
open Go.RowKit Go.Proofs.YtpjkbokojlpjoaaW.PrintWords Go.Proofs.YtpjkbokojlpjoaaW.PrintLast Go.Proofs.YtpjkbokojlpjoaaW.PrintMore Go.Proofs.Ytpjkbokojlpjoaa.Bs Go.Proofs.Ytpjkbokojlpjoaa.Fr Go.Proofs.Ytpjkbokojlpjoaa.Oct
open Go.Proofs.Ytpjkbokojlpjoaa.PAskAnswers
set_option linter.unusedVariables false
set_option linter.unusedSimpArgs false

theorem and_128' (x : Int) (h0 : 128 ≤ x) (h1 : x ≤ 255) : Go.bits .and .u8 x 128 = 128 := by
  obtain ⟨n, rfl⟩ := Int.eq_ofNat_of_zero_le (show 0 ≤ x - 128 by omega) |>.imp (fun n h => show x = ((n + 128 : Nat) : Int) by omega)
  have hn : n < 128 := by omega
  have : ∀ n : Fin 128, Go.bits .and .u8 (((n.val + 128 : Nat)) : Int) 128 = 128 := by decide
  exact this ⟨n, hn⟩
set_option maxHeartbeats 1000000 in
set_option maxRecDepth 100000 in
theorem Read_answer (A : Option Addr) (c : Nat) (b : List Int) (fm : Int) (w : World) (hC : Kd.C (Kd.int .u8) w A b.length b) (hl : 2 ≤ b.length) (h0 : 128 ≤ rd b 1) (h1 : rd b 1 ≤ 255) :
    Calls Try.prog 9 #[.slice A b.length c, .int .u32 fm] w fun e w' => e = .returned (.tuple #[az.val, .int .i64 0, .bool false]) ∧ Below w.heap.size w w' := by
  obtain ⟨ad, e1, c1⟩ := at_one hC 1 (by omega) (by omega)
  subst e1
  have c1' : (W0 w fm).cell? ⟨ad.block, ad.off + 1, none⟩ = some (.int .u8 (rd b 1)) := pw_cell_below (W0_below w fm) c1
  have hn1 : (0 : Int) ≤ 1 ∧ (1 : Int) < (b.length : Int) := ⟨by omega, by omega⟩
  have hand := and_128' (rd b 1) h0 h1
  have hnz : ((128 : Int) != 0) = true := rfl
  have hlt : ¬ (b.length : Int) < 2 := by omega
  have hlb := decide_eq_false hlt
  unfold W0 at c1'
  clear hC c1
  have h29 := z29
  have hb29 := b29
  go_enter_defers Try.func9, Try.ntmps9
  go_upto_region 2 with fail
  clear c1' hn1 hand hlt hlb hnz
  show Code.wp _ _ _ _ (W0 w fm)
  have X0 := Aside0.mk (W0_res w fm)
  have B0 := Aside0.mk (W0_below w fm)
  generalize W0 w fm = w1 at *
  go_wp2_with (refine wp_fill rfl 29 (.tmp 4) (.tmp 21) rfl (w.heap.size + 1) _ 29 az.cells X0.out.ask rfl rfl (AM.len az_ok).symm.symm (by rw [info29]; rfl) (AM.one az_ok) ?_; intro w3 hx3 hf3; have R3 := Aside0.mk (Res.after X0.out hx3 hf3); have F3 := Aside0.mk hf3; have k5 := R3.out.k5; have f5 := R3.out.f5; have k6 := R3.out.k6; have f6 := R3.out.f6; clear hx3 hf3)
  refine ⟨_, results_ask rfl _ _ (w.heap.size + 1) (w.heap.size + 1 + 1) (w.heap.size + 1 + 1 + 1) az.cells _ _ _ _ rfl rfl rfl (R3.out.set 0 false).ask (AM.len az_ok) (R3.out.set 0 false).k5 (R3.out.set 0 false).k6, rfl, ?_⟩
  have h0 := below_fr B0.out B0.out.size F3.out (fun k hk => by omega)
  exact (h0.setCell (by show w.heap.size ≤ w.heap.size + 1 + 1; omega) _).setCell (by show w.heap.size ≤ w.heap.size + 1 + 1 + 1; omega) _
set_option maxHeartbeats 1000000 in
set_option maxRecDepth 100000 in
theorem head_bad (g : Nat) (A : Option Addr) (c : Nat) (m : AM) (b : List Int) (w : World) (h : RB w g A b.length c m) (hC : Kd.C (Kd.int .u8) w A b.length b) (hl : 2 ≤ b.length) (hb : rd b (0 : Nat) = 2) (hs : b.length < 24) :
    Calls Try.prog 23 #[.pointer (some ⟨g, 0, none⟩)] w fun e w' => e = thrown 3 ∧ w' = w := by
  have k0 := h.k0
  obtain ⟨ad, e1, _⟩ := at_one hC 0 (by omega) (by omega)
  subst e1
  have c0 := at_zero hC (by omega)
  have hb' : rd b 0 = 2 := hb
  rw [hb'] at c0
  have hn0 : (0 : Int) ≤ 0 ∧ (0 : Int) < (b.length : Int) := ⟨by omega, by omega⟩
  have hlt : (b.length : Int) < 24 := by omega
  have hlb := decide_eq_true hlt
  clear h hC hb hb'
  go_enter Try.func23, Try.ntmps23
  go_wp2_with fail
  refine (refuse_ok 1 _).mono ?_
  rintro e w' ⟨rfl, rfl⟩
  go_wp2_with fail
  refine (refuse_bad 3 _).mono ?_
  rintro e w' ⟨he, rfl⟩
  unfold thrown at he
  subst he
  exact ⟨rfl, rfl, rfl⟩
set_option maxHeartbeats 2000000 in
set_option maxRecDepth 100000 in
theorem known_walk (W : World) : Calls Try.prog 5 #[] W fun e w' => e = .returned (.bool true) ∧ Below W.heap.size W w' := by
  have h29 := z29
  go_enter Try.func5, Try.ntmps5
  go_wp2_with fail
  refine (awake_calls _).mono ?_
  rintro e w1 ⟨rfl, hb1⟩
  have B1 := Aside0.mk hb1
  clear hb1
  go_wp2_with fail
  have C1 := Aside0.mk (lit_C (enc := Value.int .u8) (h1 := fun _ => rfl) (e := 5) w1 [2, 129] (by decide))
  have D1 := Aside0.mk (Below.alloc B1.out B1.out.size (.cells (encs (Value.int .u8) [2, 129]).toArray 5))
  refine (Read_answer _ 2 [2, 129] 5 _ C1.out (by decide) (by decide) (by decide)).mono ?_
  rintro e w2 ⟨rfl, hb2⟩
  have B2 := Aside0.mk (below_step D1.out hb2)
  clear hb2 D1 C1 B1
  have N2 := Aside0.mk (blk_new w2 (.cells zc29 29))
  go_wp2_with (refine wp_fill rfl 29 (.tmp 1) (.tmp 16) rfl w2.heap.size _ 29 az.cells N2.out rfl rfl (by rw [zc29_size, AM.len az_ok]) (by rw [info29, zc29_size]) (AM.one az_ok) ?_; intro w3 hx3 hf3; have B3 := Aside0.mk (below_fr (Below.alloc B2.out B2.out.size (.cells zc29 29)) (by rw [World.size_alloc]; exact Nat.le_succ_of_le B2.out.size) hf3 (fun k hk => by rw [hk]; exact B2.out.size)); clear hx3 hf3)
  have C3 := Aside0.mk (lit_C (enc := Value.int .u8) (h1 := fun _ => rfl) (e := 5) w3 [2, 1] (by decide))
  have D3 := Aside0.mk (Below.alloc B3.out B3.out.size (.cells (encs (Value.int .u8) [2, 1]).toArray 5))
  refine (Read_head _ 2 [2, 1] 5 3 _ C3.out (by decide) (by decide) (by decide) (fun w1 g hr hc => head_bad g _ 2 az [2, 1] w1 hr hc (by decide) rfl (by decide))).mono ?_
  rintro e w4 ⟨rfl, hb4⟩
  have B4 := Aside0.mk (below_step D3.out hb4)
  clear hb4 D3 C3 B3 N2 B2
  have N4 := Aside0.mk (blk_new w4 (.cells zc29 29))
  go_wp2_with (refine wp_fill rfl 29 (.tmp 4) (.tmp 22) rfl w4.heap.size _ 29 az.cells N4.out rfl rfl (by rw [zc29_size, AM.len az_ok]) (by rw [info29, zc29_size]) (AM.one az_ok) ?_; intro w5 hx5 hf5; have B5 := Aside0.mk (below_fr (Below.alloc B4.out B4.out.size (.cells zc29 29)) (by rw [World.size_alloc]; exact Nat.le_succ_of_le B4.out.size) hf5 (fun k hk => by rw [hk]; exact B4.out.size)); clear hx5 hf5)
  have C5 := Aside0.mk (lit_C (enc := Value.int .u8) (h1 := fun _ => rfl) (e := 5) w5 [1, 1] (by decide))
  have D5 := Aside0.mk (Below.alloc B5.out B5.out.size (.cells (encs (Value.int .u8) [1, 1]).toArray 5))
  refine (Answer_calls _ 2 [1, 1] 1 9 7 _ C5.out (by decide) (by decide) (by intro x hx; simp at hx; omega)).mono ?_
  rintro e w6 ⟨v6, rfl, hr6, hb6⟩
  obtain ⟨A6, c6, rfl⟩ := Kd.R_slice hr6
  have R6 := Aside0.mk (Kd.R_reads' hr6)
  have B6 := Aside0.mk (below_step D5.out hb6)
  rw [show (ansL [1, 1] 1 9 7).length = 24 from rfl] at *
  clear hr6 hb6 D5 C5 B5 N4 B4
  go_wp2_with fail
  refine (Wide_calls 16909060 _).mono ?_
  rintro e w7 ⟨rfl, hb7⟩
  have B7 := Aside0.mk (below_step B6.out hb7)
  have C7 := Aside0.mk (Kd.C_below R6.out.2.2 hb7)
  have HCC := Aside0.mk R6.out.2.1
  clear hb7 B6 R6
  have N7 := Aside0.mk (blk_new w7 (.cells (encs (Value.int .u8) z16).toArray 25))
  go_upto_region 7 with (refine wp_fill rfl 25 (.tmp 8) (.tmp 27) rfl w7.heap.size _ 25 (encs (Value.int .u8) (wideL 16909060)) N7.out rfl rfl rfl (by rw [info25]; rfl) (one_u8 _) ?_; intro w8 hx8 hf8; have X8 := Aside0.mk hx8; have F8 := Aside0.mk hf8; clear hx8 hf8)
  have h78 : Below w7.heap.size w7 w8 := below_fr (below_alloc (Below.refl _ _) (.cells (encs (Value.int .u8) z16).toArray 25)) (by rw [World.size_alloc]; exact Nat.le_succ _) F8.out (fun k hk => by rw [hk]; exact Nat.le_refl _)
  have B8 := Aside0.mk (below_step B7.out h78)
  have C8 := Aside0.mk (Kd.C_below C7.out h78)
  clear h78
  clear B7 C7 N7 F8
  generalize w7.heap.size = g8 at *
  have G8 := Aside0.mk (range_blk X8.out)
  go_wp2_with (refine wpList_load_mid rfl 25 (.tmp 8) rfl g8 0 rfl (encs (Value.int .u8) (wideL 16909060)) _ G8.out Try.underlying25 rfl (by rw [info25]; rfl) ?_)
  refine (Mapped_calls (wideL 16909060) (wide_len _) (wide_byt _) _).mono ?_
  rintro e w9 ⟨rfl, hb9⟩
  rw [wide_V _ (by decide) (by decide), wide_B]
  have B9 := Aside0.mk (below_step B8.out hb9)
  have C9 := Aside0.mk (Kd.C_below C8.out hb9)
  have X9 := Aside0.mk (blk_below X8.out hb9)
  clear hb9 B8 C8 X8 G8
  obtain ⟨ad6, e6, _⟩ := src_of (l := ansL [1, 1] 1 9 7) C9.out (by decide)
  subst e6
  have T9 : Aside0 (Kd.C (Kd.int .u8) w9 (some ad6) 12 [2, 129, 0, 1, 0, 0, 0, 9, 0, 0, 0, 7]) := ⟨Kd.C_take (xs := ansL [1, 1] 1 9 7) C9.out (m := 12) (by decide)⟩
  have L9 := Aside0.mk (lit_C (enc := Value.int .u8) (h1 := fun _ => rfl) (e := 5) w9 [2, 129, 0, 1, 0, 0, 0, 9, 0, 0, 0, 7] (by decide))
  have D9 := Aside0.mk (Below.alloc B9.out B9.out.size (.cells (encs (Value.int .u8) [2, 129, 0, 1, 0, 0, 0, 9, 0, 0, 0, 7]).toArray 5))
  have T9' := Aside0.mk (Kd.C_below T9.out (below_alloc (Below.refl _ _) (.cells (encs (Value.int .u8) [2, 129, 0, 1, 0, 0, 0, 9, 0, 0, 0, 7]).toArray 5)))
  have X9' := Aside0.mk (blk_alloc X9.out (.cells (encs (Value.int .u8) [2, 129, 0, 1, 0, 0, 0, 9, 0, 0, 0, 7]).toArray 5))
  have h12 : (12 : Int) ≤ (c6 : Int) := by have := HCC.out; omega
  clear T9 C9 X9 B9 h29
  go_wp2_with fail
  refine (same_calls _ _ _ c6 12 12 [2, 129, 0, 1, 0, 0, 0, 9, 0, 0, 0, 7] (by decide) rfl T9'.out (by have := HCC.out; omega) L9.out (Nat.le_refl _)).mono ?_
  rintro e w10 ⟨rfl, hb10⟩
  have B10 := Aside0.mk (below_step D9.out hb10)
  have X10 := Aside0.mk (blk_below X9'.out hb10)
  clear hb10 D9 L9 T9' X9'
  have k11 : w10.cell? ⟨g8, 11, none⟩ = some (.int .u8 255) := arr_cell X10.out 11 (by decide)
  have k15 : w10.cell? ⟨g8, 15, none⟩ = some (.int .u8 4) := arr_cell X10.out 15 (by decide)
  clear X10 h12
  go_wp2
  go_ret
  exact ⟨rfl, B10.out⟩
end Go.Proofs.Ytpjkbokojlpjoaa.Ak
