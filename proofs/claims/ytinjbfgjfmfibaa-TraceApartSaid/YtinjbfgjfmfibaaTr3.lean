/- trace.Spans: its walk. -/
import Derived.Test.YtinjbfgjfmfibaaTr2
namespace Go.Proofs.Ytinjbfgjfmfibaa.Tr
open Go.RowKit Go.Proofs.YtinjbfgjfmfibaaW.PrintWords Go.Proofs.YtinjbfgjfmfibaaW.PrintLast Go.Proofs.YtinjbfgjfmfibaaW.PrintMore Go.Proofs.Ytinjbfgjfmfibaa.Bs Go.Proofs.Ytinjbfgjfmfibaa.Mp
open Go.Proofs.Ytinjbfgjfmfibaa.PTraceSpans
attribute [local go_sem] max2_int min2_int max_two min_two max_three min_three max_four min_four
set_option linter.unusedVariables false
set_option linter.unusedSimpArgs false

/-- What the loop's memory is: the list's variable, the map and its variable. -/
structure At (w0 w : World) (g1 g3 b : Nat) (L : List ((Int × Int) × Value)) (v : Value) (xs : List S61) : Prop where
  v1 : w.heap[g1]? = some (.cells #[.map (some b)] 62 (0, 0))
  v3 : w.heap[g3]? = some (.cells #[v] 26 (0, 0))
  map : MapIs KK w b L
  row : Kd.R k61 61 w w0.heap.size (fun _ => True) v xs
  inv : Inv xs L
  below : Below w0.heap.size w0 w
  le1 : w0.heap.size ≤ g1
  le3 : w0.heap.size ≤ g3
  leb : w0.heap.size ≤ b

theorem run_make (w : World) : (Instr.makeMap 62 none).run Try.prog w = .ok (.map (some w.heap.size)) (w.alloc (.map #[] 0)) := by rfl

set_option maxHeartbeats 4000000 in
set_option maxRecDepth 100000 in
theorem Spans_calls (A : Option Addr) (c : Nat) (l : List S32) (w : World) (hC : Kd.C k32 w A l.length l) (hc : l.length ≤ c) (hl : l.length ≤ 1000000) (hw : ∀ e ∈ l, okK (keyE e)) :
    Calls Try.prog 18 #[.slice A l.length c] w fun e w' => ∃ v, e = .returned v ∧ Kd.R k61 61 w' w.heap.size (fun _ => True) v (spans l) ∧ Below w.heap.size w w' := by
  have HC := Aside0.mk hC
  have HL := Aside0.mk hl
  have HW := Aside0.mk hw
  clear hC hl hw
  have hu32 := Try.underlying32
  have hu61 := Try.underlying61
  have hmk := run_make
  have hmf : ∀ fn first cap w, (Instr.makeFunc fn first cap).run Try.prog w = .ok (.func fn first cap) w := fun _ _ _ _ => rfl
  go_enter Try.func18, Try.ntmps18
  go_wp2_with fail
  go_loopg [12] l.length (fun q v12 wr => ∃ (i : Nat) (L : List ((Int × Int) × Value)) (v : Value), v12 = .int .i64 i ∧ Aside0 (q + i = l.length) ∧ Aside0 (At w wr (w.heap.size + 1 + 1) w.heap.size (w.heap.size + 1) L v (spans (l.take i))))
  case atStart =>
    refine ⟨0, [], .slice none 0 0, rfl, ⟨by omega⟩, ⟨?_⟩⟩
    have h0 : (w.alloc (.cells #[.slice none 0 0] 26)).heap[w.heap.size]? = some (.cells #[.slice none 0 0] 26 (0, 0)) := blk_new _ _
    have hm := MapIs.made KK (w.alloc (.cells #[.slice none 0 0] 26))
    rw [World.size_alloc] at hm
    have h1 := blk_new ((w.alloc (.cells #[.slice none 0 0] 26)).alloc (.map #[] 0)) (.cells #[.map (some (w.heap.size + 1))] 62)
    rw [World.size_alloc, World.size_alloc] at h1
    exact { v1 := h1, v3 := blk_alloc (blk_alloc h0 _) _, map := hm.alloc _, row := Kd.R_nil _ _ _ _ _, inv := inv_nil, below := (((Below.refl _ _).alloc (Nat.le_refl _) _).alloc (by simp) _).alloc (by simp; omega) _, le1 := by omega, le3 := by omega, leb := by omega }
  case round =>
    obtain ⟨i, L, v, rfl, hq, hat⟩ := hrel
    by_cases hi : i < l.length
    · have hi1 : decide ((i : Int) < (l.length : Int)) = true := decide_eq_true (by omega)
      obtain ⟨ad, rfl, hx0, hx1, hx2, hx3, hx4⟩ := at_T32 (Kd.C_below HC.out hat.out.below) i (by omega) (by omega)
      simp only [Int.toNat_natCast] at hx0 hx1 hx2 hx3 hx4
      have HE : Aside0 (rd_T32 l i ∈ l) := ⟨by unfold rd_T32; rw [Int.toNat_natCast, List.getD_eq_getElem?_getD, List.getElem?_eq_getElem hi]; exact List.getElem_mem hi⟩
      have HS : Aside0 (spans (l.take (i + 1)) = stepE (spans (l.take i)) (rd_T32 l i)) := ⟨spans_take l i hi⟩
      have hlen : (spans (l.take i)).length ≤ 1000000 := by have := spans_len (l.take i); have := HL.out; have := List.length_take_le i l; omega
      have HLE := Aside0.mk hlen
      clear hlen
      generalize rd_T32 l i = e at *
      generalize spans (l.take i) = out at *
      by_cases hk : e.f0 = 2
      · have hk1 : (e.f0 == 2) = true := beq_iff_eq.mpr hk
        have HM : Aside0 (Mem ((wr.alloc (.cells #[.int .i64 2, .int .i64 e.f1, .int .u32 e.f2, .int .u32 e.f3, .int .i64 e.f4] 32)).alloc (.cells #[.int .u32 e.f3, .int .i64 e.f4] 64)) (w.heap.size + 1 + 1) (wr.heap.size + 1) w.heap.size (w.heap.size + 1) (keyE e) L w.heap.size v out) :=
          ⟨{ v1 := blk_alloc (blk_alloc hat.out.v1 _) _, v2 := by have h_ := blk_new (wr.alloc (.cells #[.int .i64 2, .int .i64 e.f1, .int .u32 e.f2, .int .u32 e.f3, .int .i64 e.f4] 32)) (.cells #[.int .u32 e.f3, .int .i64 e.f4] 64); rw [World.size_alloc] at h_; exact h_, v3 := blk_alloc (blk_alloc hat.out.v3 _) _, map := (hat.out.map.alloc _).alloc _, row := Kd.R_alloc (Kd.R_alloc hat.out.row _) _ }⟩
        have HBX : Aside0 (((wr.alloc (.cells #[.int .i64 2, .int .i64 e.f1, .int .u32 e.f2, .int .u32 e.f3, .int .i64 e.f4] 32)).alloc (.cells #[.int .u32 e.f3, .int .i64 e.f4] 64)).heap[wr.heap.size]? = some (.cells #[.int .i64 2, .int .i64 e.f1, .int .u32 e.f2, .int .u32 e.f3, .int .i64 e.f4] 32 (0, 0))) := ⟨blk_alloc (blk_new _ _) _⟩
        go_wp2_with fail
        refine (shut_calls _ _ _ _ _ (w.heap.size + 1) (keyE e) L w.heap.size v out HM.out (HW.out e HE.out) hat.out.inv HLE.out).mono ?_
        clear hx0 hx1 hx2 hx3 hx4
        rintro e_ w2 ⟨rfl, L2, hleft, hinv, hno⟩
        obtain ⟨out2, hout2⟩ : ∃ o, o = shutK out (keyE e) (wrap64 (e.f1 - 1)) := ⟨_, rfl⟩
        rw [← hout2] at hleft hinv hno
        have HO2 := Aside0.mk hout2
        have hl2 : out2.length ≤ 1000000 := by rw [hout2, shutK_len]; exact HLE.out
        have hbne : some wr.heap.size ≠ v.ownBlock := Kd.R_ne HM.out.row HBX.out (by decide)
        have hsz1 : w.heap.size + 1 < wr.heap.size := hat.out.map.lt
        have hsz2 : w.heap.size + 1 + 1 < wr.heap.size := blk_lt hat.out.v1
        have ht6 := blk_kept HBX.out hleft.keep (fun h_ => h_.elim (fun h1_ => by omega) hbne)
        obtain ⟨A1, c1, rfl⟩ := Kd.R_slice hleft.mem.row
        have k0 : w2.cell? ⟨wr.heap.size, 0, none⟩ = some (.int .i64 2) := blk_cell ht6 0
        have k1 : w2.cell? ⟨wr.heap.size, 1, none⟩ = some (.int .i64 e.f1) := blk_cell ht6 1
        have k2 : w2.cell? ⟨wr.heap.size, 2, none⟩ = some (.int .u32 e.f2) := blk_cell ht6 2
        have k3 : w2.cell? ⟨wr.heap.size, 3, none⟩ = some (.int .u32 e.f3) := blk_cell ht6 3
        have k4 : w2.cell? ⟨wr.heap.size, 4, none⟩ = some (.int .i64 e.f4) := blk_cell ht6 4
        have k5 : w2.cell? ⟨w.heap.size, 0, none⟩ = some (.slice A1 out2.length c1) := blk_cell hleft.mem.v3 0
        have hbel : Below w.heap.size w w2 := ((hat.out.below.alloc hat.out.below.size _).alloc (by simp; have := hat.out.below.size; omega) _).trans (hleft.below w.heap.size (by omega) (Nat.le_refl _))
        have HL2 := Aside0.mk hleft
        have HI2 := Aside0.mk (And.intro hinv hno)
        have HB2 := Aside0.mk hbel
        have HN2 := Aside0.mk hl2
        have HS2 := Aside0.mk (And.intro hsz1 hsz2)
        clear hleft hinv hno hbel hl2 ht6 hbne hout2 hsz1 hsz2
        go_upto_region 12 with ((with_reducible refine gate_builtin (b := .append) (xs := #[.tmp 31, .tmp 41]) rfl ?_); at_builtin; refine Kd.R_append k61 (w0 := w) w.heap.size rfl (.tmp 31) (.tmp 41) 26 61 (.agg #[(.int .u32 0), (.int .u32 0), (.int .i64 0), (.int .i64 0), (.int .i64 0), (.bool false)]) 40 rfl Try.underlying26 info61 rfl (by decide) (by omega) (.slice A1 out2.length c1) out2 (newS e) [.int .u32 e.f2, .int .u32 e.f3, .int .i64 e.f4, .int .i64 e.f1, .int .i64 0, .bool true] (fun _ => True) (fun _ => False) rfl rfl (k61_mkM _ _ _ (newS e)) (fun _ hk => hk.elim) (fun _ _ => trivial) HL2.out.mem.row HB2.out HB2.out.size (by have := HN2.out; omega) ?_; intro v3 w3 ho hb hg hat3; obtain ⟨A3, c3, rfl⟩ := Kd.R_slice ho; clear k0 k1 k2 k3 k4 k5; have hne3 := Kd.R_ne HL2.out.mem.row HL2.out.mem.v3 (by decide); have d3 := blk_grown HL2.out.mem.v3 hg hne3; have k5 : w3.cell? ⟨w.heap.size, 0, none⟩ = some (.slice A1 out2.length c1) := blk_cell d3 0; have k6 := blk_frozen d3 0; have HG := Aside0.mk hg; have HO := Aside0.mk ho; have HB3 := Aside0.mk hb; have HD3 := Aside0.mk d3; clear hg ho hb hat3 d3 hne3)
        clear k5 k6
        have d3 : (w3.setCell ⟨w.heap.size, 0, none⟩ (.slice A3 (out2.length + 1) c3)).heap[w.heap.size]? = some (.cells #[.slice A3 (out2.length + 1) c3] 26 (0, 0)) := blk_set HD3.out 0 _
        have d1 : (w3.setCell ⟨w.heap.size, 0, none⟩ (.slice A3 (out2.length + 1) c3)).heap[w.heap.size + 1 + 1]? = some (.cells #[.map (some (w.heap.size + 1))] 62 (0, 0)) := blk_far (blk_grown HL2.out.mem.v1 HG.out (Kd.R_ne HL2.out.mem.row HL2.out.mem.v1 (by decide))) (by show w.heap.size + 1 + 1 ≠ w.heap.size; omega) _
        have d2 : (w3.setCell ⟨w.heap.size, 0, none⟩ (.slice A3 (out2.length + 1) c3)).heap[wr.heap.size + 1]? = some (.cells #[.int .u32 e.f3, .int .i64 e.f4] 64 (0, 0)) := blk_far (blk_grown HL2.out.mem.v2 HG.out (Kd.R_ne HL2.out.mem.row HL2.out.mem.v2 (by decide))) (by show wr.heap.size + 1 ≠ w.heap.size; have := HS2.out.1; omega) _
        have hbo : some (w.heap.size + 1) ≠ (Value.slice A1 out2.length c1).ownBlock := fun he_ => by
          obtain ⟨inner, ho⟩ := Kd.R_own HL2.out.mem.row
          obtain ⟨cells, hc_⟩ := own_typed ho _ he_.symm
          obtain ⟨es, cl', hb, _⟩ := HL2.out.mem.map
          rw [hc_] at hb; cases hb
        have dm : MapIs KK (w3.setCell ⟨w.heap.size, 0, none⟩ (.slice A3 (out2.length + 1) c3)) (w.heap.size + 1) L2 := (HL2.out.mem.map.grown HG.out hbo).set (by show w.heap.size + 1 ≠ w.heap.size; omega) _
        have dr : Kd.R k61 61 (w3.setCell ⟨w.heap.size, 0, none⟩ (.slice A3 (out2.length + 1) c3)) w.heap.size (fun _ => True) (.slice A3 (out2.length + 1) c3) (out2 ++ [newS e]) := by
          have ho_ := HO.out
          rw [show (out2 ++ [newS e]).length = out2.length + 1 from by simp] at ho_
          exact Kd.R_mono (Kd.R_far (p := ⟨w.heap.size, 0, none⟩) (Kd.R_types ho_ HD3.out (by decide)) (fun _ hk => hk.2) _) (fun _ hk => trivial)
        have db : Below w.heap.size w (w3.setCell ⟨w.heap.size, 0, none⟩ (.slice A3 (out2.length + 1) c3)) := HB3.out.setCell (Nat.le_refl _) _
        clear HG HO HB3 HD3 hbo HL2
        generalize w3.setCell ⟨w.heap.size, 0, none⟩ (.slice A3 (out2.length + 1) c3) = w4 at *
        have k1 : w4.cell? ⟨w.heap.size + 1 + 1, 0, none⟩ = some (.map (some (w.heap.size + 1))) := blk_cell d1 0
        have k2 : w4.cell? ⟨wr.heap.size + 1, 0, none⟩ = some (.int .u32 e.f3) := blk_cell d2 0
        have k3 : w4.cell? ⟨wr.heap.size + 1, 1, none⟩ = some (.int .i64 e.f4) := blk_cell d2 1
        have k4 : w4.cell? ⟨w.heap.size, 0, none⟩ = some (.slice A3 (out2.length + 1) c3) := blk_cell d3 0
        have D1 := Aside0.mk d1
        have D3 := Aside0.mk d3
        have DM := Aside0.mk dm
        have DR := Aside0.mk dr
        have DB := Aside0.mk db
        clear d1 d2 d3 dm dr db
        go_wp2_with (refine wp_store KK rfl DM.out (.tmp 43) (.tmp 44) (.tmp 46) rfl Try.underlying62 (keyE e) (HW.out e HE.out) (.int .i64 ((out2.length : Int) + 1)) rfl rfl rfl ?_; intro w5 hm5 hg5)
        have hne : ∀ (g : Nat) cs ty fr, w4.heap[g]? = some (.cells cs ty fr) → some g ≠ some (w.heap.size + 1) := fun g cs ty fr h he => by
          obtain ⟨es, cl', hb, _⟩ := DM.out
          rw [Option.some.inj he, hb] at h; cases h
        have hstep : stepE out e = out2 ++ [newS e] := by unfold stepE; rw [if_pos hk, HO2.out]
        have hrow : some (w.heap.size + 1) ≠ (Value.slice A3 (out2.length + 1) c3).ownBlock := fun he_ => by
          obtain ⟨inner, ho⟩ := Kd.R_own DR.out
          obtain ⟨cells, hc_⟩ := own_typed ho _ he_.symm
          obtain ⟨es, cl', hb, _⟩ := DM.out
          rw [hc_] at hb; cases hb
        have hA : Aside0 (At w w5 (w.heap.size + 1 + 1) w.heap.size (w.heap.size + 1) (aset L2 (keyE e) (.int .i64 ((out2.length : Int) + 1))) (.slice A3 (out2.length + 1) c3) (stepE out e)) := by
          rw [hstep]
          exact ⟨{ v1 := blk_grown D1.out hg5 (hne _ _ _ _ D1.out), v3 := blk_grown D3.out hg5 (hne _ _ _ _ D3.out), map := hm5, row := Kd.R_grown1 DR.out rfl hg5 hrow, inv := inv_push HI2.out.1 e HI2.out.2, below := DB.out.grown hg5 DB.out.size (fun k hk => by rw [← Option.some.inj hk]; omega), le1 := by omega, le3 := by omega, leb := by omega }⟩
        clear hstep hrow hne hm5 hg5 D1 D3 DM DR DB k1 k2 k3 k4
        go_roundg (gk - 1)
        case measure => have := hq.out; omega
        case rel => exact ⟨i + 1, _, _, by have := HL.out; rw [show wrap64 ((i : Int) + 1) = ((i + 1 : Nat) : Int) from by unfold wrap64; omega], ⟨by have := hq.out; omega⟩, ⟨by rw [HS.out]; exact hA.out⟩⟩
      · have hk1 : (e.f0 == 2) = false := beq_eq_false_iff_ne.mpr hk
        by_cases hk3 : e.f0 = 3
        · have hk4 : (e.f0 == 3) = true := beq_iff_eq.mpr hk3
          have HM : Aside0 (Mem ((wr.alloc (.cells #[.int .i64 e.f0, .int .i64 e.f1, .int .u32 e.f2, .int .u32 e.f3, .int .i64 e.f4] 32)).alloc (.cells #[.int .u32 e.f3, .int .i64 e.f4] 64)) (w.heap.size + 1 + 1) (wr.heap.size + 1) w.heap.size (w.heap.size + 1) (keyE e) L w.heap.size v out) :=
            ⟨{ v1 := blk_alloc (blk_alloc hat.out.v1 _) _, v2 := by have h_ := blk_new (wr.alloc (.cells #[.int .i64 e.f0, .int .i64 e.f1, .int .u32 e.f2, .int .u32 e.f3, .int .i64 e.f4] 32)) (.cells #[.int .u32 e.f3, .int .i64 e.f4] 64); rw [World.size_alloc] at h_; exact h_, v3 := blk_alloc (blk_alloc hat.out.v3 _) _, map := (hat.out.map.alloc _).alloc _, row := Kd.R_alloc (Kd.R_alloc hat.out.row _) _ }⟩
          go_wp2_with fail
          rw [hk3] at HM
          refine (shut_calls _ _ _ _ _ (w.heap.size + 1) (keyE e) L w.heap.size v out HM.out (HW.out e HE.out) hat.out.inv HLE.out).mono ?_
          clear hx0 hx1 hx2 hx3 hx4
          rintro e_ w2 ⟨rfl, L2, hleft, hinv, hno⟩
          have hstep : stepE out e = shutK out (keyE e) e.f1 := by unfold stepE; rw [if_neg hk, if_pos hk3]
          have hA : Aside0 (At w w2 (w.heap.size + 1 + 1) w.heap.size (w.heap.size + 1) L2 v (stepE out e)) := by
            rw [hstep]
            exact ⟨{ v1 := hleft.mem.v1, v3 := hleft.mem.v3, map := hleft.mem.map, row := hleft.mem.row, inv := hinv, below := ((hat.out.below.alloc hat.out.below.size _).alloc (by simp; have := hat.out.below.size; omega) _).trans (hleft.below w.heap.size (by omega) (Nat.le_refl _)), le1 := by omega, le3 := by omega, leb := by omega }⟩
          clear hstep hleft hinv hno HM
          go_wp2_with fail
          go_roundg (gk - 1)
          case measure => have := hq.out; omega
          case rel => exact ⟨i + 1, _, _, by have := HL.out; rw [show wrap64 ((i : Int) + 1) = ((i + 1 : Nat) : Int) from by unfold wrap64; omega], ⟨by have := hq.out; omega⟩, ⟨by rw [HS.out]; exact hA.out⟩⟩
        · have hk4 : (e.f0 == 3) = false := beq_eq_false_iff_ne.mpr hk3
          have hstep : stepE out e = out := by unfold stepE; rw [if_neg hk, if_neg hk3]
          have hA : Aside0 (At w ((wr.alloc (.cells #[.int .i64 e.f0, .int .i64 e.f1, .int .u32 e.f2, .int .u32 e.f3, .int .i64 e.f4] 32)).alloc (.cells #[.int .u32 e.f3, .int .i64 e.f4] 64)) (w.heap.size + 1 + 1) w.heap.size (w.heap.size + 1) L v (stepE out e)) := by
            rw [hstep]
            exact ⟨{ v1 := blk_alloc (blk_alloc hat.out.v1 _) _, v3 := blk_alloc (blk_alloc hat.out.v3 _) _, map := (hat.out.map.alloc _).alloc _, row := Kd.R_alloc (Kd.R_alloc hat.out.row _) _, inv := hat.out.inv, below := ((hat.out.below.alloc hat.out.below.size _).alloc (by simp; have := hat.out.below.size; omega) _), le1 := by omega, le3 := by omega, leb := by omega }⟩
          clear hstep
          go_wp2_with fail
          go_roundg (gk - 1)
          case measure => have := hq.out; omega
          case rel => exact ⟨i + 1, _, _, by have := HL.out; rw [show wrap64 ((i : Int) + 1) = ((i + 1 : Nat) : Int) from by unfold wrap64; omega], ⟨by have := hq.out; omega⟩, ⟨by rw [HS.out]; exact hA.out⟩⟩
    · have hi1 : decide ((i : Int) < (l.length : Int)) = false := decide_eq_false (by omega)
      have hll : l.take i = l := List.take_of_length_le (by omega)
      rw [hll] at hat
      have k4 : wr.cell? ⟨w.heap.size, 0, none⟩ = some v := blk_cell hat.out.v3 0
      obtain ⟨A1, c1, rfl⟩ := Kd.R_slice hat.out.row
      go_wp2
      go_ret
      exact ⟨_, rfl, hat.out.row, hat.out.below⟩
end Go.Proofs.Ytinjbfgjfmfibaa.Tr
