/- What entry.Encode answers: the bytes of an entry, or that it may not be. -/
import Derived.Test.YtinjbfgjfmfibaaPEntryEncodesx1
import Derived.Test.YtinjbfgjfmfibaaEnc0
namespace Go.Proofs.Ytinjbfgjfmfibaa.Enc
open Go.RowKit Go.Proofs.YtinjbfgjfmfibaaW.PrintWords Go.Proofs.YtinjbfgjfmfibaaW.PrintLast Go.Proofs.YtinjbfgjfmfibaaW.PrintMore
open Go.Proofs.Ytinjbfgjfmfibaa.PEntryEncodes
set_option linter.unusedVariables false
set_option linter.unusedSimpArgs false

/-- May an entry be? 0, or ErrArg's number. -/
def chk (k t s a b : Int) : Int :=
  if 0 ≤ t ∧ t ≤ 1099511627776 ∧ ((k = 1 ∧ s = 0 ∧ a = 0 ∧ b = 0) ∨ (k = 2 ∧ 0 ≤ b ∧ b ≤ 65535) ∨ (k = 3 ∧ s = 0 ∧ 0 ≤ b ∧ b ≤ 65535)) then 0 else 1
theorem chk_f (n : Nat) (k t s a b : Int) : entry_Check.f (n + 1) k t s a b = some (chk k t s a b) := by
  unfold entry_Check.f chk
  simp only [entry_Check.j0]
  repeat' split
  all_goals (try simp_all)
  all_goals (try omega)

/-- A part of an entry's bytes, by the method's number. -/
def piece (k t s a b : Int) (f : Nat) : List Int :=
  if f = 55 then lays (IntKind.u64.wrap k) 1 else if f = 56 then lays (IntKind.u64.wrap t) 8 else if f = 57 then lays (IntKind.u64.wrap s) 4 else if f = 58 then lays (IntKind.u64.wrap a) 4 else lays (IntKind.u64.wrap b) 2
def bytesOfEntry (k t s a b : Int) : List Int := (partsOf k).flatMap (piece k t s a b)
theorem piece_le (k t s a b : Int) (f : Nat) : (piece k t s a b f).length ≤ 8 := by
  unfold piece; repeat' split
  all_goals simp [lays_length]
theorem pieces_le (k t s a b : Int) (l : List Nat) : (l.flatMap (piece k t s a b)).length ≤ 8 * l.length := by
  induction l with
  | nil => simp
  | cons f l ih => have := piece_le k t s a b f; simp only [List.flatMap_cons, List.length_append, List.length_cons]; omega
theorem parts_le (k : Int) : (partsOf k).length ≤ 5 := by unfold partsOf; repeat' split
                                                          all_goals simp
theorem parts_are (k : Int) (f : Nat) (h : f ∈ partsOf k) : f = 55 ∨ f = 56 ∨ f = 57 ∨ f = 58 ∨ f = 59 := by
  revert h; unfold partsOf; repeat' split
  all_goals (simp; try omega)
theorem piece_calls (f g : Nat) (hf : f = 55 ∨ f = 56 ∨ f = 57 ∨ f = 58 ∨ f = 59) (k t s a b : Int) (bs : List Int) (P0 : Nat → Prop) (w0 w : World) (hB : Below w0.heap.size w0 w) (hg0 : w0.heap.size ≤ g) (hl : bs.length ≤ 1000) (h : IsWr w w0.heap.size g P0 k t s a b bs) :
    Calls Try.prog f #[.pointer (some ⟨g, 0, none⟩)] w fun e w' => e = .returned (.tuple #[]) ∧ IsWr w' w0.heap.size g (fun k_ => P0 k_ ∨ w.heap.size ≤ k_) k t s a b (bs ++ piece k t s a b f) ∧ Below w0.heap.size w0 w' ∧ Kept w w' (fun k_ => k_ = g ∨ P0 k_) := by
  rcases hf with rfl | rfl | rfl | rfl | rfl
  · exact kind_calls g k t s a b bs P0 w0 w hB hg0 hl h
  · exact time_calls g k t s a b bs P0 w0 w hB hg0 hl h
  · exact sub_calls g k t s a b bs P0 w0 w hB hg0 hl h
  · exact addr_calls g k t s a b bs P0 w0 w hB hg0 hl h
  · exact block_calls g k t s a b bs P0 w0 w hB hg0 hl h
theorem getD_mem {l : List Nat} {i : Nat} (h : i < l.length) : l.getD i 0 ∈ l := by
  rw [List.getD_eq_getElem?_getD, List.getElem?_eq_getElem h]; simp
theorem take_snoc' {l : List Nat} {i : Nat} (h : i < l.length) : l.take (i + 1) = l.take i ++ [l.getD i 0] := by
  rw [List.take_succ_eq_append_getElem h, List.getD_eq_getElem?_getD, List.getElem?_eq_getElem h]; rfl

def encR (k t s a b : Int) : List Int := if chk k t s a b = 0 then bytesOfEntry k t s a b else []
set_option maxHeartbeats 2000000 in
set_option maxRecDepth 100000 in
theorem Encode_calls (k t s a b : Int) (w : World) :
    Calls Try.prog 22 #[.agg #[.int .i64 k, .int .i64 t, .int .u32 s, .int .u32 a, .int .i64 b]] w fun e w' => ∃ v, e = .returned (.tuple #[v, .int .i64 (chk k t s a b)]) ∧ Kd.R (Kd.int .u8) 5 w' w.heap.size (fun _ => True) v (encR k t s a b) ∧ Below w.heap.size w w' := by
  have hchk := entry_Check.calls 1 k t s a b (chk k t s a b)
  have HC := Aside0.mk hchk
  clear hchk
  by_cases hc : chk k t s a b = 0
  · have HE : Aside0 (encR k t s a b = bytesOfEntry k t s a b) := ⟨if_pos hc⟩
    have HZ := Aside0.mk hc
    clear hc
    go_enter Try.func22, Try.ntmps22
    go_wp2_with (first | (go_at_call 25; refine (HC.out _ (chk_f 0 k t s a b)).mono ?_; rintro e w1 ⟨rfl, hb⟩; rw [HZ.out]; have hblk : w1.heap[w.heap.size]? = some (.cells #[.int .i64 k, .int .i64 t, .int .u32 s, .int .u32 a, .int .i64 b] 32 (0, 0)) := blk_below (blk_new _ _) hb; have c0 : w1.cell? ⟨w.heap.size, 0, none⟩ = some (.int .i64 k) := blk_cell hblk 0; have c1 : w1.cell? ⟨w.heap.size, 1, none⟩ = some (.int .i64 t) := blk_cell hblk 1; have c2 : w1.cell? ⟨w.heap.size, 2, none⟩ = some (.int .u32 s) := blk_cell hblk 2; have c3 : w1.cell? ⟨w.heap.size, 3, none⟩ = some (.int .u32 a) := blk_cell hblk 3; have c4 : w1.cell? ⟨w.heap.size, 4, none⟩ = some (.int .i64 b) := blk_cell hblk 4; have HB1 : Aside0 (Below w.heap.size w w1) := ⟨below_step ((Below.refl _ _).alloc (Nat.le_refl _) _) hb⟩; clear hb hblk) | (go_at_call 41; refine (parts_calls w1.heap.size k _ (blk_cell (blk_new _ _) 0)).mono ?_; rintro e w2 ⟨v, rfl, hr, hb⟩; obtain ⟨A2, cc2, rfl, hl2, hC2⟩ := Kd.R_reads hr; have HR2 := Aside0.mk hr; have HB2 := Aside0.mk hb; have HC2 := Aside0.mk hC2; have HL2 := Aside0.mk hl2; clear hr hb hC2 hl2))
    clear c0 c1 c2 c3 c4 HC
    have hn1 : 1 ≤ (partsOf k).length := by unfold partsOf; repeat' split
                                            all_goals simp
    have hn5 := parts_le k
    obtain ⟨ad, hA2⟩ : ∃ ad, A2 = some ad := by
      obtain ⟨ad, e, _⟩ := HC2.out.2.2 hn1
      exact ⟨ad, e⟩
    subst hA2
    obtain ⟨g, hg⟩ : ∃ g, g = w1.heap.size := ⟨_, rfl⟩
    rw [← hg] at HR2 HC2 ⊢
    have hg0 : w.heap.size ≤ g := by rw [hg]; exact HB1.out.size
    have HBL : Aside0 (Below w.heap.size w w2) := ⟨below_step (HB1.out.alloc HB1.out.size _) HB2.out⟩
    have hgw : g < w2.heap.size := by have := HB2.out.size; simp at this; omega
    have HI : Aside0 (IsWr w2 w.heap.size g (fun k_ => w2.heap.size ≤ k_) k t s a b (((partsOf k).take 0).flatMap (piece k t s a b))) := ⟨⟨.slice none 0 0, by rw [hg]; exact blk_below (blk_new w1 _) HB2.out, Kd.R_nil _ _ _ _ _⟩⟩
    have HRP : Aside0 (Kd.R (kfn g) 1 w2 (w1.alloc (.cells #[.int .i64 k, .int .i64 t, .int .u32 s, .int .u32 a, .int .i64 b, .slice none 0 0] 72)).heap.size (fun k_ => k_ ≠ g) (.slice (some ad) (partsOf k).length cc2) (partsOf k)) := ⟨Kd.R_mono (Kd.R_bound HR2.out) (fun k_ hk => by have := hk.2.1; simp at this; omega)⟩
    have HK : Aside0 (Kept w2 w2 (fun k_ => k_ = g ∨ w2.heap.size ≤ k_)) := ⟨Kept.refl _ _⟩
    have HN1 := Aside0.mk hn1
    clear hg HR2 HB2 HC2 hn1
    go_loopg [19] (partsOf k).length (fun q v19 wr => ∃ (i : Nat) (bs1 : List Int), v19 = .int .i64 i ∧ Aside0 (i + q = (partsOf k).length) ∧ Aside0 (bs1 = ((partsOf k).take i).flatMap (piece k t s a b)) ∧ Aside0 (IsWr wr w.heap.size g (fun k_ => w2.heap.size ≤ k_) k t s a b bs1) ∧ Aside0 (Below w.heap.size w wr) ∧ Aside0 (Kept w2 wr (fun k_ => k_ = g ∨ w2.heap.size ≤ k_)))
    case atStart => exact ⟨0, _, rfl, ⟨by omega⟩, ⟨rfl⟩, HI, HBL, HK⟩
    case round =>
      clear HI HBL HK
      obtain ⟨i, bs1, rfl, Hi, Hbs, HI, HBL, HK⟩ := hrel
      cases gk with
      | zero =>
        have hlt : ¬ ((i : Int) < ((partsOf k).length : Int)) := by have := Hi.out; omega
        have hlb : decide ((i : Int) < ((partsOf k).length : Int)) = false := decide_eq_false hlt
        obtain ⟨v, hblk, hrow⟩ := HI.out
        obtain ⟨A3, c3, rfl⟩ := Kd.R_slice hrow
        have hcell : wr.cell? ⟨g, 5, none⟩ = some (.slice A3 bs1.length c3) := blk_cell hblk 5
        have HR3 := Aside0.mk hrow
        clear hrow hblk HI
        go_wp2
        go_ret2
        refine ⟨.slice A3 bs1.length c3, by rw [HZ.out]; rfl, ?_, HBL.out⟩
        have hi : i = (partsOf k).length := by have := Hi.out; omega
        have hb : bytesOfEntry k t s a b = bs1 := by rw [Hbs.out, hi, List.take_length, bytesOfEntry]
        rw [HE.out, hb]
        exact Kd.R_mono HR3.out (fun _ _ => trivial)
      | succ q =>
        have hlt : (i : Int) < ((partsOf k).length : Int) := by have := Hi.out; omega
        have hi0 : (0 : Int) ≤ (i : Int) := by omega
        have hlb : decide ((i : Int) < ((partsOf k).length : Int)) = true := decide_eq_true hlt
        have hiN : i < (partsOf k).length := by omega
        have HRw : Kd.R (kfn g) 1 wr (w1.alloc (.cells #[.int .i64 k, .int .i64 t, .int .u32 s, .int .u32 a, .int .i64 b, .slice none 0 0] 72)).heap.size (fun k_ => k_ ≠ g) (.slice (some ad) (partsOf k).length cc2) (partsOf k) :=
          Kd.R_step HRP.out (fun k_ hk hlt_ => HK.out.2 k_ hlt_ (fun h => by rcases h with h | h; exact hk h; omega))
        obtain ⟨A4, c4, e4, _, hC4⟩ := Kd.R_reads HRw
        obtain ⟨ad4, e5, hcell⟩ := (Kd.reads_of_C (d := (0 : Nat)) hC4).at_ i hi0 hlt
        injection e4 with e41 e42 e43
        clear e42 e43
        rw [e5] at e41
        injection e41 with e41
        subst e41
        clear e5 HRw hC4
        obtain ⟨f, hf⟩ : ∃ f, f = (partsOf k).getD i 0 := ⟨_, rfl⟩
        have hf5 := parts_are k f (by rw [hf]; exact getD_mem hiN)
        have hcell' : wr.cell? (ad.add i) = some (fnv g f) := by rw [hf]; exact hcell
        have Hbs' : Aside0 (bs1 ++ piece k t s a b f = ((partsOf k).take (i + 1)).flatMap (piece k t s a b)) := ⟨by rw [Hbs.out, hf, take_snoc' hiN, List.flatMap_append]; simp⟩
        have Hlen : Aside0 (bs1.length ≤ 1000) := ⟨by
          rw [Hbs.out]
          have h1 := pieces_le k t s a b ((partsOf k).take i)
          have h2 := List.length_take_le i (partsOf k)
          omega⟩
        clear hf hcell Hbs hiN HZ HE
        rcases hf5 with rfl | rfl | rfl | rfl | rfl
        all_goals
          have hc' := hcell'
          unfold fnv at hc'
          clear hcell'
          go_wp2_with fail
          refine (piece_calls _ g (by simp) k t s a b bs1 _ w _ HBL.out hg0 Hlen.out HI.out).mono ?_
          rintro e w3 ⟨rfl, h1, h2, h3⟩
          have F1 : Aside0 (IsWr w3 w.heap.size g (fun k_ => w2.heap.size ≤ k_) k t s a b _) := ⟨by
            obtain ⟨v, hv, hr⟩ := h1
            exact ⟨v, hv, Kd.R_mono hr (fun k_ hk => by rcases hk with hk | hk; exact hk; exact Nat.le_trans HK.out.1 hk)⟩⟩
          have F2 := Aside0.mk h2
          have F3 : Aside0 (Kept w2 w3 (fun k_ => k_ = g ∨ w2.heap.size ≤ k_)) := ⟨HK.out.then_ h3 (fun k_ hk => .inl hk)⟩
          clear h1 h2 h3 HI HBL HK
          go_wp2
          go_roundg q
          case measure => omega
          case rel => exact ⟨i + 1, _, by go_num, ⟨by have := Hi.out; omega⟩, Hbs', F1, F2, F3⟩
  · have HE : Aside0 (encR k t s a b = []) := ⟨if_neg hc⟩
    have hcb : ((chk k t s a b) != 0) = true := bne_iff_ne.mpr hc
    obtain ⟨z, hz⟩ : ∃ z, z = chk k t s a b := ⟨_, rfl⟩
    rw [← hz] at hcb HC ⊢
    have HZ := Aside0.mk hz
    clear hz hc
    go_enter Try.func22, Try.ntmps22
    go_wp2_with (go_at_call 25; refine (HC.out _ (by rw [HZ.out]; exact chk_f 0 k t s a b)).mono ?_; rintro e w1 ⟨rfl, hb⟩; have HB1 : Aside0 (Below w.heap.size w w1) := ⟨below_step ((Below.refl _ _).alloc (Nat.le_refl _) _) hb⟩; clear hb)
    go_ret2
    exact ⟨_, rfl, by rw [HE.out]; exact Kd.R_nil _ _ _ _ _, HB1.out⟩
end Go.Proofs.Ytinjbfgjfmfibaa.Enc
