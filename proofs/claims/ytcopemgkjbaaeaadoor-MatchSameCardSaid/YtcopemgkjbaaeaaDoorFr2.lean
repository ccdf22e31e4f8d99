/-
  frame.CheckParts.
-/
import Derived.Test.YtcopemgkjbaaeaaDoorFr
namespace Go.Proofs.YtcopemgkjbaaeaaDoor
set_option linter.all false
open Go.RowKit

def roomE : Int → List Prt → Int
  | _, [] => 0
  | r, p :: l => cond (decide (((p.es.length : Nat) : Int) > r)) 113 (roomE (r - ((p.es.length : Nat) : Int)) l)
def Tal.may (t : Tal) : Bool := !(decide (t.k < 0) || (decide (t.k > 256) || ((t.k == 0) && !(t.a == 0 && t.b == 0))))
def partE (q : Option Prt) (p : Prt) : Int :=
  cond (p.fields != 0) p.fields (cond (p.r.check != 0) p.r.check (cond p.r.empty 115 (cond (match q with | some q => q.r.op || Op.bytesLess p.r.lo.toList q.r.hi.toList | none => false) 115
    (cond (p.k != 1) p.entries (cond p.t.may 0 117)))))
def prevP (l : List Prt) (i : Nat) : Option Prt := if i = 0 then none else l[i - 1]?
def partsE : Option Prt → List Prt → Int
  | _, [] => 0
  | q, p :: l => cond (partE q p != 0) (partE q p) (partsE (some p) l)
theorem partsE_drop (l : List Prt) {i : Nat} {p : Prt} (hp : l[i]? = some p) : partsE (prevP l i) (l.drop i) = cond (partE (prevP l i) p != 0) (partE (prevP l i) p) (partsE (prevP l (i + 1)) (l.drop (i + 1))) := by
  obtain ⟨h1, h2⟩ := List.getElem?_eq_some_iff.1 hp
  rw [List.drop_eq_getElem_cons h1, h2, partsE]
  congr 2
  simp [prevP, hp]
theorem roomE_drop (l : List Prt) {i : Nat} {p : Prt} {r : Int} (hp : l[i]? = some p) : roomE r (l.drop i) = cond (decide (((p.es.length : Nat) : Int) > r)) 113 (roomE (r - ((p.es.length : Nat) : Int)) (l.drop (i + 1))) := by
  obtain ⟨h1, h2⟩ := List.getElem?_eq_some_iff.1 hp
  rw [List.drop_eq_getElem_cons h1, h2, roomE]
def checkParts (l : List Prt) : Int := cond (decide (((l.length : Nat) : Int) > 768)) 113 (cond (roomE 256 l != 0) (roomE 256 l) (partsE none l))
/-- parts that lie in memory, with their entries -/
def PartsIn (w : World) (l : List Prt) : Prop := ∀ p ∈ l, InS w p.eb (entCells p.es)
theorem PartsIn.ext0 {w w' : World} {l : List Prt} (h : PartsIn w l) (hx : Ext [] w w') : PartsIn w' l := fun p hp => (h p hp).ext0 hx
theorem sub_small {a b : Int} (h1 : -1000000000 ≤ a) (h2 : a ≤ 1000000000) (h3 : 0 ≤ b) (h4 : b ≤ 1000000) : IntKind.i64.wrap (a - b) = a - b := wrap_in (by omega) (by omega)
theorem room_ok : ∀ (l : List Prt) (r : Int), roomE r l = 0 → 0 ≤ r → ∀ p ∈ l, ((p.es.length : Nat) : Int) ≤ r
  | [], _, _, _, p, hp => by cases hp
  | q :: l, r, h, h0, p, hp => by
    rw [roomE] at h
    rcases Bool.eq_false_or_eq_true (decide (((q.es.length : Nat) : Int) > r)) with hc | hc
    · rw [hc] at h; cases h
    · rw [hc] at h
      have h1 := of_decide_eq_false hc
      rcases List.mem_cons.1 hp with rfl | hp
      · omega
      · have := room_ok l _ h (by omega) p hp; omega

theorem checkParts_cr {w : World} {b : Option Addr} {c : Nat} (L : List Prt) (hin : InS w b (prtCells L)) (hps : PartsIn w L) (hes : ∀ p ∈ L, p.es.length < 1000000) :
    CR Tryd.prog 47 [.slice b L.length c] w fun v w' => v = .int .i64 (checkParts L) ∧ Ext [] w w' := by
  have st := St.init w []
  unfold checkParts
  refine CR_enter Tryd.func47 rfl Tryd.ntmps47 rfl ?_
  refine W_seq ?_
  refine W_region ?_
  refine RP_seg 1 [.p (.int .i64 0)] [0] (by kernel_rfl) (fun _ => by kernel_rfl) (by kernel_rfl : pick _ _ = some [(0, .slice b L.length c)]) (trivial) ?_
  refine RP_pick [0] (by kernel_rfl : pick _ _ = some [(0, .slice b L.length c)]) ?_
  refine RP_nil ?_
  refine n_then ?_
  refine W_seq ?_
  refine W_seq ?_
  refine W_region ?_
  refine RP_seg 3 [.p (.slice b L.length c), .p (.int .i64 ((L.length : Nat) : Int)), .p (.bool (decide (((L.length : Nat) : Int) > 768)))] [0, 14] (by kernel_rfl) (fun _ => by kernel_rfl) (by kernel_rfl : pick _ _ = some [(0, .slice b L.length c), (14, .bool (decide (((L.length : Nat) : Int) > 768)))]) (trivial) ?_
  refine RP_pick [0, 14] (by kernel_rfl : pick _ _ = some [(0, .slice b L.length c), (14, .bool (decide (((L.length : Nat) : Int) > 768)))]) ?_
  refine RP_nil ?_
  refine n_then ?_
  refine W_cond rfl (fun c14_1 => ?_) (fun c14_1 => ?_)
  ·
    have c14_1p := of_decide_eq_true c14_1
    refine W_seq ?_
    refine W_region ?_
    refine RP_seg 1 [.p (.int .i64 113)] [2] (by kernel_rfl) (fun _ => by kernel_rfl) (by kernel_rfl : pick _ _ = some [(2, .int .i64 113)]) (trivial) ?_
    refine RP_pick [2] (by kernel_rfl : pick _ _ = some [(2, .int .i64 113)]) ?_
    refine RP_nil ?_
    refine n_then ?_
    refine W_ret ?_
    refine r_then ?_
    refine ret_of (P := Tryd.prog) (fn := Tryd.f47) (m := [(2, .int .i64 113)]) (w := w) (res1 rfl (rv_tmp rfl)) ?_
    -- return 0: .int .i64 113
    exact ⟨by (try rw [c14_1]); rfl, st.ext⟩
  ·
    have c14_1p := of_decide_eq_false c14_1
    refine W_skip ?_
    refine n_then ?_
    refine W_seq ?_
    refine W_region ?_
    refine RP_seg 1 [.p (.int .i64 256)] [0, 3] (by kernel_rfl) (fun _ => by kernel_rfl) (by kernel_rfl : pick _ _ = some [(0, .slice b L.length c), (3, .int .i64 256)]) (trivial) ?_
    refine RP_pick [0, 3] (by kernel_rfl : pick _ _ = some [(0, .slice b L.length c), (3, .int .i64 256)]) ?_
    refine RP_nil ?_
    refine n_then ?_
    refine W_seq ?_
    refine W_seq ?_
    refine W_region ?_
    refine RP_seg 3 [.p (.slice b L.length c), .p (.int .i64 ((L.length : Nat) : Int)), .p (.int .i64 0)] [0, 3, 15, 16, 17] (by kernel_rfl) (fun _ => by kernel_rfl) (by kernel_rfl : pick _ _ = some [(0, .slice b L.length c), (3, .int .i64 256), (15, .slice b L.length c), (16, .int .i64 ((L.length : Nat) : Int)), (17, .int .i64 0)]) (trivial) ?_
    refine RP_pick [0, 3, 15, 16, 17] (by kernel_rfl : pick _ _ = some [(0, .slice b L.length c), (3, .int .i64 256), (15, .slice b L.length c), (16, .int .i64 ((L.length : Nat) : Int)), (17, .int .i64 0)]) ?_
    refine RP_nil ?_
    refine n_then ?_
    refine W_block ?_
    refine W_loop (fun k_ m_ w_ => ∃ (i : Nat) (rm : Int), L.length - i = k_ ∧ m_ = [(0, .slice b L.length c), (3, .int .i64 rm), (15, .slice b L.length c), (16, .int .i64 ((L.length : Nat) : Int)), (17, .int .i64 ((i : Nat) : Int))] ∧ St [] w w_ [] ∧ i ≤ L.length ∧ roomE rm (L.drop i) = roomE 256 L ∧ 0 ≤ rm ∧ rm ≤ 256) ⟨0, 256, rfl, rfl, st, Nat.zero_le _, rfl, by omega, by omega⟩ ?_
    rintro _ _ w3 ⟨i, rm, rfl, rfl, st2, hil, hle, hr0, hr1⟩
    refine W_seq ?_
    refine W_region ?_
    refine RP_seg 1 [.p (.bool (decide (((i : Nat) : Int) < ((L.length : Nat) : Int))))] [0, 3, 15, 16, 17, 18] (by kernel_rfl) (fun _ => by kernel_rfl) (by kernel_rfl : pick _ _ = some [(0, .slice b L.length c), (3, .int .i64 rm), (15, .slice b L.length c), (16, .int .i64 ((L.length : Nat) : Int)), (17, .int .i64 ((i : Nat) : Int)), (18, .bool (decide (((i : Nat) : Int) < ((L.length : Nat) : Int))))]) (trivial) ?_
    refine RP_pick [0, 3, 15, 16, 17, 18] (by kernel_rfl : pick _ _ = some [(0, .slice b L.length c), (3, .int .i64 rm), (15, .slice b L.length c), (16, .int .i64 ((L.length : Nat) : Int)), (17, .int .i64 ((i : Nat) : Int)), (18, .bool (decide (((i : Nat) : Int) < ((L.length : Nat) : Int))))]) ?_
    refine RP_nil ?_
    refine n_then ?_
    refine W_seq ?_
    refine W_cond rfl (fun c18_4 => ?_) (fun c18_4 => ?_)
    ·
      have c18_4p := of_decide_eq_true c18_4
      refine W_skip ?_
      refine n_then ?_
      refine W_seq ?_
      refine W_block ?_
      refine W_seq ?_
      refine W_region ?_
      have hlt : i < L.length := by omega
      obtain ⟨p, hp⟩ : ∃ p, L[i]? = some p := ⟨L[i], by simp [hlt]⟩
      have hbs := hin.some_ (by rw [prtCells_len]; omega)
      have hpe := hes p (List.mem_of_getElem? hp)
      refine RP_q rfl (v := .pointer (some ⟨(sp b), so b + i * 8, none⟩)) (ev_indexI idxPart rfl rfl hbs hlt) ?_
      refine RP_seg 1 [.l 34 (.pointer (some ⟨(sp b), so b + i * 8, none⟩)) (.agg #[.int .i64 p.k, .string p.r.lo, .string p.r.hi, .bool p.r.op, .int .i64 p.t.k, .int .u64 p.t.a, .int .u64 p.t.b, .slice p.eb p.es.length p.ec])] [0, 3, 15, 16, 17, 20] (by kernel_rfl) (fun _ => by kernel_rfl) (by kernel_rfl : pick _ _ = some [(0, .slice b L.length c), (3, .int .i64 rm), (15, .slice b L.length c), (16, .int .i64 ((L.length : Nat) : Int)), (17, .int .i64 ((i : Nat) : Int)), (20, .agg #[.int .i64 p.k, .string p.r.lo, .string p.r.hi, .bool p.r.op, .int .i64 p.t.k, .int .u64 p.t.a, .int .u64 p.t.b, .slice p.eb p.es.length p.ec])]) ⟨InS.loadN agg_34 (hin.ext0 st2.ext) (prtCells_at hp) rfl (by decide), trivial⟩ ?_
      refine RP_e rfl (ef_alloc st2 zero_34 rfl) ?_
      rintro _ w5 ⟨g8, rfl, hg8, hg8', st6, hx7⟩
      replace st6 : St [] w w5 [(g8, 34, [.int .i64 0, .string (⟨#[]⟩ : ByteArray), .string (⟨#[]⟩ : ByteArray), .bool false, .int .i64 0, .int .u64 0, .int .u64 0, .slice none 0 0])] := st6
      refine RP_e rfl (ef_store st6 rfl rfl rfl size_34 0 rfl rfl rfl rfl (.inr hg8)) ?_
      rintro _ w9 ⟨rfl, st10, hx11⟩
      replace st10 : St [] w w9 [(g8, 34, [.int .i64 p.k, .string p.r.lo, .string p.r.hi, .bool p.r.op, .int .i64 p.t.k, .int .u64 p.t.a, .int .u64 p.t.b, .slice p.eb p.es.length p.ec])] := st10
      refine RP_pick [0, 3, 5, 15, 16, 17] (by kernel_rfl : pick _ _ = some [(0, .slice b L.length c), (3, .int .i64 rm), (5, .pointer (some ⟨g8, 0, none⟩)), (15, .slice b L.length c), (16, .int .i64 ((L.length : Nat) : Int)), (17, .int .i64 ((i : Nat) : Int))]) ?_
      refine RP_nil ?_
      refine n_then ?_
      refine W_seq ?_
      refine W_seq ?_
      refine W_region ?_
      refine RP_seg 5 [.p (.pointer (some ⟨g8, 7, none⟩)), .l 22 (.pointer (some ⟨g8, 7, none⟩)) (.slice p.eb p.es.length p.ec), .p (.int .i64 ((p.es.length : Nat) : Int)), .p (.int .i64 rm), .p (.bool (decide (((p.es.length : Nat) : Int) > rm)))] [0, 3, 5, 15, 16, 17, 25] (by kernel_rfl) (fun _ => by kernel_rfl) (by kernel_rfl : pick _ _ = some [(0, .slice b L.length c), (3, .int .i64 rm), (5, .pointer (some ⟨g8, 0, none⟩)), (15, .slice b L.length c), (16, .int .i64 ((L.length : Nat) : Int)), (17, .int .i64 ((i : Nat) : Int)), (25, .bool (decide (((p.es.length : Nat) : Int) > rm)))]) ⟨ld1 st10 nagg_22 0 rfl rfl, trivial⟩ ?_
      refine RP_pick [0, 3, 5, 15, 16, 17, 25] (by kernel_rfl : pick _ _ = some [(0, .slice b L.length c), (3, .int .i64 rm), (5, .pointer (some ⟨g8, 0, none⟩)), (15, .slice b L.length c), (16, .int .i64 ((L.length : Nat) : Int)), (17, .int .i64 ((i : Nat) : Int)), (25, .bool (decide (((p.es.length : Nat) : Int) > rm)))]) ?_
      refine RP_nil ?_
      refine n_then ?_
      refine W_cond rfl (fun c25_12 => ?_) (fun c25_12 => ?_)
      ·
        have c25_12p := of_decide_eq_true c25_12
        refine W_seq ?_
        refine W_region ?_
        refine RP_seg 1 [.p (.int .i64 113)] [2] (by kernel_rfl) (fun _ => by kernel_rfl) (by kernel_rfl : pick _ _ = some [(2, .int .i64 113)]) (trivial) ?_
        refine RP_pick [2] (by kernel_rfl : pick _ _ = some [(2, .int .i64 113)]) ?_
        refine RP_nil ?_
        refine n_then ?_
        refine W_ret ?_
        refine r_then <| r_block <| r_then <| r_loop <| r_block <| r_then ?_
        have hz := hle
        rw [roomE_drop L hp, c25_12] at hz
        have hz2 : roomE 256 L = 113 := hz.symm
        refine ret_of (P := Tryd.prog) (fn := Tryd.f47) (m := [(2, .int .i64 113)]) (w := w9) (res1 rfl (rv_tmp rfl)) ?_
        -- return 1: .int .i64 113
        exact ⟨by (try rw [c14_1]); (try rw [c18_4]); (try rw [c25_12]); rw [hz2]; rfl, st10.ext⟩
      ·
        have c25_12p := of_decide_eq_false c25_12
        refine W_skip ?_
        refine n_then ?_
        refine W_region ?_
        refine RP_seg 5 [.p (.int .i64 rm), .p (.pointer (some ⟨g8, 7, none⟩)), .l 22 (.pointer (some ⟨g8, 7, none⟩)) (.slice p.eb p.es.length p.ec), .p (.int .i64 ((p.es.length : Nat) : Int)), .p (.int .i64 (IntKind.i64.wrap (rm - ((p.es.length : Nat) : Int))))] [0, 15, 16, 17, 30] (by kernel_rfl) (fun _ => by kernel_rfl) (by kernel_rfl : pick _ _ = some [(0, .slice b L.length c), (15, .slice b L.length c), (16, .int .i64 ((L.length : Nat) : Int)), (17, .int .i64 ((i : Nat) : Int)), (30, .int .i64 (IntKind.i64.wrap (rm - ((p.es.length : Nat) : Int))))]) ⟨ld1 st10 nagg_22 0 rfl rfl, trivial⟩ ?_
        refine RP_at (m' := [(0, .slice b L.length c), (15, .slice b L.length c), (16, .int .i64 ((L.length : Nat) : Int)), (17, .int .i64 ((i : Nat) : Int)), (30, .int .i64 (rm - ((p.es.length : Nat) : Int)))]) (by rw [sub_small (a := rm) (b := ((p.es.length : Nat) : Int)) (by omega) (by omega) (by omega) (by omega)]) ?_
        refine RP_seg 1 [.p (.int .i64 (rm - ((p.es.length : Nat) : Int)))] [0, 3, 15, 16, 17] (by kernel_rfl) (fun _ => by kernel_rfl) (by kernel_rfl : pick _ _ = some [(0, .slice b L.length c), (3, .int .i64 (rm - ((p.es.length : Nat) : Int))), (15, .slice b L.length c), (16, .int .i64 ((L.length : Nat) : Int)), (17, .int .i64 ((i : Nat) : Int))]) (trivial) ?_
        refine RP_pick [0, 3, 15, 16, 17] (by kernel_rfl : pick _ _ = some [(0, .slice b L.length c), (3, .int .i64 (rm - ((p.es.length : Nat) : Int))), (15, .slice b L.length c), (16, .int .i64 ((L.length : Nat) : Int)), (17, .int .i64 ((i : Nat) : Int))]) ?_
        refine RP_nil ?_
        refine n_block ?_
        refine n_then ?_
        refine W_region ?_
        refine RP_seg 2 [.p (.int .i64 (IntKind.i64.wrap (((i : Nat) : Int) + 1))), .p (.int .i64 (IntKind.i64.wrap (((i : Nat) : Int) + 1)))] [0, 3, 15, 16, 17] (by kernel_rfl) (fun _ => by kernel_rfl) (by kernel_rfl : pick _ _ = some [(0, .slice b L.length c), (3, .int .i64 (rm - ((p.es.length : Nat) : Int))), (15, .slice b L.length c), (16, .int .i64 ((L.length : Nat) : Int)), (17, .int .i64 (IntKind.i64.wrap (((i : Nat) : Int) + 1)))]) (trivial) ?_
        refine RP_pick [0, 3, 15, 16, 17] (by kernel_rfl : pick _ _ = some [(0, .slice b L.length c), (3, .int .i64 (rm - ((p.es.length : Nat) : Int))), (15, .slice b L.length c), (16, .int .i64 ((L.length : Nat) : Int)), (17, .int .i64 (IntKind.i64.wrap (((i : Nat) : Int) + 1)))]) ?_
        refine RP_nil ?_
        have hz := hle
        rw [roomE_drop L hp, c25_12] at hz
        -- back 0: [(0, .slice b L.length c), (3, .int .i64 (rm - ((p.es.length : Nat) : Int))), (15, .slice b L.length c), (16, .int .i64 ((L.length : Nat) : Int)), (17, .int .i64 (IntKind.i64.wrap (((i : Nat) : Int) + 1)))]
        exact ⟨_, by omega, (i + 1), _, rfl, by rw [inc_w (n := i) (by omega)], st10.sub [] (List.sublist_cons_self _ _), by omega, hz, by omega, by omega⟩
    ·
      have c18_4p := of_decide_eq_false c18_4
      refine W_exit ?_
      refine e_then <| e_loop <| e_here ?_
      refine n_then ?_
      refine W_seq ?_
      refine W_seq ?_
      refine W_region ?_
      have hiL : i = L.length := by omega
      have hrz : roomE 256 L = 0 := by rw [← hle, hiL, List.drop_length]; rfl
      clear hiL
      refine RP_seg 3 [.p (.slice b L.length c), .p (.int .i64 ((L.length : Nat) : Int)), .p (.int .i64 0)] [0, 32, 33, 34] (by kernel_rfl) (fun _ => by kernel_rfl) (by kernel_rfl : pick _ _ = some [(0, .slice b L.length c), (32, .slice b L.length c), (33, .int .i64 ((L.length : Nat) : Int)), (34, .int .i64 0)]) (trivial) ?_
      refine RP_pick [0, 32, 33, 34] (by kernel_rfl : pick _ _ = some [(0, .slice b L.length c), (32, .slice b L.length c), (33, .int .i64 ((L.length : Nat) : Int)), (34, .int .i64 0)]) ?_
      refine RP_nil ?_
      refine n_then ?_
      refine W_block ?_
      refine W_loop (fun k_ m_ w_ => ∃ (i : Nat), L.length - i = k_ ∧ m_ = [(0, .slice b L.length c), (32, .slice b L.length c), (33, .int .i64 ((L.length : Nat) : Int)), (34, .int .i64 ((i : Nat) : Int))] ∧ St [] w w_ [] ∧ i ≤ L.length ∧ partsE (prevP L i) (L.drop i) = partsE none L ∧ roomE 256 L = 0) ⟨0, rfl, rfl, st2, Nat.zero_le _, rfl, hrz⟩ ?_
      rintro _ _ w14 ⟨i, rfl, rfl, st13, hil, hle, hrz⟩
      refine W_seq ?_
      refine W_region ?_
      refine RP_seg 1 [.p (.bool (decide (((i : Nat) : Int) < ((L.length : Nat) : Int))))] [0, 32, 33, 34, 35] (by kernel_rfl) (fun _ => by kernel_rfl) (by kernel_rfl : pick _ _ = some [(0, .slice b L.length c), (32, .slice b L.length c), (33, .int .i64 ((L.length : Nat) : Int)), (34, .int .i64 ((i : Nat) : Int)), (35, .bool (decide (((i : Nat) : Int) < ((L.length : Nat) : Int))))]) (trivial) ?_
      refine RP_pick [0, 32, 33, 34, 35] (by kernel_rfl : pick _ _ = some [(0, .slice b L.length c), (32, .slice b L.length c), (33, .int .i64 ((L.length : Nat) : Int)), (34, .int .i64 ((i : Nat) : Int)), (35, .bool (decide (((i : Nat) : Int) < ((L.length : Nat) : Int))))]) ?_
      refine RP_nil ?_
      refine n_then ?_
      refine W_seq ?_
      refine W_cond rfl (fun c35_15 => ?_) (fun c35_15 => ?_)
      ·
        have c35_15p := of_decide_eq_true c35_15
        refine W_skip ?_
        refine n_then ?_
        refine W_seq ?_
        refine W_block ?_
        refine W_seq ?_
        refine W_region ?_
        refine RP_seg 1 [.p (.int .i64 ((i : Nat) : Int))] [0, 32, 33, 34, 36] (by kernel_rfl) (fun _ => by kernel_rfl) (by kernel_rfl : pick _ _ = some [(0, .slice b L.length c), (32, .slice b L.length c), (33, .int .i64 ((L.length : Nat) : Int)), (34, .int .i64 ((i : Nat) : Int)), (36, .int .i64 ((i : Nat) : Int))]) (trivial) ?_
        have hlt : i < L.length := by omega
        obtain ⟨p, hp⟩ : ∃ p, L[i]? = some p := ⟨L[i], by simp [hlt]⟩
        have hbs := hin.some_ (by rw [prtCells_len]; omega)
        have hpe := hes p (List.mem_of_getElem? hp)
        refine RP_q rfl (v := .pointer (some ⟨(sp b), so b + i * 8, none⟩)) (ev_indexI idxPart rfl rfl hbs hlt) ?_
        refine RP_seg 1 [.l 34 (.pointer (some ⟨(sp b), so b + i * 8, none⟩)) (.agg #[.int .i64 p.k, .string p.r.lo, .string p.r.hi, .bool p.r.op, .int .i64 p.t.k, .int .u64 p.t.a, .int .u64 p.t.b, .slice p.eb p.es.length p.ec])] [0, 32, 33, 34, 36, 38] (by kernel_rfl) (fun _ => by kernel_rfl) (by kernel_rfl : pick _ _ = some [(0, .slice b L.length c), (32, .slice b L.length c), (33, .int .i64 ((L.length : Nat) : Int)), (34, .int .i64 ((i : Nat) : Int)), (36, .int .i64 ((i : Nat) : Int)), (38, .agg #[.int .i64 p.k, .string p.r.lo, .string p.r.hi, .bool p.r.op, .int .i64 p.t.k, .int .u64 p.t.a, .int .u64 p.t.b, .slice p.eb p.es.length p.ec])]) ⟨InS.loadN agg_34 (hin.ext0 st13.ext) (prtCells_at hp) rfl (by decide), trivial⟩ ?_
        refine RP_e rfl (ef_alloc st13 zero_34 rfl) ?_
        rintro _ w16 ⟨g19, rfl, hg19, hg19', st17, hx18⟩
        replace st17 : St [] w w16 [(g19, 34, [.int .i64 0, .string (⟨#[]⟩ : ByteArray), .string (⟨#[]⟩ : ByteArray), .bool false, .int .i64 0, .int .u64 0, .int .u64 0, .slice none 0 0])] := st17
        refine RP_seg 1 [.p (.int .i64 ((i : Nat) : Int))] [0, 6, 7, 32, 33, 34, 38] (by kernel_rfl) (fun _ => by kernel_rfl) (by kernel_rfl : pick _ _ = some [(0, .slice b L.length c), (6, .int .i64 ((i : Nat) : Int)), (7, .pointer (some ⟨g19, 0, none⟩)), (32, .slice b L.length c), (33, .int .i64 ((L.length : Nat) : Int)), (34, .int .i64 ((i : Nat) : Int)), (38, .agg #[.int .i64 p.k, .string p.r.lo, .string p.r.hi, .bool p.r.op, .int .i64 p.t.k, .int .u64 p.t.a, .int .u64 p.t.b, .slice p.eb p.es.length p.ec])]) (trivial) ?_
        refine RP_e rfl (ef_store st17 rfl rfl rfl size_34 0 rfl rfl rfl rfl (.inr hg19)) ?_
        rintro _ w20 ⟨rfl, st21, hx22⟩
        replace st21 : St [] w w20 [(g19, 34, [.int .i64 p.k, .string p.r.lo, .string p.r.hi, .bool p.r.op, .int .i64 p.t.k, .int .u64 p.t.a, .int .u64 p.t.b, .slice p.eb p.es.length p.ec])] := st21
        refine RP_pick [0, 6, 7, 32, 33, 34] (by kernel_rfl : pick _ _ = some [(0, .slice b L.length c), (6, .int .i64 ((i : Nat) : Int)), (7, .pointer (some ⟨g19, 0, none⟩)), (32, .slice b L.length c), (33, .int .i64 ((L.length : Nat) : Int)), (34, .int .i64 ((i : Nat) : Int))]) ?_
        refine RP_nil ?_
        refine n_then ?_
        refine W_seq ?_
        refine W_seq ?_
        refine W_region ?_
        refine RP_seg 1 [.l 34 (.pointer (some ⟨g19, 0, none⟩)) (.agg #[.int .i64 p.k, .string p.r.lo, .string p.r.hi, .bool p.r.op, .int .i64 p.t.k, .int .u64 p.t.a, .int .u64 p.t.b, .slice p.eb p.es.length p.ec])] [0, 6, 7, 32, 33, 34, 39] (by kernel_rfl) (fun _ => by kernel_rfl) (by kernel_rfl : pick _ _ = some [(0, .slice b L.length c), (6, .int .i64 ((i : Nat) : Int)), (7, .pointer (some ⟨g19, 0, none⟩)), (32, .slice b L.length c), (33, .int .i64 ((L.length : Nat) : Int)), (34, .int .i64 ((i : Nat) : Int)), (39, .agg #[.int .i64 p.k, .string p.r.lo, .string p.r.hi, .bool p.r.op, .int .i64 p.t.k, .int .u64 p.t.a, .int .u64 p.t.b, .slice p.eb p.es.length p.ec])]) ⟨ldN st21 agg_34 0 rfl rfl rfl, trivial⟩ ?_
        refine RP_e rfl (ef_call (k := 105) (args := [.agg #[.int .i64 p.k, .string p.r.lo, .string p.r.hi, .bool p.r.op, .int .i64 p.t.k, .int .u64 p.t.a, .int .u64 p.t.b, .slice p.eb p.es.length p.ec]]) (checkFields_cr p _) body_105 (by kernel_rfl)) ?_
        rintro _ w23 ⟨_, rfl, rfl, hx25⟩
        have st24 := st21.call0 hx25
        refine RP_seg 1 [.p (.int .i64 p.fields)] [0, 6, 7, 8, 32, 33, 34] (by kernel_rfl) (fun _ => by kernel_rfl) (by kernel_rfl : pick _ _ = some [(0, .slice b L.length c), (6, .int .i64 ((i : Nat) : Int)), (7, .pointer (some ⟨g19, 0, none⟩)), (8, .int .i64 p.fields), (32, .slice b L.length c), (33, .int .i64 ((L.length : Nat) : Int)), (34, .int .i64 ((i : Nat) : Int))]) (trivial) ?_
        refine RP_pick [0, 6, 7, 8, 32, 33, 34] (by kernel_rfl : pick _ _ = some [(0, .slice b L.length c), (6, .int .i64 ((i : Nat) : Int)), (7, .pointer (some ⟨g19, 0, none⟩)), (8, .int .i64 p.fields), (32, .slice b L.length c), (33, .int .i64 ((L.length : Nat) : Int)), (34, .int .i64 ((i : Nat) : Int))]) ?_
        refine RP_nil ?_
        refine n_then ?_
        refine W_seq ?_
        refine W_region ?_
        refine RP_seg 2 [.p (.int .i64 p.fields), .p (.bool (p.fields != 0))] [0, 6, 7, 8, 32, 33, 34, 42] (by kernel_rfl) (fun _ => by kernel_rfl) (by kernel_rfl : pick _ _ = some [(0, .slice b L.length c), (6, .int .i64 ((i : Nat) : Int)), (7, .pointer (some ⟨g19, 0, none⟩)), (8, .int .i64 p.fields), (32, .slice b L.length c), (33, .int .i64 ((L.length : Nat) : Int)), (34, .int .i64 ((i : Nat) : Int)), (42, .bool (p.fields != 0))]) (trivial) ?_
        refine RP_pick [0, 6, 7, 8, 32, 33, 34, 42] (by kernel_rfl : pick _ _ = some [(0, .slice b L.length c), (6, .int .i64 ((i : Nat) : Int)), (7, .pointer (some ⟨g19, 0, none⟩)), (8, .int .i64 p.fields), (32, .slice b L.length c), (33, .int .i64 ((L.length : Nat) : Int)), (34, .int .i64 ((i : Nat) : Int)), (42, .bool (p.fields != 0))]) ?_
        refine RP_nil ?_
        refine n_then ?_
        refine W_cond rfl (fun c42_26 => ?_) (fun c42_26 => ?_)
        ·
          refine W_seq ?_
          refine W_region ?_
          refine RP_seg 2 [.p (.int .i64 p.fields), .p (.int .i64 p.fields)] [2] (by kernel_rfl) (fun _ => by kernel_rfl) (by kernel_rfl : pick _ _ = some [(2, .int .i64 p.fields)]) (trivial) ?_
          refine RP_pick [2] (by kernel_rfl : pick _ _ = some [(2, .int .i64 p.fields)]) ?_
          refine RP_nil ?_
          refine n_then ?_
          refine W_ret ?_
          refine r_then <| r_block <| r_then <| r_loop <| r_block <| r_then ?_
          have hok : partE (prevP L i) p = p.fields := by unfold partE Tal.may;  (try rw [c42_26]); rfl
          have hnz : (p.fields : Int) ≠ 0 := by simpa using c42_26
          have hz : partsE none L = p.fields := by rw [← hle, partsE_drop L hp, hok, show ((p.fields : Int) != 0) = true from by simpa using hnz]; rfl
          refine ret_of (P := Tryd.prog) (fn := Tryd.f47) (m := [(2, .int .i64 p.fields)]) (w := w23) (res1 rfl (rv_tmp rfl)) ?_
          -- return 2: .int .i64 p.fields
          exact ⟨by rw [c14_1, hrz, hz]; rfl, st24.ext⟩
        ·
          refine W_skip ?_
          refine n_then ?_
          refine W_seq ?_
          refine W_seq ?_
          refine W_region ?_
          refine RP_seg 2 [.p (.pointer (some ⟨g19, 1, none⟩)), .l 24 (.pointer (some ⟨g19, 1, none⟩)) (.agg #[.string p.r.lo, .string p.r.hi, .bool p.r.op])] [0, 6, 7, 32, 33, 34, 45] (by kernel_rfl) (fun _ => by kernel_rfl) (by kernel_rfl : pick _ _ = some [(0, .slice b L.length c), (6, .int .i64 ((i : Nat) : Int)), (7, .pointer (some ⟨g19, 0, none⟩)), (32, .slice b L.length c), (33, .int .i64 ((L.length : Nat) : Int)), (34, .int .i64 ((i : Nat) : Int)), (45, .agg #[.string p.r.lo, .string p.r.hi, .bool p.r.op])]) ⟨ldN st24 agg_24 0 rfl rfl rfl, trivial⟩ ?_
          refine RP_e rfl (ef_call (k := 29) (args := [.agg #[.string p.r.lo, .string p.r.hi, .bool p.r.op]]) (spanCheck_cr p.r _) body_29 (by kernel_rfl)) ?_
          rintro _ w27 ⟨_, rfl, rfl, hx29⟩
          have st28 := st24.call0 hx29
          refine RP_seg 1 [.p (.int .i64 p.r.check)] [0, 6, 7, 9, 32, 33, 34] (by kernel_rfl) (fun _ => by kernel_rfl) (by kernel_rfl : pick _ _ = some [(0, .slice b L.length c), (6, .int .i64 ((i : Nat) : Int)), (7, .pointer (some ⟨g19, 0, none⟩)), (9, .int .i64 p.r.check), (32, .slice b L.length c), (33, .int .i64 ((L.length : Nat) : Int)), (34, .int .i64 ((i : Nat) : Int))]) (trivial) ?_
          refine RP_pick [0, 6, 7, 9, 32, 33, 34] (by kernel_rfl : pick _ _ = some [(0, .slice b L.length c), (6, .int .i64 ((i : Nat) : Int)), (7, .pointer (some ⟨g19, 0, none⟩)), (9, .int .i64 p.r.check), (32, .slice b L.length c), (33, .int .i64 ((L.length : Nat) : Int)), (34, .int .i64 ((i : Nat) : Int))]) ?_
          refine RP_nil ?_
          refine n_then ?_
          refine W_seq ?_
          refine W_region ?_
          refine RP_seg 2 [.p (.int .i64 p.r.check), .p (.bool (p.r.check != 0))] [0, 6, 7, 9, 32, 33, 34, 48] (by kernel_rfl) (fun _ => by kernel_rfl) (by kernel_rfl : pick _ _ = some [(0, .slice b L.length c), (6, .int .i64 ((i : Nat) : Int)), (7, .pointer (some ⟨g19, 0, none⟩)), (9, .int .i64 p.r.check), (32, .slice b L.length c), (33, .int .i64 ((L.length : Nat) : Int)), (34, .int .i64 ((i : Nat) : Int)), (48, .bool (p.r.check != 0))]) (trivial) ?_
          refine RP_pick [0, 6, 7, 9, 32, 33, 34, 48] (by kernel_rfl : pick _ _ = some [(0, .slice b L.length c), (6, .int .i64 ((i : Nat) : Int)), (7, .pointer (some ⟨g19, 0, none⟩)), (9, .int .i64 p.r.check), (32, .slice b L.length c), (33, .int .i64 ((L.length : Nat) : Int)), (34, .int .i64 ((i : Nat) : Int)), (48, .bool (p.r.check != 0))]) ?_
          refine RP_nil ?_
          refine n_then ?_
          refine W_cond rfl (fun c48_30 => ?_) (fun c48_30 => ?_)
          ·
            refine W_seq ?_
            refine W_region ?_
            refine RP_seg 2 [.p (.int .i64 p.r.check), .p (.int .i64 p.r.check)] [2] (by kernel_rfl) (fun _ => by kernel_rfl) (by kernel_rfl : pick _ _ = some [(2, .int .i64 p.r.check)]) (trivial) ?_
            refine RP_pick [2] (by kernel_rfl : pick _ _ = some [(2, .int .i64 p.r.check)]) ?_
            refine RP_nil ?_
            refine n_then ?_
            refine W_ret ?_
            refine r_then <| r_block <| r_then <| r_loop <| r_block <| r_then ?_
            have hok : partE (prevP L i) p = p.r.check := by unfold partE Tal.may;  (try rw [c42_26]); (try rw [c48_30]); rfl
            have hnz : (p.r.check : Int) ≠ 0 := by simpa using c48_30
            have hz : partsE none L = p.r.check := by rw [← hle, partsE_drop L hp, hok, show ((p.r.check : Int) != 0) = true from by simpa using hnz]; rfl
            refine ret_of (P := Tryd.prog) (fn := Tryd.f47) (m := [(2, .int .i64 p.r.check)]) (w := w27) (res1 rfl (rv_tmp rfl)) ?_
            -- return 3: .int .i64 p.r.check
            exact ⟨by rw [c14_1, hrz, hz]; rfl, st28.ext⟩
          ·
            refine W_skip ?_
            refine n_then ?_
            refine W_seq ?_
            refine W_seq ?_
            -- region 20 draws: [(1, 0), (1, 1), (2, 2), (1, 3), (1, 4), (1, 5), (1, 6), (1, 7), (1, 8), (1, 9), (1, 10), (1, 11), (1, 12), (1, 13), (1, 14), (1, 15), (1, 16), (1, 17), (1, 18), (1, 19), (1, 20), (1, 21), (1, 22), (1, 23), (1, 24), (1, 25), (1, 26), (1, 27), (1, 28)]
            refine W_regionS (fun w' => Blk w' g19 34 [.int .i64 p.k, .string p.r.lo, .string p.r.hi, .bool p.r.op, .int .i64 p.t.k, .int .u64 p.t.a, .int .u64 p.t.b, .slice p.eb p.es.length p.ec].toArray ∧ InS w' b (prtCells L)) [(1, 0), (1, 1), (2, 2), (1, 3), (1, 4), (1, 5), (1, 6), (1, 7), (1, 8), (1, 9), (1, 10), (1, 11), (1, 12), (1, 13), (1, 14), (1, 15), (1, 16), (1, 17), (1, 18), (1, 19), (1, 20), (1, 21), (1, 22), (1, 23), (1, 24), (1, 25), (1, 26), (1, 27), (1, 28)] 29 (by kernel_rfl) (by kernel_rfl) ?_
            have st31 := st28.drew
            refine RS_seg 2 [.p (.pointer (some ⟨g19, 1, none⟩)), .l 24 (.pointer (some ⟨g19, 1, none⟩)) (.agg #[.string p.r.lo, .string p.r.hi, .bool p.r.op])] [0, 6, 7, 32, 33, 34, 51] (by kernel_rfl) (by kernel_rfl) (⟨st31.get 0 rfl, hin.ext0 st31.ext⟩) (by kernel_rfl) (fun _ => by kernel_rfl) (by kernel_rfl : pick _ _ = some [(0, .slice b L.length c), (6, .int .i64 ((i : Nat) : Int)), (7, .pointer (some ⟨g19, 0, none⟩)), (32, .slice b L.length c), (33, .int .i64 ((L.length : Nat) : Int)), (34, .int .i64 ((i : Nat) : Int)), (51, .agg #[.string p.r.lo, .string p.r.hi, .bool p.r.op])]) (fun _ hS => ⟨ldNb (hS.1) agg_24 rfl rfl, trivial⟩) ?_
            refine RS_e rfl rfl (ef_call (k := 45) (args := [.agg #[.string p.r.lo, .string p.r.hi, .bool p.r.op]]) (spanEmpty_cr p.r _) body_45 (by kernel_rfl)) ?_
            rintro _ w32 ⟨_, rfl, rfl, hx34⟩
            have st33 := st31.call0 hx34
            refine ⟨⟨st33.get 0 rfl, hin.ext0 st33.ext⟩, ?_⟩
            refine RS_seg 1 [.p (.bool p.r.empty)] [0, 6, 7, 32, 33, 34, 53] (by kernel_rfl) (by kernel_rfl) (⟨st33.get 0 rfl, hin.ext0 st33.ext⟩) (by kernel_rfl) (fun _ => by kernel_rfl) (by kernel_rfl : pick _ _ = some [(0, .slice b L.length c), (6, .int .i64 ((i : Nat) : Int)), (7, .pointer (some ⟨g19, 0, none⟩)), (32, .slice b L.length c), (33, .int .i64 ((L.length : Nat) : Int)), (34, .int .i64 ((i : Nat) : Int)), (53, .bool p.r.empty)]) (fun _ hS => trivial) ?_
            rcases Bool.eq_false_or_eq_true (p.r.empty) with c53_35 | c53_35
            ·
              refine RS_at (m' := [(0, .slice b L.length c), (6, .int .i64 ((i : Nat) : Int)), (7, .pointer (some ⟨g19, 0, none⟩)), (32, .slice b L.length c), (33, .int .i64 ((L.length : Nat) : Int)), (34, .int .i64 ((i : Nat) : Int)), (53, .bool true)]) (by rw [c53_35]) ?_
              refine RS_seg 25 [.no, .no, .no, .no, .no, .no, .no, .no, .no, .no, .no, .no, .no, .no, .no, .no, .no, .no, .no, .no, .no, .no, .no, .no, .p (.bool true)] [0, 7, 32, 33, 34, 78] (by kernel_rfl) (by kernel_rfl) (⟨st33.get 0 rfl, hin.ext0 st33.ext⟩) (by kernel_rfl) (fun _ => by kernel_rfl) (by kernel_rfl : pick _ _ = some [(0, .slice b L.length c), (7, .pointer (some ⟨g19, 0, none⟩)), (32, .slice b L.length c), (33, .int .i64 ((L.length : Nat) : Int)), (34, .int .i64 ((i : Nat) : Int)), (78, .bool true)]) (fun _ hS => trivial) ?_
              refine RS_pick [0, 7, 32, 33, 34, 78] (by kernel_rfl : pick _ _ = some [(0, .slice b L.length c), (7, .pointer (some ⟨g19, 0, none⟩)), (32, .slice b L.length c), (33, .int .i64 ((L.length : Nat) : Int)), (34, .int .i64 ((i : Nat) : Int)), (78, .bool true)]) ?_
              refine RS_nil ?_
              refine n_then ?_
              refine W_true rfl ?_
              refine W_seq ?_
              refine W_region ?_
              refine RP_seg 1 [.p (.int .i64 115)] [2] (by kernel_rfl) (fun _ => by kernel_rfl) (by kernel_rfl : pick _ _ = some [(2, .int .i64 115)]) (trivial) ?_
              refine RP_pick [2] (by kernel_rfl : pick _ _ = some [(2, .int .i64 115)]) ?_
              refine RP_nil ?_
              refine n_then ?_
              refine W_ret ?_
              refine r_then <| r_block <| r_then <| r_loop <| r_block <| r_then ?_
              have hok : partE (prevP L i) p = 115 := by unfold partE Tal.may;  (try rw [c42_26]); (try rw [c48_30]); (try rw [c53_35]); rfl
              have hnz : (115 : Int) ≠ 0 := (by decide : (115 : Int) ≠ 0)
              have hz : partsE none L = 115 := by rw [← hle, partsE_drop L hp, hok, show ((115 : Int) != 0) = true from by simpa using hnz]; rfl
              refine ret_of (P := Tryd.prog) (fn := Tryd.f47) (m := [(2, .int .i64 115)]) (w := w32) (res1 rfl (rv_tmp rfl)) ?_
              -- return 4: .int .i64 115
              exact ⟨by rw [c14_1, hrz, hz]; rfl, st33.ext⟩
            ·
              refine RS_at (m' := [(0, .slice b L.length c), (6, .int .i64 ((i : Nat) : Int)), (7, .pointer (some ⟨g19, 0, none⟩)), (32, .slice b L.length c), (33, .int .i64 ((L.length : Nat) : Int)), (34, .int .i64 ((i : Nat) : Int)), (53, .bool false)]) (by rw [c53_35]) ?_
              refine RS_seg 3 [.p (.int .i64 ((i : Nat) : Int)), .p (.bool (decide (((i : Nat) : Int) > 0))), .p (.bool (decide (((i : Nat) : Int) > 0)))] [0, 6, 7, 32, 33, 34, 53, 56] (by kernel_rfl) (by kernel_rfl) (⟨st33.get 0 rfl, hin.ext0 st33.ext⟩) (by kernel_rfl) (fun _ => by kernel_rfl) (by kernel_rfl : pick _ _ = some [(0, .slice b L.length c), (6, .int .i64 ((i : Nat) : Int)), (7, .pointer (some ⟨g19, 0, none⟩)), (32, .slice b L.length c), (33, .int .i64 ((L.length : Nat) : Int)), (34, .int .i64 ((i : Nat) : Int)), (53, .bool false), (56, .bool (decide (((i : Nat) : Int) > 0)))]) (fun _ hS => trivial) ?_
              rcases Bool.eq_false_or_eq_true (decide (((i : Nat) : Int) > 0)) with c56_36 | c56_36
              ·
                have c56_36p := of_decide_eq_true c56_36
                refine RS_at (m' := [(0, .slice b L.length c), (6, .int .i64 ((i : Nat) : Int)), (7, .pointer (some ⟨g19, 0, none⟩)), (32, .slice b L.length c), (33, .int .i64 ((L.length : Nat) : Int)), (34, .int .i64 ((i : Nat) : Int)), (53, .bool false), (56, .bool true)]) (by rw [c56_36]) ?_
                refine RS_seg 3 [.p (.slice b L.length c), .p (.int .i64 ((i : Nat) : Int)), .p (.int .i64 (IntKind.i64.wrap (((i : Nat) : Int) - 1)))] [0, 6, 7, 32, 33, 34, 53, 56, 57, 59] (by kernel_rfl) (by kernel_rfl) (⟨st33.get 0 rfl, hin.ext0 st33.ext⟩) (by kernel_rfl) (fun _ => by kernel_rfl) (by kernel_rfl : pick _ _ = some [(0, .slice b L.length c), (6, .int .i64 ((i : Nat) : Int)), (7, .pointer (some ⟨g19, 0, none⟩)), (32, .slice b L.length c), (33, .int .i64 ((L.length : Nat) : Int)), (34, .int .i64 ((i : Nat) : Int)), (53, .bool false), (56, .bool true), (57, .slice b L.length c), (59, .int .i64 (IntKind.i64.wrap (((i : Nat) : Int) - 1)))]) (fun _ hS => trivial) ?_
                refine RS_at (m' := [(0, .slice b L.length c), (6, .int .i64 ((i : Nat) : Int)), (7, .pointer (some ⟨g19, 0, none⟩)), (32, .slice b L.length c), (33, .int .i64 ((L.length : Nat) : Int)), (34, .int .i64 ((i : Nat) : Int)), (53, .bool false), (56, .bool true), (57, .slice b L.length c), (59, .int .i64 (((i - 1) : Nat) : Int))]) (by rw [show IntKind.i64.wrap (((i : Nat) : Int) - 1) = ((i - 1 : Nat) : Int) by rw [wrap_in (by omega) (by omega)]; omega]) ?_
                obtain ⟨q, hq⟩ : ∃ q, L[i - 1]? = some q := ⟨L[i - 1], by simp⟩
                refine RS_gq rfl rfl rfl (⟨st33.get 0 rfl, hin.ext0 st33.ext⟩) (v := .pointer (some ⟨(sp b), so b + (i - 1) * 8, none⟩)) (fun _ _ => ev_indexI idxPart rfl rfl hbs (by omega)) ?_
                refine RS_seg 4 [.p (.pointer (some ⟨(sp b), so b + (i - 1) * 8 + 1, none⟩)), .p (.pointer (some ⟨(sp b), so b + (i - 1) * 8 + 3, none⟩)), .l 4 (.pointer (some ⟨(sp b), so b + (i - 1) * 8 + 3, none⟩)) (.bool q.r.op), .p (.bool q.r.op)] [0, 6, 7, 32, 33, 34, 53, 56, 64] (by kernel_rfl) (by kernel_rfl) (⟨st33.get 0 rfl, hin.ext0 st33.ext⟩) (by kernel_rfl) (fun _ => by kernel_rfl) (by kernel_rfl : pick _ _ = some [(0, .slice b L.length c), (6, .int .i64 ((i : Nat) : Int)), (7, .pointer (some ⟨g19, 0, none⟩)), (32, .slice b L.length c), (33, .int .i64 ((L.length : Nat) : Int)), (34, .int .i64 ((i : Nat) : Int)), (53, .bool false), (56, .bool true), (64, .bool q.r.op)]) (fun _ hS => ⟨(InS.load1f nagg_4 (hS.2) (prtCells_f (k := 3) hq (by decide) rfl)), trivial⟩) ?_
                rcases Bool.eq_false_or_eq_true (q.r.op) with c64_37 | c64_37
                ·
                  refine RS_at (m' := [(0, .slice b L.length c), (6, .int .i64 ((i : Nat) : Int)), (7, .pointer (some ⟨g19, 0, none⟩)), (32, .slice b L.length c), (33, .int .i64 ((L.length : Nat) : Int)), (34, .int .i64 ((i : Nat) : Int)), (53, .bool false), (56, .bool true), (64, .bool true)]) (by rw [c64_37]) ?_
                  refine RS_seg 14 [.no, .no, .no, .no, .no, .no, .no, .no, .no, .no, .no, .p (.bool true), .p (.bool true), .p (.bool true)] [0, 7, 32, 33, 34, 78] (by kernel_rfl) (by kernel_rfl) (⟨st33.get 0 rfl, hin.ext0 st33.ext⟩) (by kernel_rfl) (fun _ => by kernel_rfl) (by kernel_rfl : pick _ _ = some [(0, .slice b L.length c), (7, .pointer (some ⟨g19, 0, none⟩)), (32, .slice b L.length c), (33, .int .i64 ((L.length : Nat) : Int)), (34, .int .i64 ((i : Nat) : Int)), (78, .bool true)]) (fun _ hS => trivial) ?_
                  refine RS_pick [0, 7, 32, 33, 34, 78] (by kernel_rfl : pick _ _ = some [(0, .slice b L.length c), (7, .pointer (some ⟨g19, 0, none⟩)), (32, .slice b L.length c), (33, .int .i64 ((L.length : Nat) : Int)), (34, .int .i64 ((i : Nat) : Int)), (78, .bool true)]) ?_
                  refine RS_nil ?_
                  refine n_then ?_
                  refine W_true rfl ?_
                  refine W_seq ?_
                  refine W_region ?_
                  refine RP_seg 1 [.p (.int .i64 115)] [2] (by kernel_rfl) (fun _ => by kernel_rfl) (by kernel_rfl : pick _ _ = some [(2, .int .i64 115)]) (trivial) ?_
                  refine RP_pick [2] (by kernel_rfl : pick _ _ = some [(2, .int .i64 115)]) ?_
                  refine RP_nil ?_
                  refine n_then ?_
                  refine W_ret ?_
                  refine r_then <| r_block <| r_then <| r_loop <| r_block <| r_then ?_
                  have hpv : prevP L i = some q := by unfold prevP; rw [if_neg (by omega)]; exact hq
                  have hok : partE (prevP L i) p = 115 := by unfold partE Tal.may; (try rw [hpv]); (try dsimp only); (try rw [c42_26]); (try rw [c48_30]); (try rw [c53_35]); (try rw [c64_37]); rfl
                  have hnz : (115 : Int) ≠ 0 := (by decide : (115 : Int) ≠ 0)
                  have hz : partsE none L = 115 := by rw [← hle, partsE_drop L hp, hok, show ((115 : Int) != 0) = true from by simpa using hnz]; rfl
                  refine ret_of (P := Tryd.prog) (fn := Tryd.f47) (m := [(2, .int .i64 115)]) (w := w32) (res1 rfl (rv_tmp rfl)) ?_
                  -- return 5: .int .i64 115
                  exact ⟨by rw [c14_1, hrz, hz]; rfl, st33.ext⟩
                ·
                  refine RS_at (m' := [(0, .slice b L.length c), (6, .int .i64 ((i : Nat) : Int)), (7, .pointer (some ⟨g19, 0, none⟩)), (32, .slice b L.length c), (33, .int .i64 ((L.length : Nat) : Int)), (34, .int .i64 ((i : Nat) : Int)), (53, .bool false), (56, .bool true), (64, .bool false)]) (by rw [c64_37]) ?_
                  refine RS_seg 6 [.p (.pointer (some ⟨g19, 1, none⟩)), .p (.pointer (some ⟨g19, 1, none⟩)), .l 9 (.pointer (some ⟨g19, 1, none⟩)) (.string p.r.lo), .p (.slice b L.length c), .p (.int .i64 ((i : Nat) : Int)), .p (.int .i64 (IntKind.i64.wrap (((i : Nat) : Int) - 1)))] [0, 7, 32, 33, 34, 53, 56, 64, 67, 68, 70] (by kernel_rfl) (by kernel_rfl) (⟨st33.get 0 rfl, hin.ext0 st33.ext⟩) (by kernel_rfl) (fun _ => by kernel_rfl) (by kernel_rfl : pick _ _ = some [(0, .slice b L.length c), (7, .pointer (some ⟨g19, 0, none⟩)), (32, .slice b L.length c), (33, .int .i64 ((L.length : Nat) : Int)), (34, .int .i64 ((i : Nat) : Int)), (53, .bool false), (56, .bool true), (64, .bool false), (67, .string p.r.lo), (68, .slice b L.length c), (70, .int .i64 (IntKind.i64.wrap (((i : Nat) : Int) - 1)))]) (fun _ hS => ⟨ld1b (hS.1) nagg_9 rfl, trivial⟩) ?_
                  refine RS_at (m' := [(0, .slice b L.length c), (7, .pointer (some ⟨g19, 0, none⟩)), (32, .slice b L.length c), (33, .int .i64 ((L.length : Nat) : Int)), (34, .int .i64 ((i : Nat) : Int)), (53, .bool false), (56, .bool true), (64, .bool false), (67, .string p.r.lo), (68, .slice b L.length c), (70, .int .i64 (((i - 1) : Nat) : Int))]) (by rw [show IntKind.i64.wrap (((i : Nat) : Int) - 1) = ((i - 1 : Nat) : Int) by rw [wrap_in (by omega) (by omega)]; omega]) ?_
                  refine RS_gq rfl rfl rfl (⟨st33.get 0 rfl, hin.ext0 st33.ext⟩) (v := .pointer (some ⟨(sp b), so b + (i - 1) * 8, none⟩)) (fun _ _ => ev_indexI idxPart rfl rfl hbs (by omega)) ?_
                  refine RS_seg 7 [.p (.pointer (some ⟨(sp b), so b + (i - 1) * 8 + 1, none⟩)), .p (.pointer (some ⟨(sp b), so b + (i - 1) * 8 + 2, none⟩)), .l 9 (.pointer (some ⟨(sp b), so b + (i - 1) * 8 + 2, none⟩)) (.string q.r.hi), .p (.bool (Op.bytesLess (p.r.lo).toList (q.r.hi).toList)), .p (.bool (Op.bytesLess (p.r.lo).toList (q.r.hi).toList)), .p (.bool (Op.bytesLess (p.r.lo).toList (q.r.hi).toList)), .p (.bool (Op.bytesLess (p.r.lo).toList (q.r.hi).toList))] [0, 7, 32, 33, 34, 78] (by kernel_rfl) (by kernel_rfl) (⟨st33.get 0 rfl, hin.ext0 st33.ext⟩) (by kernel_rfl) (fun _ => by kernel_rfl) (by kernel_rfl : pick _ _ = some [(0, .slice b L.length c), (7, .pointer (some ⟨g19, 0, none⟩)), (32, .slice b L.length c), (33, .int .i64 ((L.length : Nat) : Int)), (34, .int .i64 ((i : Nat) : Int)), (78, .bool (Op.bytesLess (p.r.lo).toList (q.r.hi).toList))]) (fun _ hS => ⟨(InS.load1f nagg_9 (hS.2) (prtCells_f (k := 2) hq (by decide) rfl)), trivial⟩) ?_
                  refine RS_pick [0, 7, 32, 33, 34, 78] (by kernel_rfl : pick _ _ = some [(0, .slice b L.length c), (7, .pointer (some ⟨g19, 0, none⟩)), (32, .slice b L.length c), (33, .int .i64 ((L.length : Nat) : Int)), (34, .int .i64 ((i : Nat) : Int)), (78, .bool (Op.bytesLess (p.r.lo).toList (q.r.hi).toList))]) ?_
                  refine RS_nil ?_
                  refine n_then ?_
                  refine W_cond rfl (fun c78_38 => ?_) (fun c78_38 => ?_)
                  ·
                    refine W_seq ?_
                    refine W_region ?_
                    refine RP_seg 1 [.p (.int .i64 115)] [2] (by kernel_rfl) (fun _ => by kernel_rfl) (by kernel_rfl : pick _ _ = some [(2, .int .i64 115)]) (trivial) ?_
                    refine RP_pick [2] (by kernel_rfl : pick _ _ = some [(2, .int .i64 115)]) ?_
                    refine RP_nil ?_
                    refine n_then ?_
                    refine W_ret ?_
                    refine r_then <| r_block <| r_then <| r_loop <| r_block <| r_then ?_
                    have hpv : prevP L i = some q := by unfold prevP; rw [if_neg (by omega)]; exact hq
                    have hok : partE (prevP L i) p = 115 := by unfold partE Tal.may; (try rw [hpv]); (try dsimp only); (try rw [c42_26]); (try rw [c48_30]); (try rw [c53_35]); (try rw [c64_37]); (try rw [c78_38]); rfl
                    have hnz : (115 : Int) ≠ 0 := (by decide : (115 : Int) ≠ 0)
                    have hz : partsE none L = 115 := by rw [← hle, partsE_drop L hp, hok, show ((115 : Int) != 0) = true from by simpa using hnz]; rfl
                    refine ret_of (P := Tryd.prog) (fn := Tryd.f47) (m := [(2, .int .i64 115)]) (w := w32) (res1 rfl (rv_tmp rfl)) ?_
                    -- return 6: .int .i64 115
                    exact ⟨by rw [c14_1, hrz, hz]; rfl, st33.ext⟩
                  ·
                    refine W_skip ?_
                    refine n_then ?_
                    refine W_seq ?_
                    refine W_region ?_
                    refine RP_seg 3 [.p (.pointer (some ⟨g19, 0, none⟩)), .l 3 (.pointer (some ⟨g19, 0, none⟩)) (.int .i64 p.k), .p (.bool (p.k != 1))] [0, 7, 32, 33, 34, 81] (by kernel_rfl) (fun _ => by kernel_rfl) (by kernel_rfl : pick _ _ = some [(0, .slice b L.length c), (7, .pointer (some ⟨g19, 0, none⟩)), (32, .slice b L.length c), (33, .int .i64 ((L.length : Nat) : Int)), (34, .int .i64 ((i : Nat) : Int)), (81, .bool (p.k != 1))]) ⟨ld1 st33 nagg_3 0 rfl rfl, trivial⟩ ?_
                    refine RP_pick [0, 7, 32, 33, 34, 81] (by kernel_rfl : pick _ _ = some [(0, .slice b L.length c), (7, .pointer (some ⟨g19, 0, none⟩)), (32, .slice b L.length c), (33, .int .i64 ((L.length : Nat) : Int)), (34, .int .i64 ((i : Nat) : Int)), (81, .bool (p.k != 1))]) ?_
                    refine RP_nil ?_
                    refine n_then ?_
                    refine W_cond rfl (fun c81_39 => ?_) (fun c81_39 => ?_)
                    ·
                      refine W_seq ?_
                      refine W_region ?_
                      refine RP_seg 1 [.l 34 (.pointer (some ⟨g19, 0, none⟩)) (.agg #[.int .i64 p.k, .string p.r.lo, .string p.r.hi, .bool p.r.op, .int .i64 p.t.k, .int .u64 p.t.a, .int .u64 p.t.b, .slice p.eb p.es.length p.ec])] [0, 32, 33, 34, 82] (by kernel_rfl) (fun _ => by kernel_rfl) (by kernel_rfl : pick _ _ = some [(0, .slice b L.length c), (32, .slice b L.length c), (33, .int .i64 ((L.length : Nat) : Int)), (34, .int .i64 ((i : Nat) : Int)), (82, .agg #[.int .i64 p.k, .string p.r.lo, .string p.r.hi, .bool p.r.op, .int .i64 p.t.k, .int .u64 p.t.a, .int .u64 p.t.b, .slice p.eb p.es.length p.ec])]) ⟨ldN st33 agg_34 0 rfl rfl rfl, trivial⟩ ?_
                      refine RP_e rfl (ef_call (k := 106) (args := [.agg #[.int .i64 p.k, .string p.r.lo, .string p.r.hi, .bool p.r.op, .int .i64 p.t.k, .int .u64 p.t.a, .int .u64 p.t.b, .slice p.eb p.es.length p.ec]]) (checkEntries_cr p ((hps p (List.mem_of_getElem? hp)).ext0 st33.ext) hpe) body_106 (by kernel_rfl)) ?_
                      rintro _ w40 ⟨_, rfl, rfl, hx42⟩
                      have st41 := st33.call0 hx42
                      refine RP_seg 1 [.p (.int .i64 p.entries)] [0, 10, 32, 33, 34] (by kernel_rfl) (fun _ => by kernel_rfl) (by kernel_rfl : pick _ _ = some [(0, .slice b L.length c), (10, .int .i64 p.entries), (32, .slice b L.length c), (33, .int .i64 ((L.length : Nat) : Int)), (34, .int .i64 ((i : Nat) : Int))]) (trivial) ?_
                      refine RP_pick [0, 10, 32, 33, 34] (by kernel_rfl : pick _ _ = some [(0, .slice b L.length c), (10, .int .i64 p.entries), (32, .slice b L.length c), (33, .int .i64 ((L.length : Nat) : Int)), (34, .int .i64 ((i : Nat) : Int))]) ?_
                      refine RP_nil ?_
                      refine n_then ?_
                      refine W_seq ?_
                      refine W_region ?_
                      refine RP_seg 2 [.p (.int .i64 p.entries), .p (.bool (p.entries != 0))] [0, 10, 32, 33, 34, 85] (by kernel_rfl) (fun _ => by kernel_rfl) (by kernel_rfl : pick _ _ = some [(0, .slice b L.length c), (10, .int .i64 p.entries), (32, .slice b L.length c), (33, .int .i64 ((L.length : Nat) : Int)), (34, .int .i64 ((i : Nat) : Int)), (85, .bool (p.entries != 0))]) (trivial) ?_
                      refine RP_pick [0, 10, 32, 33, 34, 85] (by kernel_rfl : pick _ _ = some [(0, .slice b L.length c), (10, .int .i64 p.entries), (32, .slice b L.length c), (33, .int .i64 ((L.length : Nat) : Int)), (34, .int .i64 ((i : Nat) : Int)), (85, .bool (p.entries != 0))]) ?_
                      refine RP_nil ?_
                      refine n_then ?_
                      refine W_cond rfl (fun c85_43 => ?_) (fun c85_43 => ?_)
                      ·
                        refine W_seq ?_
                        refine W_region ?_
                        refine RP_seg 2 [.p (.int .i64 p.entries), .p (.int .i64 p.entries)] [2] (by kernel_rfl) (fun _ => by kernel_rfl) (by kernel_rfl : pick _ _ = some [(2, .int .i64 p.entries)]) (trivial) ?_
                        refine RP_pick [2] (by kernel_rfl : pick _ _ = some [(2, .int .i64 p.entries)]) ?_
                        refine RP_nil ?_
                        refine n_then ?_
                        refine W_ret ?_
                        refine r_block <| r_then <| r_loop <| r_block <| r_then ?_
                        have hpv : prevP L i = some q := by unfold prevP; rw [if_neg (by omega)]; exact hq
                        have hok : partE (prevP L i) p = p.entries := by unfold partE Tal.may; (try rw [hpv]); (try dsimp only); (try rw [c42_26]); (try rw [c48_30]); (try rw [c53_35]); (try rw [c64_37]); (try rw [c78_38]); (try rw [c81_39]); (try rw [c85_43]); rfl
                        have hnz : (p.entries : Int) ≠ 0 := by simpa using c85_43
                        have hz : partsE none L = p.entries := by rw [← hle, partsE_drop L hp, hok, show ((p.entries : Int) != 0) = true from by simpa using hnz]; rfl
                        refine ret_of (P := Tryd.prog) (fn := Tryd.f47) (m := [(2, .int .i64 p.entries)]) (w := w40) (res1 rfl (rv_tmp rfl)) ?_
                        -- return 7: .int .i64 p.entries
                        exact ⟨by rw [c14_1, hrz, hz]; rfl, st41.ext⟩
                      ·
                        refine W_skip ?_
                        refine n_block ?_
                        refine n_then ?_
                        refine W_region ?_
                        refine RP_seg 2 [.p (.int .i64 (IntKind.i64.wrap (((i : Nat) : Int) + 1))), .p (.int .i64 (IntKind.i64.wrap (((i : Nat) : Int) + 1)))] [0, 32, 33, 34] (by kernel_rfl) (fun _ => by kernel_rfl) (by kernel_rfl : pick _ _ = some [(0, .slice b L.length c), (32, .slice b L.length c), (33, .int .i64 ((L.length : Nat) : Int)), (34, .int .i64 (IntKind.i64.wrap (((i : Nat) : Int) + 1)))]) (trivial) ?_
                        refine RP_pick [0, 32, 33, 34] (by kernel_rfl : pick _ _ = some [(0, .slice b L.length c), (32, .slice b L.length c), (33, .int .i64 ((L.length : Nat) : Int)), (34, .int .i64 (IntKind.i64.wrap (((i : Nat) : Int) + 1)))]) ?_
                        refine RP_nil ?_
                        have hpv : prevP L i = some q := by unfold prevP; rw [if_neg (by omega)]; exact hq
                        have hez : p.entries = 0 := by simpa using c85_43
                        have hok : partE (prevP L i) p = 0 := by unfold partE Tal.may; (try rw [hpv]); (try dsimp only); (try rw [c42_26]); (try rw [c48_30]); (try rw [c53_35]); (try rw [c64_37]); (try rw [c78_38]); (try rw [c81_39]); (try rw [c85_43]); (try rw [hez]); rfl
                        have hz : partsE (prevP L (i + 1)) (L.drop (i + 1)) = partsE none L := by rw [← hle, partsE_drop L hp, hok]; rfl
                        -- back 0: [(0, .slice b L.length c), (32, .slice b L.length c), (33, .int .i64 ((L.length : Nat) : Int)), (34, .int .i64 (IntKind.i64.wrap (((i : Nat) : Int) + 1)))]
                        exact ⟨_, by omega, (i + 1), rfl, by rw [inc_w (n := i) (by omega)], st41.sub [] (List.sublist_cons_self _ _), by omega, hz, hrz⟩
                    ·
                      refine W_seq ?_
                      refine W_region ?_
                      refine RP_seg 4 [.p (.pointer (some ⟨g19, 4, none⟩)), .p (.pointer (some ⟨g19, 4, none⟩)), .l 3 (.pointer (some ⟨g19, 4, none⟩)) (.int .i64 p.t.k), .p (.int .i64 p.t.k)] [0, 7, 11, 32, 33, 34] (by kernel_rfl) (fun _ => by kernel_rfl) (by kernel_rfl : pick _ _ = some [(0, .slice b L.length c), (7, .pointer (some ⟨g19, 0, none⟩)), (11, .int .i64 p.t.k), (32, .slice b L.length c), (33, .int .i64 ((L.length : Nat) : Int)), (34, .int .i64 ((i : Nat) : Int))]) ⟨ld1 st33 nagg_3 0 rfl rfl, trivial⟩ ?_
                      refine RP_pick [0, 7, 11, 32, 33, 34] (by kernel_rfl : pick _ _ = some [(0, .slice b L.length c), (7, .pointer (some ⟨g19, 0, none⟩)), (11, .int .i64 p.t.k), (32, .slice b L.length c), (33, .int .i64 ((L.length : Nat) : Int)), (34, .int .i64 ((i : Nat) : Int))]) ?_
                      refine RP_nil ?_
                      refine n_then ?_
                      refine W_seq ?_
                      refine W_region ?_
                      refine RP_seg 3 [.p (.int .i64 p.t.k), .p (.bool (decide (p.t.k < 0))), .p (.bool (decide (p.t.k < 0)))] [0, 7, 11, 32, 33, 34, 92] (by kernel_rfl) (fun _ => by kernel_rfl) (by kernel_rfl : pick _ _ = some [(0, .slice b L.length c), (7, .pointer (some ⟨g19, 0, none⟩)), (11, .int .i64 p.t.k), (32, .slice b L.length c), (33, .int .i64 ((L.length : Nat) : Int)), (34, .int .i64 ((i : Nat) : Int)), (92, .bool (decide (p.t.k < 0)))]) (trivial) ?_
                      rcases Bool.eq_false_or_eq_true (decide (p.t.k < 0)) with c92_44 | c92_44
                      ·
                        have c92_44p := of_decide_eq_true c92_44
                        refine RP_at (m' := [(0, .slice b L.length c), (7, .pointer (some ⟨g19, 0, none⟩)), (11, .int .i64 p.t.k), (32, .slice b L.length c), (33, .int .i64 ((L.length : Nat) : Int)), (34, .int .i64 ((i : Nat) : Int)), (92, .bool true)]) (by rw [c92_44]) ?_
                        refine RP_seg 14 [.no, .no, .p (.bool true), .p (.bool true), .no, .no, .no, .no, .no, .no, .no, .no, .no, .p (.bool true)] [0, 32, 33, 34, 106] (by kernel_rfl) (fun _ => by kernel_rfl) (by kernel_rfl : pick _ _ = some [(0, .slice b L.length c), (32, .slice b L.length c), (33, .int .i64 ((L.length : Nat) : Int)), (34, .int .i64 ((i : Nat) : Int)), (106, .bool true)]) (trivial) ?_
                        refine RP_pick [0, 32, 33, 34, 106] (by kernel_rfl : pick _ _ = some [(0, .slice b L.length c), (32, .slice b L.length c), (33, .int .i64 ((L.length : Nat) : Int)), (34, .int .i64 ((i : Nat) : Int)), (106, .bool true)]) ?_
                        refine RP_nil ?_
                        refine n_then ?_
                        refine W_true rfl ?_
                        refine W_seq ?_
                        refine W_region ?_
                        refine RP_seg 1 [.p (.int .i64 117)] [2] (by kernel_rfl) (fun _ => by kernel_rfl) (by kernel_rfl : pick _ _ = some [(2, .int .i64 117)]) (trivial) ?_
                        refine RP_pick [2] (by kernel_rfl : pick _ _ = some [(2, .int .i64 117)]) ?_
                        refine RP_nil ?_
                        refine n_then ?_
                        refine W_ret ?_
                        refine r_block <| r_then <| r_loop <| r_block <| r_then ?_
                        have hpv : prevP L i = some q := by unfold prevP; rw [if_neg (by omega)]; exact hq
                        have hok : partE (prevP L i) p = 117 := by unfold partE Tal.may; (try rw [hpv]); (try dsimp only); (try rw [c42_26]); (try rw [c48_30]); (try rw [c53_35]); (try rw [c64_37]); (try rw [c78_38]); (try rw [c81_39]); (try rw [c92_44]); rfl
                        have hnz : (117 : Int) ≠ 0 := (by decide : (117 : Int) ≠ 0)
                        have hz : partsE none L = 117 := by rw [← hle, partsE_drop L hp, hok, show ((117 : Int) != 0) = true from by simpa using hnz]; rfl
                        refine ret_of (P := Tryd.prog) (fn := Tryd.f47) (m := [(2, .int .i64 117)]) (w := w32) (res1 rfl (rv_tmp rfl)) ?_
                        -- return 8: .int .i64 117
                        exact ⟨by rw [c14_1, hrz, hz]; rfl, st33.ext⟩
                      ·
                        have c92_44p := of_decide_eq_false c92_44
                        refine RP_at (m' := [(0, .slice b L.length c), (7, .pointer (some ⟨g19, 0, none⟩)), (11, .int .i64 p.t.k), (32, .slice b L.length c), (33, .int .i64 ((L.length : Nat) : Int)), (34, .int .i64 ((i : Nat) : Int)), (92, .bool false)]) (by rw [c92_44]) ?_
                        refine RP_seg 4 [.p (.int .i64 p.t.k), .p (.bool (decide (p.t.k > 256))), .p (.bool (decide (p.t.k > 256))), .p (.bool (decide (p.t.k > 256)))] [0, 7, 11, 32, 33, 34, 96] (by kernel_rfl) (fun _ => by kernel_rfl) (by kernel_rfl : pick _ _ = some [(0, .slice b L.length c), (7, .pointer (some ⟨g19, 0, none⟩)), (11, .int .i64 p.t.k), (32, .slice b L.length c), (33, .int .i64 ((L.length : Nat) : Int)), (34, .int .i64 ((i : Nat) : Int)), (96, .bool (decide (p.t.k > 256)))]) (trivial) ?_
                        rcases Bool.eq_false_or_eq_true (decide (p.t.k > 256)) with c96_45 | c96_45
                        ·
                          have c96_45p := of_decide_eq_true c96_45
                          refine RP_at (m' := [(0, .slice b L.length c), (7, .pointer (some ⟨g19, 0, none⟩)), (11, .int .i64 p.t.k), (32, .slice b L.length c), (33, .int .i64 ((L.length : Nat) : Int)), (34, .int .i64 ((i : Nat) : Int)), (96, .bool true)]) (by rw [c96_45]) ?_
                          refine RP_seg 10 [.no, .no, .no, .no, .no, .no, .no, .no, .no, .p (.bool true)] [0, 32, 33, 34, 106] (by kernel_rfl) (fun _ => by kernel_rfl) (by kernel_rfl : pick _ _ = some [(0, .slice b L.length c), (32, .slice b L.length c), (33, .int .i64 ((L.length : Nat) : Int)), (34, .int .i64 ((i : Nat) : Int)), (106, .bool true)]) (trivial) ?_
                          refine RP_pick [0, 32, 33, 34, 106] (by kernel_rfl : pick _ _ = some [(0, .slice b L.length c), (32, .slice b L.length c), (33, .int .i64 ((L.length : Nat) : Int)), (34, .int .i64 ((i : Nat) : Int)), (106, .bool true)]) ?_
                          refine RP_nil ?_
                          refine n_then ?_
                          refine W_true rfl ?_
                          refine W_seq ?_
                          refine W_region ?_
                          refine RP_seg 1 [.p (.int .i64 117)] [2] (by kernel_rfl) (fun _ => by kernel_rfl) (by kernel_rfl : pick _ _ = some [(2, .int .i64 117)]) (trivial) ?_
                          refine RP_pick [2] (by kernel_rfl : pick _ _ = some [(2, .int .i64 117)]) ?_
                          refine RP_nil ?_
                          refine n_then ?_
                          refine W_ret ?_
                          refine r_block <| r_then <| r_loop <| r_block <| r_then ?_
                          have hpv : prevP L i = some q := by unfold prevP; rw [if_neg (by omega)]; exact hq
                          have hok : partE (prevP L i) p = 117 := by unfold partE Tal.may; (try rw [hpv]); (try dsimp only); (try rw [c42_26]); (try rw [c48_30]); (try rw [c53_35]); (try rw [c64_37]); (try rw [c78_38]); (try rw [c81_39]); (try rw [c92_44]); (try rw [c96_45]); rfl
                          have hnz : (117 : Int) ≠ 0 := (by decide : (117 : Int) ≠ 0)
                          have hz : partsE none L = 117 := by rw [← hle, partsE_drop L hp, hok, show ((117 : Int) != 0) = true from by simpa using hnz]; rfl
                          refine ret_of (P := Tryd.prog) (fn := Tryd.f47) (m := [(2, .int .i64 117)]) (w := w32) (res1 rfl (rv_tmp rfl)) ?_
                          -- return 9: .int .i64 117
                          exact ⟨by rw [c14_1, hrz, hz]; rfl, st33.ext⟩
                        ·
                          have c96_45p := of_decide_eq_false c96_45
                          refine RP_at (m' := [(0, .slice b L.length c), (7, .pointer (some ⟨g19, 0, none⟩)), (11, .int .i64 p.t.k), (32, .slice b L.length c), (33, .int .i64 ((L.length : Nat) : Int)), (34, .int .i64 ((i : Nat) : Int)), (96, .bool false)]) (by rw [c96_45]) ?_
                          refine RP_seg 3 [.p (.int .i64 p.t.k), .p (.bool (p.t.k == 0)), .p (.bool (p.t.k == 0))] [0, 7, 32, 33, 34, 96, 99] (by kernel_rfl) (fun _ => by kernel_rfl) (by kernel_rfl : pick _ _ = some [(0, .slice b L.length c), (7, .pointer (some ⟨g19, 0, none⟩)), (32, .slice b L.length c), (33, .int .i64 ((L.length : Nat) : Int)), (34, .int .i64 ((i : Nat) : Int)), (96, .bool false), (99, .bool (p.t.k == 0))]) (trivial) ?_
                          rcases Bool.eq_false_or_eq_true (p.t.k == 0) with c99_46 | c99_46
                          ·
                            refine RP_at (m' := [(0, .slice b L.length c), (7, .pointer (some ⟨g19, 0, none⟩)), (32, .slice b L.length c), (33, .int .i64 ((L.length : Nat) : Int)), (34, .int .i64 ((i : Nat) : Int)), (96, .bool false), (99, .bool true)]) (by rw [c99_46]) ?_
                            refine RP_seg 4 [.p (.pointer (some ⟨g19, 4, none⟩)), .p (.pointer (some ⟨g19, 5, none⟩)), .l 30 (.pointer (some ⟨g19, 5, none⟩)) (.agg #[.int .u64 p.t.a, .int .u64 p.t.b]), .p (.agg #[.int .u64 0, .int .u64 0])] [0, 32, 33, 34, 96, 99, 102, 103] (by kernel_rfl) (fun _ => by kernel_rfl) (by kernel_rfl : pick _ _ = some [(0, .slice b L.length c), (32, .slice b L.length c), (33, .int .i64 ((L.length : Nat) : Int)), (34, .int .i64 ((i : Nat) : Int)), (96, .bool false), (99, .bool true), (102, .agg #[.int .u64 p.t.a, .int .u64 p.t.b]), (103, .agg #[.int .u64 0, .int .u64 0])]) ⟨ldN st33 agg_30 0 rfl rfl rfl, trivial⟩ ?_
                            refine RP_g rfl rfl (v := .bool (!(p.t.a == 0 && p.t.b == 0))) (ev_neq (eqSum p.t.a p.t.b 0 0) (by decide) (by kernel_rfl) rfl rfl) ?_
                            refine RP_seg 2 [.p (.bool (!(p.t.a == 0 && p.t.b == 0))), .p (.bool (!(p.t.a == 0 && p.t.b == 0)))] [0, 32, 33, 34, 106] (by kernel_rfl) (fun _ => by kernel_rfl) (by kernel_rfl : pick _ _ = some [(0, .slice b L.length c), (32, .slice b L.length c), (33, .int .i64 ((L.length : Nat) : Int)), (34, .int .i64 ((i : Nat) : Int)), (106, .bool (!(p.t.a == 0 && p.t.b == 0)))]) (trivial) ?_
                            refine RP_pick [0, 32, 33, 34, 106] (by kernel_rfl : pick _ _ = some [(0, .slice b L.length c), (32, .slice b L.length c), (33, .int .i64 ((L.length : Nat) : Int)), (34, .int .i64 ((i : Nat) : Int)), (106, .bool (!(p.t.a == 0 && p.t.b == 0)))]) ?_
                            refine RP_nil ?_
                            refine n_then ?_
                            refine W_cond rfl (fun c106_47 => ?_) (fun c106_47 => ?_)
                            ·
                              refine W_seq ?_
                              refine W_region ?_
                              refine RP_seg 1 [.p (.int .i64 117)] [2] (by kernel_rfl) (fun _ => by kernel_rfl) (by kernel_rfl : pick _ _ = some [(2, .int .i64 117)]) (trivial) ?_
                              refine RP_pick [2] (by kernel_rfl : pick _ _ = some [(2, .int .i64 117)]) ?_
                              refine RP_nil ?_
                              refine n_then ?_
                              refine W_ret ?_
                              refine r_block <| r_then <| r_loop <| r_block <| r_then ?_
                              have hpv : prevP L i = some q := by unfold prevP; rw [if_neg (by omega)]; exact hq
                              have hok : partE (prevP L i) p = 117 := by unfold partE Tal.may; (try rw [hpv]); (try dsimp only); (try rw [c42_26]); (try rw [c48_30]); (try rw [c53_35]); (try rw [c64_37]); (try rw [c78_38]); (try rw [c81_39]); (try rw [c92_44]); (try rw [c96_45]); (try rw [c99_46]); (try rw [c106_47]); rfl
                              have hnz : (117 : Int) ≠ 0 := (by decide : (117 : Int) ≠ 0)
                              have hz : partsE none L = 117 := by rw [← hle, partsE_drop L hp, hok, show ((117 : Int) != 0) = true from by simpa using hnz]; rfl
                              refine ret_of (P := Tryd.prog) (fn := Tryd.f47) (m := [(2, .int .i64 117)]) (w := w32) (res1 rfl (rv_tmp rfl)) ?_
                              -- return 10: .int .i64 117
                              exact ⟨by rw [c14_1, hrz, hz]; rfl, st33.ext⟩
                            ·
                              refine W_skip ?_
                              refine n_block ?_
                              refine n_then ?_
                              refine W_region ?_
                              refine RP_seg 2 [.p (.int .i64 (IntKind.i64.wrap (((i : Nat) : Int) + 1))), .p (.int .i64 (IntKind.i64.wrap (((i : Nat) : Int) + 1)))] [0, 32, 33, 34] (by kernel_rfl) (fun _ => by kernel_rfl) (by kernel_rfl : pick _ _ = some [(0, .slice b L.length c), (32, .slice b L.length c), (33, .int .i64 ((L.length : Nat) : Int)), (34, .int .i64 (IntKind.i64.wrap (((i : Nat) : Int) + 1)))]) (trivial) ?_
                              refine RP_pick [0, 32, 33, 34] (by kernel_rfl : pick _ _ = some [(0, .slice b L.length c), (32, .slice b L.length c), (33, .int .i64 ((L.length : Nat) : Int)), (34, .int .i64 (IntKind.i64.wrap (((i : Nat) : Int) + 1)))]) ?_
                              refine RP_nil ?_
                              have hpv : prevP L i = some q := by unfold prevP; rw [if_neg (by omega)]; exact hq
                              have hok : partE (prevP L i) p = 0 := by unfold partE Tal.may; (try rw [hpv]); (try dsimp only); (try rw [c42_26]); (try rw [c48_30]); (try rw [c53_35]); (try rw [c64_37]); (try rw [c78_38]); (try rw [c81_39]); (try rw [c92_44]); (try rw [c96_45]); (try rw [c99_46]); (try rw [c106_47]); rfl
                              have hz : partsE (prevP L (i + 1)) (L.drop (i + 1)) = partsE none L := by rw [← hle, partsE_drop L hp, hok]; rfl
                              -- back 1: [(0, .slice b L.length c), (32, .slice b L.length c), (33, .int .i64 ((L.length : Nat) : Int)), (34, .int .i64 (IntKind.i64.wrap (((i : Nat) : Int) + 1)))]
                              exact ⟨_, by omega, (i + 1), rfl, by rw [inc_w (n := i) (by omega)], st33.sub [] (List.sublist_cons_self _ _), by omega, hz, hrz⟩
                          ·
                            refine RP_at (m' := [(0, .slice b L.length c), (7, .pointer (some ⟨g19, 0, none⟩)), (32, .slice b L.length c), (33, .int .i64 ((L.length : Nat) : Int)), (34, .int .i64 ((i : Nat) : Int)), (96, .bool false), (99, .bool false)]) (by rw [c99_46]) ?_
                            refine RP_seg 7 [.no, .no, .no, .no, .no, .p (.bool false), .p (.bool false)] [0, 32, 33, 34, 106] (by kernel_rfl) (fun _ => by kernel_rfl) (by kernel_rfl : pick _ _ = some [(0, .slice b L.length c), (32, .slice b L.length c), (33, .int .i64 ((L.length : Nat) : Int)), (34, .int .i64 ((i : Nat) : Int)), (106, .bool false)]) (trivial) ?_
                            refine RP_pick [0, 32, 33, 34, 106] (by kernel_rfl : pick _ _ = some [(0, .slice b L.length c), (32, .slice b L.length c), (33, .int .i64 ((L.length : Nat) : Int)), (34, .int .i64 ((i : Nat) : Int)), (106, .bool false)]) ?_
                            refine RP_nil ?_
                            refine n_then ?_
                            refine W_false rfl ?_
                            refine W_skip ?_
                            refine n_block ?_
                            refine n_then ?_
                            refine W_region ?_
                            refine RP_seg 2 [.p (.int .i64 (IntKind.i64.wrap (((i : Nat) : Int) + 1))), .p (.int .i64 (IntKind.i64.wrap (((i : Nat) : Int) + 1)))] [0, 32, 33, 34] (by kernel_rfl) (fun _ => by kernel_rfl) (by kernel_rfl : pick _ _ = some [(0, .slice b L.length c), (32, .slice b L.length c), (33, .int .i64 ((L.length : Nat) : Int)), (34, .int .i64 (IntKind.i64.wrap (((i : Nat) : Int) + 1)))]) (trivial) ?_
                            refine RP_pick [0, 32, 33, 34] (by kernel_rfl : pick _ _ = some [(0, .slice b L.length c), (32, .slice b L.length c), (33, .int .i64 ((L.length : Nat) : Int)), (34, .int .i64 (IntKind.i64.wrap (((i : Nat) : Int) + 1)))]) ?_
                            refine RP_nil ?_
                            have hpv : prevP L i = some q := by unfold prevP; rw [if_neg (by omega)]; exact hq
                            have hok : partE (prevP L i) p = 0 := by unfold partE Tal.may; (try rw [hpv]); (try dsimp only); (try rw [c42_26]); (try rw [c48_30]); (try rw [c53_35]); (try rw [c64_37]); (try rw [c78_38]); (try rw [c81_39]); (try rw [c92_44]); (try rw [c96_45]); (try rw [c99_46]); rfl
                            have hz : partsE (prevP L (i + 1)) (L.drop (i + 1)) = partsE none L := by rw [← hle, partsE_drop L hp, hok]; rfl
                            -- back 2: [(0, .slice b L.length c), (32, .slice b L.length c), (33, .int .i64 ((L.length : Nat) : Int)), (34, .int .i64 (IntKind.i64.wrap (((i : Nat) : Int) + 1)))]
                            exact ⟨_, by omega, (i + 1), rfl, by rw [inc_w (n := i) (by omega)], st33.sub [] (List.sublist_cons_self _ _), by omega, hz, hrz⟩
              ·
                have c56_36p := of_decide_eq_false c56_36
                refine RS_at (m' := [(0, .slice b L.length c), (6, .int .i64 ((i : Nat) : Int)), (7, .pointer (some ⟨g19, 0, none⟩)), (32, .slice b L.length c), (33, .int .i64 ((L.length : Nat) : Int)), (34, .int .i64 ((i : Nat) : Int)), (53, .bool false), (56, .bool false)]) (by rw [c56_36]) ?_
                refine RS_seg 22 [.no, .no, .no, .no, .no, .no, .no, .no, .no, .no, .no, .no, .no, .no, .no, .no, .no, .no, .no, .no, .p (.bool false), .p (.bool false)] [0, 7, 32, 33, 34, 78] (by kernel_rfl) (by kernel_rfl) (⟨st33.get 0 rfl, hin.ext0 st33.ext⟩) (by kernel_rfl) (fun _ => by kernel_rfl) (by kernel_rfl : pick _ _ = some [(0, .slice b L.length c), (7, .pointer (some ⟨g19, 0, none⟩)), (32, .slice b L.length c), (33, .int .i64 ((L.length : Nat) : Int)), (34, .int .i64 ((i : Nat) : Int)), (78, .bool false)]) (fun _ hS => trivial) ?_
                refine RS_pick [0, 7, 32, 33, 34, 78] (by kernel_rfl : pick _ _ = some [(0, .slice b L.length c), (7, .pointer (some ⟨g19, 0, none⟩)), (32, .slice b L.length c), (33, .int .i64 ((L.length : Nat) : Int)), (34, .int .i64 ((i : Nat) : Int)), (78, .bool false)]) ?_
                refine RS_nil ?_
                refine n_then ?_
                refine W_false rfl ?_
                refine W_skip ?_
                refine n_then ?_
                refine W_seq ?_
                refine W_region ?_
                refine RP_seg 3 [.p (.pointer (some ⟨g19, 0, none⟩)), .l 3 (.pointer (some ⟨g19, 0, none⟩)) (.int .i64 p.k), .p (.bool (p.k != 1))] [0, 7, 32, 33, 34, 81] (by kernel_rfl) (fun _ => by kernel_rfl) (by kernel_rfl : pick _ _ = some [(0, .slice b L.length c), (7, .pointer (some ⟨g19, 0, none⟩)), (32, .slice b L.length c), (33, .int .i64 ((L.length : Nat) : Int)), (34, .int .i64 ((i : Nat) : Int)), (81, .bool (p.k != 1))]) ⟨ld1 st33 nagg_3 0 rfl rfl, trivial⟩ ?_
                refine RP_pick [0, 7, 32, 33, 34, 81] (by kernel_rfl : pick _ _ = some [(0, .slice b L.length c), (7, .pointer (some ⟨g19, 0, none⟩)), (32, .slice b L.length c), (33, .int .i64 ((L.length : Nat) : Int)), (34, .int .i64 ((i : Nat) : Int)), (81, .bool (p.k != 1))]) ?_
                refine RP_nil ?_
                refine n_then ?_
                refine W_cond rfl (fun c81_48 => ?_) (fun c81_48 => ?_)
                ·
                  refine W_seq ?_
                  refine W_region ?_
                  refine RP_seg 1 [.l 34 (.pointer (some ⟨g19, 0, none⟩)) (.agg #[.int .i64 p.k, .string p.r.lo, .string p.r.hi, .bool p.r.op, .int .i64 p.t.k, .int .u64 p.t.a, .int .u64 p.t.b, .slice p.eb p.es.length p.ec])] [0, 32, 33, 34, 82] (by kernel_rfl) (fun _ => by kernel_rfl) (by kernel_rfl : pick _ _ = some [(0, .slice b L.length c), (32, .slice b L.length c), (33, .int .i64 ((L.length : Nat) : Int)), (34, .int .i64 ((i : Nat) : Int)), (82, .agg #[.int .i64 p.k, .string p.r.lo, .string p.r.hi, .bool p.r.op, .int .i64 p.t.k, .int .u64 p.t.a, .int .u64 p.t.b, .slice p.eb p.es.length p.ec])]) ⟨ldN st33 agg_34 0 rfl rfl rfl, trivial⟩ ?_
                  refine RP_e rfl (ef_call (k := 106) (args := [.agg #[.int .i64 p.k, .string p.r.lo, .string p.r.hi, .bool p.r.op, .int .i64 p.t.k, .int .u64 p.t.a, .int .u64 p.t.b, .slice p.eb p.es.length p.ec]]) (checkEntries_cr p ((hps p (List.mem_of_getElem? hp)).ext0 st33.ext) hpe) body_106 (by kernel_rfl)) ?_
                  rintro _ w49 ⟨_, rfl, rfl, hx51⟩
                  have st50 := st33.call0 hx51
                  refine RP_seg 1 [.p (.int .i64 p.entries)] [0, 10, 32, 33, 34] (by kernel_rfl) (fun _ => by kernel_rfl) (by kernel_rfl : pick _ _ = some [(0, .slice b L.length c), (10, .int .i64 p.entries), (32, .slice b L.length c), (33, .int .i64 ((L.length : Nat) : Int)), (34, .int .i64 ((i : Nat) : Int))]) (trivial) ?_
                  refine RP_pick [0, 10, 32, 33, 34] (by kernel_rfl : pick _ _ = some [(0, .slice b L.length c), (10, .int .i64 p.entries), (32, .slice b L.length c), (33, .int .i64 ((L.length : Nat) : Int)), (34, .int .i64 ((i : Nat) : Int))]) ?_
                  refine RP_nil ?_
                  refine n_then ?_
                  refine W_seq ?_
                  refine W_region ?_
                  refine RP_seg 2 [.p (.int .i64 p.entries), .p (.bool (p.entries != 0))] [0, 10, 32, 33, 34, 85] (by kernel_rfl) (fun _ => by kernel_rfl) (by kernel_rfl : pick _ _ = some [(0, .slice b L.length c), (10, .int .i64 p.entries), (32, .slice b L.length c), (33, .int .i64 ((L.length : Nat) : Int)), (34, .int .i64 ((i : Nat) : Int)), (85, .bool (p.entries != 0))]) (trivial) ?_
                  refine RP_pick [0, 10, 32, 33, 34, 85] (by kernel_rfl : pick _ _ = some [(0, .slice b L.length c), (10, .int .i64 p.entries), (32, .slice b L.length c), (33, .int .i64 ((L.length : Nat) : Int)), (34, .int .i64 ((i : Nat) : Int)), (85, .bool (p.entries != 0))]) ?_
                  refine RP_nil ?_
                  refine n_then ?_
                  refine W_cond rfl (fun c85_52 => ?_) (fun c85_52 => ?_)
                  ·
                    refine W_seq ?_
                    refine W_region ?_
                    refine RP_seg 2 [.p (.int .i64 p.entries), .p (.int .i64 p.entries)] [2] (by kernel_rfl) (fun _ => by kernel_rfl) (by kernel_rfl : pick _ _ = some [(2, .int .i64 p.entries)]) (trivial) ?_
                    refine RP_pick [2] (by kernel_rfl : pick _ _ = some [(2, .int .i64 p.entries)]) ?_
                    refine RP_nil ?_
                    refine n_then ?_
                    refine W_ret ?_
                    refine r_block <| r_then <| r_loop <| r_block <| r_then ?_
                    have hpv : prevP L i = none := by unfold prevP; rw [if_pos (by omega)]
                    have hok : partE (prevP L i) p = p.entries := by unfold partE Tal.may; (try rw [hpv]); (try dsimp only); (try rw [c42_26]); (try rw [c48_30]); (try rw [c53_35]); (try rw [c81_48]); (try rw [c85_52]); rfl
                    have hnz : (p.entries : Int) ≠ 0 := by simpa using c85_52
                    have hz : partsE none L = p.entries := by rw [← hle, partsE_drop L hp, hok, show ((p.entries : Int) != 0) = true from by simpa using hnz]; rfl
                    refine ret_of (P := Tryd.prog) (fn := Tryd.f47) (m := [(2, .int .i64 p.entries)]) (w := w49) (res1 rfl (rv_tmp rfl)) ?_
                    -- return 11: .int .i64 p.entries
                    exact ⟨by rw [c14_1, hrz, hz]; rfl, st50.ext⟩
                  ·
                    refine W_skip ?_
                    refine n_block ?_
                    refine n_then ?_
                    refine W_region ?_
                    refine RP_seg 2 [.p (.int .i64 (IntKind.i64.wrap (((i : Nat) : Int) + 1))), .p (.int .i64 (IntKind.i64.wrap (((i : Nat) : Int) + 1)))] [0, 32, 33, 34] (by kernel_rfl) (fun _ => by kernel_rfl) (by kernel_rfl : pick _ _ = some [(0, .slice b L.length c), (32, .slice b L.length c), (33, .int .i64 ((L.length : Nat) : Int)), (34, .int .i64 (IntKind.i64.wrap (((i : Nat) : Int) + 1)))]) (trivial) ?_
                    refine RP_pick [0, 32, 33, 34] (by kernel_rfl : pick _ _ = some [(0, .slice b L.length c), (32, .slice b L.length c), (33, .int .i64 ((L.length : Nat) : Int)), (34, .int .i64 (IntKind.i64.wrap (((i : Nat) : Int) + 1)))]) ?_
                    refine RP_nil ?_
                    have hpv : prevP L i = none := by unfold prevP; rw [if_pos (by omega)]
                    have hez : p.entries = 0 := by simpa using c85_52
                    have hok : partE (prevP L i) p = 0 := by unfold partE Tal.may; (try rw [hpv]); (try dsimp only); (try rw [c42_26]); (try rw [c48_30]); (try rw [c53_35]); (try rw [c81_48]); (try rw [c85_52]); (try rw [hez]); rfl
                    have hz : partsE (prevP L (i + 1)) (L.drop (i + 1)) = partsE none L := by rw [← hle, partsE_drop L hp, hok]; rfl
                    -- back 3: [(0, .slice b L.length c), (32, .slice b L.length c), (33, .int .i64 ((L.length : Nat) : Int)), (34, .int .i64 (IntKind.i64.wrap (((i : Nat) : Int) + 1)))]
                    exact ⟨_, by omega, (i + 1), rfl, by rw [inc_w (n := i) (by omega)], st50.sub [] (List.sublist_cons_self _ _), by omega, hz, hrz⟩
                ·
                  refine W_seq ?_
                  refine W_region ?_
                  refine RP_seg 4 [.p (.pointer (some ⟨g19, 4, none⟩)), .p (.pointer (some ⟨g19, 4, none⟩)), .l 3 (.pointer (some ⟨g19, 4, none⟩)) (.int .i64 p.t.k), .p (.int .i64 p.t.k)] [0, 7, 11, 32, 33, 34] (by kernel_rfl) (fun _ => by kernel_rfl) (by kernel_rfl : pick _ _ = some [(0, .slice b L.length c), (7, .pointer (some ⟨g19, 0, none⟩)), (11, .int .i64 p.t.k), (32, .slice b L.length c), (33, .int .i64 ((L.length : Nat) : Int)), (34, .int .i64 ((i : Nat) : Int))]) ⟨ld1 st33 nagg_3 0 rfl rfl, trivial⟩ ?_
                  refine RP_pick [0, 7, 11, 32, 33, 34] (by kernel_rfl : pick _ _ = some [(0, .slice b L.length c), (7, .pointer (some ⟨g19, 0, none⟩)), (11, .int .i64 p.t.k), (32, .slice b L.length c), (33, .int .i64 ((L.length : Nat) : Int)), (34, .int .i64 ((i : Nat) : Int))]) ?_
                  refine RP_nil ?_
                  refine n_then ?_
                  refine W_seq ?_
                  refine W_region ?_
                  refine RP_seg 3 [.p (.int .i64 p.t.k), .p (.bool (decide (p.t.k < 0))), .p (.bool (decide (p.t.k < 0)))] [0, 7, 11, 32, 33, 34, 92] (by kernel_rfl) (fun _ => by kernel_rfl) (by kernel_rfl : pick _ _ = some [(0, .slice b L.length c), (7, .pointer (some ⟨g19, 0, none⟩)), (11, .int .i64 p.t.k), (32, .slice b L.length c), (33, .int .i64 ((L.length : Nat) : Int)), (34, .int .i64 ((i : Nat) : Int)), (92, .bool (decide (p.t.k < 0)))]) (trivial) ?_
                  rcases Bool.eq_false_or_eq_true (decide (p.t.k < 0)) with c92_53 | c92_53
                  ·
                    have c92_53p := of_decide_eq_true c92_53
                    refine RP_at (m' := [(0, .slice b L.length c), (7, .pointer (some ⟨g19, 0, none⟩)), (11, .int .i64 p.t.k), (32, .slice b L.length c), (33, .int .i64 ((L.length : Nat) : Int)), (34, .int .i64 ((i : Nat) : Int)), (92, .bool true)]) (by rw [c92_53]) ?_
                    refine RP_seg 14 [.no, .no, .p (.bool true), .p (.bool true), .no, .no, .no, .no, .no, .no, .no, .no, .no, .p (.bool true)] [0, 32, 33, 34, 106] (by kernel_rfl) (fun _ => by kernel_rfl) (by kernel_rfl : pick _ _ = some [(0, .slice b L.length c), (32, .slice b L.length c), (33, .int .i64 ((L.length : Nat) : Int)), (34, .int .i64 ((i : Nat) : Int)), (106, .bool true)]) (trivial) ?_
                    refine RP_pick [0, 32, 33, 34, 106] (by kernel_rfl : pick _ _ = some [(0, .slice b L.length c), (32, .slice b L.length c), (33, .int .i64 ((L.length : Nat) : Int)), (34, .int .i64 ((i : Nat) : Int)), (106, .bool true)]) ?_
                    refine RP_nil ?_
                    refine n_then ?_
                    refine W_true rfl ?_
                    refine W_seq ?_
                    refine W_region ?_
                    refine RP_seg 1 [.p (.int .i64 117)] [2] (by kernel_rfl) (fun _ => by kernel_rfl) (by kernel_rfl : pick _ _ = some [(2, .int .i64 117)]) (trivial) ?_
                    refine RP_pick [2] (by kernel_rfl : pick _ _ = some [(2, .int .i64 117)]) ?_
                    refine RP_nil ?_
                    refine n_then ?_
                    refine W_ret ?_
                    refine r_block <| r_then <| r_loop <| r_block <| r_then ?_
                    have hpv : prevP L i = none := by unfold prevP; rw [if_pos (by omega)]
                    have hok : partE (prevP L i) p = 117 := by unfold partE Tal.may; (try rw [hpv]); (try dsimp only); (try rw [c42_26]); (try rw [c48_30]); (try rw [c53_35]); (try rw [c81_48]); (try rw [c92_53]); rfl
                    have hnz : (117 : Int) ≠ 0 := (by decide : (117 : Int) ≠ 0)
                    have hz : partsE none L = 117 := by rw [← hle, partsE_drop L hp, hok, show ((117 : Int) != 0) = true from by simpa using hnz]; rfl
                    refine ret_of (P := Tryd.prog) (fn := Tryd.f47) (m := [(2, .int .i64 117)]) (w := w32) (res1 rfl (rv_tmp rfl)) ?_
                    -- return 12: .int .i64 117
                    exact ⟨by rw [c14_1, hrz, hz]; rfl, st33.ext⟩
                  ·
                    have c92_53p := of_decide_eq_false c92_53
                    refine RP_at (m' := [(0, .slice b L.length c), (7, .pointer (some ⟨g19, 0, none⟩)), (11, .int .i64 p.t.k), (32, .slice b L.length c), (33, .int .i64 ((L.length : Nat) : Int)), (34, .int .i64 ((i : Nat) : Int)), (92, .bool false)]) (by rw [c92_53]) ?_
                    refine RP_seg 4 [.p (.int .i64 p.t.k), .p (.bool (decide (p.t.k > 256))), .p (.bool (decide (p.t.k > 256))), .p (.bool (decide (p.t.k > 256)))] [0, 7, 11, 32, 33, 34, 96] (by kernel_rfl) (fun _ => by kernel_rfl) (by kernel_rfl : pick _ _ = some [(0, .slice b L.length c), (7, .pointer (some ⟨g19, 0, none⟩)), (11, .int .i64 p.t.k), (32, .slice b L.length c), (33, .int .i64 ((L.length : Nat) : Int)), (34, .int .i64 ((i : Nat) : Int)), (96, .bool (decide (p.t.k > 256)))]) (trivial) ?_
                    rcases Bool.eq_false_or_eq_true (decide (p.t.k > 256)) with c96_54 | c96_54
                    ·
                      have c96_54p := of_decide_eq_true c96_54
                      refine RP_at (m' := [(0, .slice b L.length c), (7, .pointer (some ⟨g19, 0, none⟩)), (11, .int .i64 p.t.k), (32, .slice b L.length c), (33, .int .i64 ((L.length : Nat) : Int)), (34, .int .i64 ((i : Nat) : Int)), (96, .bool true)]) (by rw [c96_54]) ?_
                      refine RP_seg 10 [.no, .no, .no, .no, .no, .no, .no, .no, .no, .p (.bool true)] [0, 32, 33, 34, 106] (by kernel_rfl) (fun _ => by kernel_rfl) (by kernel_rfl : pick _ _ = some [(0, .slice b L.length c), (32, .slice b L.length c), (33, .int .i64 ((L.length : Nat) : Int)), (34, .int .i64 ((i : Nat) : Int)), (106, .bool true)]) (trivial) ?_
                      refine RP_pick [0, 32, 33, 34, 106] (by kernel_rfl : pick _ _ = some [(0, .slice b L.length c), (32, .slice b L.length c), (33, .int .i64 ((L.length : Nat) : Int)), (34, .int .i64 ((i : Nat) : Int)), (106, .bool true)]) ?_
                      refine RP_nil ?_
                      refine n_then ?_
                      refine W_true rfl ?_
                      refine W_seq ?_
                      refine W_region ?_
                      refine RP_seg 1 [.p (.int .i64 117)] [2] (by kernel_rfl) (fun _ => by kernel_rfl) (by kernel_rfl : pick _ _ = some [(2, .int .i64 117)]) (trivial) ?_
                      refine RP_pick [2] (by kernel_rfl : pick _ _ = some [(2, .int .i64 117)]) ?_
                      refine RP_nil ?_
                      refine n_then ?_
                      refine W_ret ?_
                      refine r_block <| r_then <| r_loop <| r_block <| r_then ?_
                      have hpv : prevP L i = none := by unfold prevP; rw [if_pos (by omega)]
                      have hok : partE (prevP L i) p = 117 := by unfold partE Tal.may; (try rw [hpv]); (try dsimp only); (try rw [c42_26]); (try rw [c48_30]); (try rw [c53_35]); (try rw [c81_48]); (try rw [c92_53]); (try rw [c96_54]); rfl
                      have hnz : (117 : Int) ≠ 0 := (by decide : (117 : Int) ≠ 0)
                      have hz : partsE none L = 117 := by rw [← hle, partsE_drop L hp, hok, show ((117 : Int) != 0) = true from by simpa using hnz]; rfl
                      refine ret_of (P := Tryd.prog) (fn := Tryd.f47) (m := [(2, .int .i64 117)]) (w := w32) (res1 rfl (rv_tmp rfl)) ?_
                      -- return 13: .int .i64 117
                      exact ⟨by rw [c14_1, hrz, hz]; rfl, st33.ext⟩
                    ·
                      have c96_54p := of_decide_eq_false c96_54
                      refine RP_at (m' := [(0, .slice b L.length c), (7, .pointer (some ⟨g19, 0, none⟩)), (11, .int .i64 p.t.k), (32, .slice b L.length c), (33, .int .i64 ((L.length : Nat) : Int)), (34, .int .i64 ((i : Nat) : Int)), (96, .bool false)]) (by rw [c96_54]) ?_
                      refine RP_seg 3 [.p (.int .i64 p.t.k), .p (.bool (p.t.k == 0)), .p (.bool (p.t.k == 0))] [0, 7, 32, 33, 34, 96, 99] (by kernel_rfl) (fun _ => by kernel_rfl) (by kernel_rfl : pick _ _ = some [(0, .slice b L.length c), (7, .pointer (some ⟨g19, 0, none⟩)), (32, .slice b L.length c), (33, .int .i64 ((L.length : Nat) : Int)), (34, .int .i64 ((i : Nat) : Int)), (96, .bool false), (99, .bool (p.t.k == 0))]) (trivial) ?_
                      rcases Bool.eq_false_or_eq_true (p.t.k == 0) with c99_55 | c99_55
                      ·
                        refine RP_at (m' := [(0, .slice b L.length c), (7, .pointer (some ⟨g19, 0, none⟩)), (32, .slice b L.length c), (33, .int .i64 ((L.length : Nat) : Int)), (34, .int .i64 ((i : Nat) : Int)), (96, .bool false), (99, .bool true)]) (by rw [c99_55]) ?_
                        refine RP_seg 4 [.p (.pointer (some ⟨g19, 4, none⟩)), .p (.pointer (some ⟨g19, 5, none⟩)), .l 30 (.pointer (some ⟨g19, 5, none⟩)) (.agg #[.int .u64 p.t.a, .int .u64 p.t.b]), .p (.agg #[.int .u64 0, .int .u64 0])] [0, 32, 33, 34, 96, 99, 102, 103] (by kernel_rfl) (fun _ => by kernel_rfl) (by kernel_rfl : pick _ _ = some [(0, .slice b L.length c), (32, .slice b L.length c), (33, .int .i64 ((L.length : Nat) : Int)), (34, .int .i64 ((i : Nat) : Int)), (96, .bool false), (99, .bool true), (102, .agg #[.int .u64 p.t.a, .int .u64 p.t.b]), (103, .agg #[.int .u64 0, .int .u64 0])]) ⟨ldN st33 agg_30 0 rfl rfl rfl, trivial⟩ ?_
                        refine RP_g rfl rfl (v := .bool (!(p.t.a == 0 && p.t.b == 0))) (ev_neq (eqSum p.t.a p.t.b 0 0) (by decide) (by kernel_rfl) rfl rfl) ?_
                        refine RP_seg 2 [.p (.bool (!(p.t.a == 0 && p.t.b == 0))), .p (.bool (!(p.t.a == 0 && p.t.b == 0)))] [0, 32, 33, 34, 106] (by kernel_rfl) (fun _ => by kernel_rfl) (by kernel_rfl : pick _ _ = some [(0, .slice b L.length c), (32, .slice b L.length c), (33, .int .i64 ((L.length : Nat) : Int)), (34, .int .i64 ((i : Nat) : Int)), (106, .bool (!(p.t.a == 0 && p.t.b == 0)))]) (trivial) ?_
                        refine RP_pick [0, 32, 33, 34, 106] (by kernel_rfl : pick _ _ = some [(0, .slice b L.length c), (32, .slice b L.length c), (33, .int .i64 ((L.length : Nat) : Int)), (34, .int .i64 ((i : Nat) : Int)), (106, .bool (!(p.t.a == 0 && p.t.b == 0)))]) ?_
                        refine RP_nil ?_
                        refine n_then ?_
                        refine W_cond rfl (fun c106_56 => ?_) (fun c106_56 => ?_)
                        ·
                          refine W_seq ?_
                          refine W_region ?_
                          refine RP_seg 1 [.p (.int .i64 117)] [2] (by kernel_rfl) (fun _ => by kernel_rfl) (by kernel_rfl : pick _ _ = some [(2, .int .i64 117)]) (trivial) ?_
                          refine RP_pick [2] (by kernel_rfl : pick _ _ = some [(2, .int .i64 117)]) ?_
                          refine RP_nil ?_
                          refine n_then ?_
                          refine W_ret ?_
                          refine r_block <| r_then <| r_loop <| r_block <| r_then ?_
                          have hpv : prevP L i = none := by unfold prevP; rw [if_pos (by omega)]
                          have hok : partE (prevP L i) p = 117 := by unfold partE Tal.may; (try rw [hpv]); (try dsimp only); (try rw [c42_26]); (try rw [c48_30]); (try rw [c53_35]); (try rw [c81_48]); (try rw [c92_53]); (try rw [c96_54]); (try rw [c99_55]); (try rw [c106_56]); rfl
                          have hnz : (117 : Int) ≠ 0 := (by decide : (117 : Int) ≠ 0)
                          have hz : partsE none L = 117 := by rw [← hle, partsE_drop L hp, hok, show ((117 : Int) != 0) = true from by simpa using hnz]; rfl
                          refine ret_of (P := Tryd.prog) (fn := Tryd.f47) (m := [(2, .int .i64 117)]) (w := w32) (res1 rfl (rv_tmp rfl)) ?_
                          -- return 14: .int .i64 117
                          exact ⟨by rw [c14_1, hrz, hz]; rfl, st33.ext⟩
                        ·
                          refine W_skip ?_
                          refine n_block ?_
                          refine n_then ?_
                          refine W_region ?_
                          refine RP_seg 2 [.p (.int .i64 (IntKind.i64.wrap (((i : Nat) : Int) + 1))), .p (.int .i64 (IntKind.i64.wrap (((i : Nat) : Int) + 1)))] [0, 32, 33, 34] (by kernel_rfl) (fun _ => by kernel_rfl) (by kernel_rfl : pick _ _ = some [(0, .slice b L.length c), (32, .slice b L.length c), (33, .int .i64 ((L.length : Nat) : Int)), (34, .int .i64 (IntKind.i64.wrap (((i : Nat) : Int) + 1)))]) (trivial) ?_
                          refine RP_pick [0, 32, 33, 34] (by kernel_rfl : pick _ _ = some [(0, .slice b L.length c), (32, .slice b L.length c), (33, .int .i64 ((L.length : Nat) : Int)), (34, .int .i64 (IntKind.i64.wrap (((i : Nat) : Int) + 1)))]) ?_
                          refine RP_nil ?_
                          have hpv : prevP L i = none := by unfold prevP; rw [if_pos (by omega)]
                          have hok : partE (prevP L i) p = 0 := by unfold partE Tal.may; (try rw [hpv]); (try dsimp only); (try rw [c42_26]); (try rw [c48_30]); (try rw [c53_35]); (try rw [c81_48]); (try rw [c92_53]); (try rw [c96_54]); (try rw [c99_55]); (try rw [c106_56]); rfl
                          have hz : partsE (prevP L (i + 1)) (L.drop (i + 1)) = partsE none L := by rw [← hle, partsE_drop L hp, hok]; rfl
                          -- back 4: [(0, .slice b L.length c), (32, .slice b L.length c), (33, .int .i64 ((L.length : Nat) : Int)), (34, .int .i64 (IntKind.i64.wrap (((i : Nat) : Int) + 1)))]
                          exact ⟨_, by omega, (i + 1), rfl, by rw [inc_w (n := i) (by omega)], st33.sub [] (List.sublist_cons_self _ _), by omega, hz, hrz⟩
                      ·
                        refine RP_at (m' := [(0, .slice b L.length c), (7, .pointer (some ⟨g19, 0, none⟩)), (32, .slice b L.length c), (33, .int .i64 ((L.length : Nat) : Int)), (34, .int .i64 ((i : Nat) : Int)), (96, .bool false), (99, .bool false)]) (by rw [c99_55]) ?_
                        refine RP_seg 7 [.no, .no, .no, .no, .no, .p (.bool false), .p (.bool false)] [0, 32, 33, 34, 106] (by kernel_rfl) (fun _ => by kernel_rfl) (by kernel_rfl : pick _ _ = some [(0, .slice b L.length c), (32, .slice b L.length c), (33, .int .i64 ((L.length : Nat) : Int)), (34, .int .i64 ((i : Nat) : Int)), (106, .bool false)]) (trivial) ?_
                        refine RP_pick [0, 32, 33, 34, 106] (by kernel_rfl : pick _ _ = some [(0, .slice b L.length c), (32, .slice b L.length c), (33, .int .i64 ((L.length : Nat) : Int)), (34, .int .i64 ((i : Nat) : Int)), (106, .bool false)]) ?_
                        refine RP_nil ?_
                        refine n_then ?_
                        refine W_false rfl ?_
                        refine W_skip ?_
                        refine n_block ?_
                        refine n_then ?_
                        refine W_region ?_
                        refine RP_seg 2 [.p (.int .i64 (IntKind.i64.wrap (((i : Nat) : Int) + 1))), .p (.int .i64 (IntKind.i64.wrap (((i : Nat) : Int) + 1)))] [0, 32, 33, 34] (by kernel_rfl) (fun _ => by kernel_rfl) (by kernel_rfl : pick _ _ = some [(0, .slice b L.length c), (32, .slice b L.length c), (33, .int .i64 ((L.length : Nat) : Int)), (34, .int .i64 (IntKind.i64.wrap (((i : Nat) : Int) + 1)))]) (trivial) ?_
                        refine RP_pick [0, 32, 33, 34] (by kernel_rfl : pick _ _ = some [(0, .slice b L.length c), (32, .slice b L.length c), (33, .int .i64 ((L.length : Nat) : Int)), (34, .int .i64 (IntKind.i64.wrap (((i : Nat) : Int) + 1)))]) ?_
                        refine RP_nil ?_
                        have hpv : prevP L i = none := by unfold prevP; rw [if_pos (by omega)]
                        have hok : partE (prevP L i) p = 0 := by unfold partE Tal.may; (try rw [hpv]); (try dsimp only); (try rw [c42_26]); (try rw [c48_30]); (try rw [c53_35]); (try rw [c81_48]); (try rw [c92_53]); (try rw [c96_54]); (try rw [c99_55]); rfl
                        have hz : partsE (prevP L (i + 1)) (L.drop (i + 1)) = partsE none L := by rw [← hle, partsE_drop L hp, hok]; rfl
                        -- back 5: [(0, .slice b L.length c), (32, .slice b L.length c), (33, .int .i64 ((L.length : Nat) : Int)), (34, .int .i64 (IntKind.i64.wrap (((i : Nat) : Int) + 1)))]
                        exact ⟨_, by omega, (i + 1), rfl, by rw [inc_w (n := i) (by omega)], st33.sub [] (List.sublist_cons_self _ _), by omega, hz, hrz⟩
      ·
        have c35_15p := of_decide_eq_false c35_15
        refine W_exit ?_
        refine e_then <| e_loop <| e_here ?_
        refine n_then ?_
        refine W_seq ?_
        refine W_region ?_
        refine RP_seg 1 [.p (.int .i64 0)] [2] (by kernel_rfl) (fun _ => by kernel_rfl) (by kernel_rfl : pick _ _ = some [(2, .int .i64 0)]) (trivial) ?_
        refine RP_pick [2] (by kernel_rfl : pick _ _ = some [(2, .int .i64 0)]) ?_
        refine RP_nil ?_
        refine n_then ?_
        refine W_ret ?_
        have hiL : i = L.length := by omega
        rw [hiL, List.drop_length] at hle
        have hz : partsE none L = 0 := hle.symm
        refine ret_of (P := Tryd.prog) (fn := Tryd.f47) (m := [(2, .int .i64 0)]) (w := w14) (res1 rfl (rv_tmp rfl)) ?_
        -- return 15: .int .i64 0
        exact ⟨by (try rw [c14_1]); (try rw [c35_15]); rw [hz, hrz]; rfl, st13.ext⟩
end Go.Proofs.YtcopemgkjbaaeaaDoor
