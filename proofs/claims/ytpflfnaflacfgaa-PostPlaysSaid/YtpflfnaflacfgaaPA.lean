/- Contracts of the functions of package post, at letters that say a text. -/
import Derived.Test.YtpflfnaflacfgaaSlD
import Derived.Test.YtpflfnaflacfgaaFs
namespace Go.Proofs.Ytpflfnaflacfgaa.PostS
open Go Go.Proofs.Ytpflfnaflacfgaa.Cf
set_option linter.unusedVariables false
set_option linter.unusedSimpArgs false
set_option maxRecDepth 100000

/-- A net as the document has it. -/
structure Net where
  nodes : Int
  sent : Int
  l : List S35
  off : Int → Bool

def NetA (b : Nat) (N : Net) : Assn :=
  exA fun v => exA fun mb => exA fun es => sepA [puA (∀ x, (es.lookup x).isSome = N.off x), cel b [.int .i64 N.nodes, .int .i64 N.sent, .slice v.a v.len v.cap, .map (some mb)] 65, row T35 36 4 v N.l, mapE T68 .i64 mb es]
section
variable {W w : World} {l : List Assn} {b : Nat} {N : Net}
theorem NetA_open (H : St W (NetA b N :: l) w) : ∃ v mb es, (∀ x, (List.lookup x es).isSome = N.off x) ∧
    St W (cel b [.int .i64 N.nodes, .int .i64 N.sent, .slice v.a v.len v.cap, .map (some mb)] 65 :: row T35 36 4 v N.l :: mapE T68 .i64 mb es :: l) w := by
  obtain ⟨v, H⟩ := H.ex
  obtain ⟨mb, H⟩ := H.ex
  obtain ⟨es, H⟩ := H.ex
  obtain ⟨h, H⟩ := St.pu H.open_
  exact ⟨v, mb, es, h, H⟩
theorem NetA_shut {v : Slc} {mb : Nat} {es : List (Int × S68)} (h : ∀ x, (List.lookup x es).isSome = N.off x)
    (H : St W (cel b [.int .i64 N.nodes, .int .i64 N.sent, .slice v.a v.len v.cap, .map (some mb)] 65 :: row T35 36 4 v N.l :: mapE T68 .i64 mb es :: l) w) : St W (NetA b N :: l) w :=
  St.toEx v (St.toEx mb (St.toEx es (St.shut (l' := [puA _, _, _, _]) (St.toPu h H))))
def Net.has (N : Net) (x : Int) : Bool := decide (x ≥ 0) && decide (x < N.nodes)
theorem is_spec (H : St W (NetA b N :: l) w) (x : Int) : cl Try.prog 28 [.pointer (some ⟨b, 0, none⟩), .int .i64 x] tBool w fun r w' => r = N.has x ∧ St W (NetA b N :: l) w' := by
  refine F28_ok ?_
  obtain ⟨v, mb, es, h, H1⟩ := NetA_open H
  unfold F28
  refine ⟨⟨b, 0, none⟩, fun _ => rfl, N.nodes, fun _ => rdat_cel (tInt .i64) H1 rfl rfl, rfl, H⟩
theorem cut_spec (H : St W (NetA b N :: l) w) (x : Int) : cl Try.prog 32 [.pointer (some ⟨b, 0, none⟩), .int .i64 x] tBool w fun r w' => r = N.off x ∧ St W (NetA b N :: l) w' := by
  refine F32_ok ?_
  obtain ⟨v, mb, es, h, H⟩ := NetA_open H
  unfold F32
  refine nc_st rfl ?_
  refine ld_st (x := some mb) 0 H rfl rfl rfl ?_
  refine mget_st 2 H rfl rfl ?_
  refine nw_st H fun b1 w1 H => ?_
  refine st_st 0 H rfl rfl (Nat.le_refl _) fun w2 H => ?_
  exact ⟨h x, NetA_shut h H.drop⟩
/-- A letter behind all. -/
def Net.put (N : Net) (x : S35) : Net × Int := if N.l.length ≥ 1000 then (N, 91) else ({ N with l := N.l ++ [x] }, 0)
theorem put_spec (H : St W (NetA b N :: l) w) (hN : N.l.length ≤ 1000) (x : S35) : cl Try.prog 29 [.pointer (some ⟨b, 0, none⟩), T35.enc x] (tInt .i64) w fun r w' => r = (N.put x).2 ∧ St W (NetA b (N.put x).1 :: l) w' := by
  refine F29_ok ?_
  unfold F29
  refine nw_st H fun b1 w1 H => ?_
  obtain ⟨v, mb, es, h, H⟩ := NetA_open (H.front 1)
  refine nc_st rfl ?_
  refine ld_st (x := v) 0 H rfl rfl rfl ?_
  have hn := row_len (H.front 1)
  split
  · rename_i hc
    have hc : N.l.length ≥ 1000 := by simp at hc; omega
    have e : N.put x = (N, 91) := by simp only [Net.put, hc, if_true]
    rw [e]
    exact ⟨rfl, NetA_shut h (H.front 3).drop⟩
  · rename_i hc
    have hc : ¬ N.l.length ≥ 1000 := by simp at hc; omega
    refine dr_st H fun w2 H => ?_
    refine ld_st (x := v) 0 H rfl rfl rfl ?_
    refine ld_st (x := x) 3 H rfl rfl rfl ?_
    refine apl_row (xs := N.l) (fun _ => rfl) 1 H rfl (by simp; omega) fun r w3 H => ?_
    refine ⟨rd_cel (H.front 3) rfl, ?_⟩
    refine st_st (x := r) 1 H rfl rfl (Nat.le_of_ble_eq_true rfl) fun w4 H => ?_
    have e : N.put x = ({ N with l := N.l ++ [x] }, 0) := by simp only [Net.put, hc, if_false]
    rw [e]
    exact ⟨rfl, NetA_shut (v := r) h (H.front 3).drop⟩
end
end Go.Proofs.Ytpflfnaflacfgaa.PostS
