/- Plain: an instruction's text, numerals, and what a text says. -/
import Derived.Test.YtfkngjglnhfdcaaGreatDoorLibS
import Derived.Test.YtfkngjglnhfdcaaGreatDoorIsaB
import Derived.Lib.ItoaNum
namespace Go.Proofs.YtfkngjglnhfdcaaGreatDoor
set_option linter.unusedVariables false
set_option linter.unusedSimpArgs false
open Go.RowKit

def In64 (n : Int) : Prop := -9223372036854775808 ≤ n ∧ n ≤ 9223372036854775807
def wordL (op : Int) : List UInt8 := (wordB op).data.toList
def fieldL (op : Int) : List UInt8 := (fieldB op).data.toList
theorem word_bstr (op : Int) : wordB op = bstr (wordL op) := (bstr_eta _).symm
theorem field_bstr (op : Int) : fieldB op = bstr (fieldL op) := (bstr_eta _).symm
def selI (i : Ins) (f : UInt8) : Int := selF f.toNat i.a i.b i.n
/-- an instruction's text -/
def txtI (i : Ins) : List UInt8 := Lib.join (wordL i.op :: (fieldL i.op).map fun f => Lib.itoa (selI i f)) [32]
structure Ins.In (i : Ins) : Prop where
  a : In64 i.a
  b : In64 i.b
  n : In64 i.n
theorem Ins.In.sel {i : Ins} (h : i.In) (f : UInt8) : In64 (selI i f) := by
  unfold selI selF
  split
  · exact h.a
  · split
    · exact h.b
    · exact h.n
/-- s says i -/
def Says (s : List UInt8) (i : Ins) : Prop := chkIns i = 0 ∧ i.In ∧ txtI i = s

/- numerals -/
theorem dec_digit : ∀ (u : Nat) (c : UInt8), c ∈ Lib.decDigits u → 48 ≤ c.toNat ∧ c.toNat ≤ 57
  | u, c, hc => by
    rw [Lib.decDigits] at hc
    split at hc
    · rw [List.mem_singleton.1 hc]
      rw [UInt8.toNat_ofNat']
      omega
    · rcases List.mem_append.1 hc with h | h
      · exact dec_digit (u / 10) c h
      · rw [List.mem_singleton.1 h, UInt8.toNat_ofNat']
        omega
theorem dec_ne (u : Nat) : Lib.decDigits u ≠ [] := by
  rw [Lib.decDigits]
  split <;> simp
theorem itoa_chars {n : Int} {c : UInt8} (hc : c ∈ Lib.itoa n) : c = 45 ∨ 48 ≤ c.toNat ∧ c.toNat ≤ 57 := by
  unfold Lib.itoa at hc
  split at hc
  · rcases List.mem_cons.1 hc with h | h
    · exact .inl h
    · exact .inr (dec_digit _ _ h)
  · exact .inr (dec_digit _ _ hc)
theorem itoa_no (n : Int) : (32 : UInt8) ∉ Lib.itoa n := by
  intro h
  rcases itoa_chars h with h | h
  · cases h
  · exact absurd h.1 (by decide)
theorem parse_dec : ∀ (u : Nat) (r : List UInt8), u < 18446744073709551616 → Lib.parseUint10 0 (Lib.decDigits u ++ r) = Lib.parseUint10 u r
  | u, r, hu => by
    rw [Lib.decDigits]
    split
    · rename_i h
      have e : (UInt8.ofNat (48 + u)).toNat = 48 + u := by rw [UInt8.toNat_ofNat']; omega
      rw [List.cons_append, List.nil_append, Lib.parseUint10, e, if_pos (by omega), if_neg (by omega), if_neg (by omega)]
      congr 1
      omega
    · rename_i h
      have e : (UInt8.ofNat (48 + u % 10)).toNat = 48 + u % 10 := by rw [UInt8.toNat_ofNat']; omega
      rw [List.append_assoc, parse_dec (u / 10) _ (by omega), List.cons_append, List.nil_append, Lib.parseUint10, e, if_pos (by omega), if_neg (by omega), if_neg (by omega)]
      congr 1
      omega
theorem mag_dec (u : Nat) (hu : u < 18446744073709551616) : Lib.parseMag (Lib.decDigits u) = .ok u := by
  have h := parse_dec u [] hu
  rw [List.append_nil] at h
  rw [Lib.parseMag, if_neg (dec_ne u), h]
  rfl
theorem atoi_itoa {n : Int} (h : In64 n) : Lib.atoiAll (Lib.itoa n) = .ok n := by
  unfold In64 at h
  unfold Lib.itoa
  split
  · rw [Lib.atoiAll_minus, mag_dec _ (by omega)]
    unfold Lib.signed
    simp only
    rw [if_neg (by omega)]
    congr 1
    omega
  · cases hd : Lib.decDigits n.toNat with
    | nil => exact absurd hd (dec_ne _)
    | cons c r =>
      have hc := dec_digit n.toNat c (by rw [hd]; exact List.mem_cons_self)
      rw [Lib.atoiAll_plain c r (by omega) (by omega), ← hd, mag_dec _ (by omega)]
      unfold Lib.signless
      simp only
      rw [if_neg (by omega)]
      congr 1
      omega
theorem itoa_inj {m n : Int} (hm : In64 m) (hn : In64 n) (h : Lib.itoa m = Lib.itoa n) : m = n := by
  have h1 := atoi_itoa hm
  rw [h, atoi_itoa hn] at h1
  injection h1 with h1
  exact h1.symm
theorem nDigits_le : ∀ (k u : Nat), u < 10 ^ (k + 1) → Lib.nDigits u ≤ k + 1
  | k, u, h => by
    rw [Lib.nDigits]
    split
    · omega
    · rename_i h1
      cases k with
      | zero => exact absurd h (by omega)
      | succ k =>
        have := nDigits_le k (u / 10) (by rw [Nat.div_lt_iff_lt_mul (by decide)]; rwa [Nat.pow_succ] at h)
        omega
theorem itoa_len {n : Int} (h : In64 n) : (Lib.itoa n).length ≤ 20 := by
  unfold In64 at h
  unfold Lib.itoa
  split
  · rw [List.length_cons, Lib.decDigits_length]
    have := nDigits_le 18 n.natAbs (by omega)
    omega
  · rw [Lib.decDigits_length]
    have := nDigits_le 18 n.toNat (by omega)
    omega
theorem itoa_pos (n : Int) : 0 < (Lib.itoa n).length := by
  unfold Lib.itoa
  split
  · simp
  · exact List.length_pos_iff.2 (dec_ne _)
/- Digits, said -/
theorem itoa_minus {n : Int} (h0 : n < 0) (h1 : -10 < n) : Lib.itoa n = 45 :: Lib.itoa (-n) := by
  unfold Lib.itoa
  rw [if_pos h0, if_neg (by omega), show n.natAbs = (-n).toNat by omega]
theorem itoa_one {n : Int} (h0 : 0 ≤ n) (h1 : n < 10) : Lib.itoa n = [byt (48 + n)] := by
  unfold Lib.itoa
  rw [if_neg (by omega), Lib.decDigits_one (by omega)]
  congr 1
  unfold byt
  congr 1
  omega
theorem itoa_big {n : Int} (h : 10 ≤ n) : Lib.itoa n = Lib.itoa (n.tdiv 10) ++ Lib.itoa (n.tmod 10) := by
  have h2 : n.tdiv 10 = n / 10 := Int.tdiv_eq_ediv_of_nonneg (by omega)
  have h3 : n.tmod 10 = n % 10 := Int.tmod_eq_emod_of_nonneg (by omega)
  rw [h2, h3]
  unfold Lib.itoa
  rw [if_neg (by omega), if_neg (by omega), if_neg (by omega), Lib.decDigits, dif_neg (by omega), Lib.decDigits_one (i := (n % 10).toNat) (by omega), show n.toNat / 10 = (n / 10).toNat by omega, show n.toNat % 10 = (n % 10).toNat by omega]
theorem itoa_less {n : Int} (h : n ≤ -10) : Lib.itoa n = Lib.itoa (n.tdiv 10) ++ Lib.itoa (-(n.tmod 10)) := by
  have h2 : n.tdiv 10 = -((-n) / 10) := by
    rw [show n = -(-n) by omega, Int.neg_tdiv, Int.tdiv_eq_ediv_of_nonneg (by omega)]
    omega
  have h3 : n.tmod 10 = -((-n) % 10) := by
    rw [show n = -(-n) by omega, Int.neg_tmod, Int.tmod_eq_emod_of_nonneg (by omega)]
    omega
  rw [h2, h3, Int.neg_neg]
  unfold Lib.itoa
  rw [if_pos (by omega), if_pos (by omega), if_neg (by omega), Lib.decDigits, dif_neg (by omega), Lib.decDigits_one (i := (-n % 10).toNat) (by omega), show n.natAbs / 10 = (-(-n / 10)).natAbs by omega, show n.natAbs % 10 = (-n % 10).toNat by omega]
  rfl
def saidStep (n : Int) (c : UInt8) : Int := IntKind.i64.wrap (IntKind.i64.wrap (10 * n) - ((IntKind.u8.wrap ((c.toNat : Int) - 48) : Int)))
def saidTo (l : List UInt8) (k : Nat) : Int := ((if l.headD 0 = 45 then l.drop 1 else l).take (k - if l.headD 0 = 45 then 1 else 0)).foldl saidStep 0
def saidL (l : List UInt8) : Int := if l.length = 0 ∨ 20 < l.length then 0 else if l.headD 0 = 45 then (l.drop 1).foldl saidStep 0 else IntKind.i64.wrap (0 - l.foldl saidStep 0)
theorem said_dec : ∀ u : Nat, u ≤ 9223372036854775808 → (Lib.decDigits u).foldl saidStep 0 = -(u : Int)
  | u, hu => by
    rw [Lib.decDigits]
    split
    · rename_i h
      have e : (UInt8.ofNat (48 + u)).toNat = 48 + u := by rw [UInt8.toNat_ofNat']; omega
      rw [List.foldl_cons, List.foldl_nil, saidStep, e, IntWalk.i64_in (10 * 0) (by omega), IntWalk.u8_in _ (by omega), IntWalk.i64_in _ (by omega)]
      omega
    · rename_i h
      have e : (UInt8.ofNat (48 + u % 10)).toNat = 48 + u % 10 := by rw [UInt8.toNat_ofNat']; omega
      rw [List.foldl_append, said_dec (u / 10) (by omega), List.foldl_cons, List.foldl_nil, saidStep, e, IntWalk.i64_in (10 * _) (by omega), IntWalk.u8_in _ (by omega), IntWalk.i64_in _ (by omega)]
      omega
theorem said_itoa {n : Int} (h : In64 n) : saidL (Lib.itoa n) = n := by
  have h1 := itoa_len h
  have h2 := itoa_pos n
  unfold saidL
  rw [if_neg (by omega)]
  unfold In64 at h
  unfold Lib.itoa
  split
  · rw [if_pos (by rfl), List.drop_succ_cons, List.drop_zero, said_dec _ (by omega)]
    omega
  · rw [if_neg (by
      cases hd : Lib.decDigits n.toNat with
      | nil => exact absurd hd (dec_ne _)
      | cons c r =>
        have hc := dec_digit n.toNat c (by rw [hd]; exact List.mem_cons_self)
        intro e
        rw [show c = 45 from e] at hc
        exact absurd hc.1 (by decide)), said_dec _ (by omega), IntWalk.i64_in _ (by omega)]
    omega
/- words and fields -/
theorem word_no (op : Int) : (32 : UInt8) ∉ wordL op := by
  unfold wordL wordB
  split <;> decide
theorem word_fin : ∀ a b : Fin 16, 1 ≤ a.val → 1 ≤ b.val → wordL (a.val : Int) = wordL (b.val : Int) → a = b := by decide +kernel
theorem word_inj {p q : Int} (hp : 1 ≤ p ∧ p ≤ 15) (hq : 1 ≤ q ∧ q ≤ 15) (h : wordL p = wordL q) : p = q := by
  have := word_fin ⟨p.toNat, by omega⟩ ⟨q.toNat, by omega⟩ (by show 1 ≤ p.toNat; omega) (by show 1 ≤ q.toNat; omega) (by
    show wordL (p.toNat : Int) = wordL (q.toNat : Int)
    rw [show (p.toNat : Int) = p by omega, show (q.toNat : Int) = q by omega]
    exact h)
  have := congrArg Fin.val this
  simp only at this
  omega
theorem word_zero : wordL 0 = [] := by decide +kernel
theorem word_len (op : Int) : (wordL op).length ≤ 4 := by
  unfold wordL wordB
  split <;> decide
theorem field_len (op : Int) : (fieldL op).length ≤ 3 := by
  unfold fieldL fieldB
  split <;> decide
theorem field_is (op : Int) : ∀ f ∈ fieldL op, f = 65 ∨ f = 66 ∨ f = 78 := by
  unfold fieldL fieldB
  split <;> decide
theorem field_nodup (op : Int) : (fieldL op).Nodup := by
  unfold fieldL fieldB
  split <;> decide
theorem splitC_join {c : UInt8} : ∀ (r : List (List UInt8)) (p : List UInt8), c ∉ p → (∀ x ∈ r, c ∉ x) → splitC c (p ++ Lib.joinTail [c] r) = p :: r
  | [], p, hp, _ => by
    rw [show Lib.joinTail [c] [] = [] from rfl, List.append_nil, splitC_none hp]
  | q :: r, p, hp, hr => by
    rw [show Lib.joinTail [c] (q :: r) = c :: (q ++ Lib.joinTail [c] r) by simp [Lib.joinTail], splitC_app _ hp, splitC_join r q (hr q List.mem_cons_self) fun x hx => hr x (List.mem_cons_of_mem _ hx)]
theorem split_txt (i : Ins) : splitC 32 (txtI i) = wordL i.op :: (fieldL i.op).map fun f => Lib.itoa (selI i f) := by
  unfold txtI
  rw [Lib.join_cons]
  refine splitC_join _ _ (word_no _) fun x hx => ?_
  obtain ⟨f, -, rfl⟩ := List.mem_map.1 hx
  exact itoa_no _
/- the fields that an operation has not are nought -/
theorem chk_op {i : Ins} (h : chkIns i = 0) : 1 ≤ i.op ∧ i.op ≤ 15 := by
  unfold chkIns chkI at h
  by_cases h1 : 1 ≤ i.op ∧ i.op ≤ 15
  · exact h1
  · rw [if_pos h1] at h
    cases h
theorem chk_off {i : Ins} (h : chkIns i = 0) : ((65 : UInt8) ∉ fieldL i.op → i.a = 0) ∧ ((66 : UInt8) ∉ fieldL i.op → i.b = 0) ∧ ((78 : UInt8) ∉ fieldL i.op → i.n = 0) := by
  have hop := chk_op h
  unfold chkIns at h
  rw [chk_fields _ _ _ _ hop] at h
  split at h
  · cases h
  · split at h
    · rename_i hz
      simp only [Bool.and_eq_true, beq_iff_eq] at hz
      obtain ⟨⟨ha, hb⟩, hn⟩ := hz
      have key : ∀ (t : UInt8) (v : Int), zf (fieldB i.op) (fieldB i.op).size t.toNat v = 0 → t ∉ fieldL i.op → v = 0 := by
        intro t v hv ht
        unfold zf at hv
        rw [if_neg ?_] at hv
        · exact hv
        · intro hm
          obtain ⟨f, hf, he⟩ := List.mem_map.1 hm
          rw [UInt8.toNat_inj.1 he] at hf
          exact ht (List.mem_of_mem_take hf)
      exact ⟨key 65 _ ha, key 66 _ hb, key 78 _ hn⟩
    · cases h
theorem ins_ext {i j : Ins} (ho : i.op = j.op) (hf : ∀ f ∈ fieldL i.op, selI i f = selI j f) (hi : ((65 : UInt8) ∉ fieldL i.op → i.a = 0) ∧ ((66 : UInt8) ∉ fieldL i.op → i.b = 0) ∧ ((78 : UInt8) ∉ fieldL i.op → i.n = 0))
    (hj : ((65 : UInt8) ∉ fieldL i.op → j.a = 0) ∧ ((66 : UInt8) ∉ fieldL i.op → j.b = 0) ∧ ((78 : UInt8) ∉ fieldL i.op → j.n = 0)) : i = j := by
  obtain ⟨o, a, b, n⟩ := i
  obtain ⟨o2, a2, b2, n2⟩ := j
  obtain rfl : o = o2 := ho
  simp only at hf hi hj
  have h1 : a = a2 := by
    by_cases h : (65 : UInt8) ∈ fieldL o
    · exact hf 65 h
    · rw [hi.1 h, hj.1 h]
  have h2 : b = b2 := by
    by_cases h : (66 : UInt8) ∈ fieldL o
    · exact hf 66 h
    · rw [hi.2.1 h, hj.2.1 h]
  have h3 : n = n2 := by
    by_cases h : (78 : UInt8) ∈ fieldL o
    · exact hf 78 h
    · rw [hi.2.2 h, hj.2.2 h]
  rw [h1, h2, h3]
theorem says_split {s : List UInt8} {i : Ins} (h : Says s i) : splitC 32 s = wordL i.op :: (fieldL i.op).map fun f => Lib.itoa (selI i f) := by rw [← h.2.2, split_txt]
theorem Says.unique {s : List UInt8} {i j : Ins} (hi : Says s i) (hj : Says s j) : i = j := by
  have h := says_split hi
  rw [says_split hj] at h
  injection h with h1 h2
  have ho : i.op = j.op := (word_inj (chk_op hj.1) (chk_op hi.1) h1).symm
  rw [← ho] at h2
  refine ins_ext ho (fun f hf => ?_) (chk_off hi.1) (ho ▸ chk_off hj.1)
  have := List.map_inj_left.1 h2 f hf
  exact (itoa_inj (hj.2.1.sel f) (hi.2.1.sel f) this).symm
theorem txt_len {i : Ins} (hi : i.In) : (txtI i).length ≤ 100 := by
  unfold txtI
  rw [Lib.join_cons, List.length_append]
  have h1 := word_len i.op
  have h2 := field_len i.op
  have h3 : ∀ l : List UInt8, (Lib.joinTail [32] (l.map fun f => Lib.itoa (selI i f))).length ≤ 21 * l.length := by
    intro l
    induction l with
    | nil => simp [Lib.joinTail]
    | cons f l ih =>
      have := itoa_len (hi.sel f)
      unfold Lib.joinTail at ih ⊢
      simp only [List.map_cons, List.flatten_cons, List.length_append, List.length_cons, List.length_nil] at ih ⊢
      omega
  have := h3 (fieldL i.op)
  omega
end Go.Proofs.YtfkngjglnhfdcaaGreatDoor
