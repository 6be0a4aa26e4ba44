/- AsmText, as plain Lean. -/
import Derived.Test.YtchlcncffillbaaDoorP17
import Derived.Test.YtchlcncffillbaaDoorLL
namespace Go.Proofs.YtchlcncffillbaaDoor.L
set_option linter.unusedVariables false
set_option linter.unusedSimpArgs false
open Go.RowKit Go.Proofs.YtchlcncffillbaaDoor.P Go.Proofs.YtchlcncffillbaaDoor.F Go.Proofs.YtchlcncffillbaaDoorW.PrintWords Go.Proofs.YtchlcncffillbaaDoorW.PrintLast Go.Proofs.YtchlcncffillbaaDoorW.PrintMore

/-- What t says is read as the instructions 'done'. -/
def Good (t : List UInt8) (done : List S48) : Prop := ∀ r, ∃ m : Nat, parseL (splitC 10 [] (t ++ r)) [] 1 = parseL (splitC 10 [] r) done (1 + (m : Int))
/-- More or other blanks, the same words. -/
def Like (a b : List UInt8) : Prop := ∀ q, fieldsB [] (a ++ q) = fieldsB [] (b ++ q)
theorem fieldsB_sp (S : List UInt8) (hS : S = [32] ∨ S = [32, 32] ∨ S = [9] ∨ S = [32, 9, 32]) : ∀ (l cur q : List UInt8), fieldsB cur (l ++ (S ++ q)) = fieldsB cur (l ++ ([32] ++ q))
  | [], cur, q => by
    rcases hS with rfl | rfl | rfl | rfl
    · rfl
    · by_cases h : cur = [] <;> simp [fieldsB, isB, h]
    · by_cases h : cur = [] <;> simp [fieldsB, isB, h]
    · by_cases h : cur = [] <;> simp [fieldsB, isB, h]
  | x :: l, cur, q => by
    rw [List.cons_append, List.cons_append]
    unfold fieldsB
    rw [fieldsB_sp S hS l [] q, fieldsB_sp S hS l (cur ++ [x]) q]
theorem Like.sp {a b : List UInt8} (h : Like a b) {S : List UInt8} (hS : S = [32] ∨ S = [32, 32] ∨ S = [9] ∨ S = [32, 9, 32]) : Like (a ++ S) (b ++ [32]) := by
  intro q
  rw [List.append_assoc, h (S ++ q), fieldsB_sp S hS b [] q, List.append_assoc]
theorem Like.ch {a b : List UInt8} (h : Like a b) (c : UInt8) : Like (a ++ [c]) (b ++ [c]) := by
  intro q
  rw [List.append_assoc, h ([c] ++ q), List.append_assoc]
theorem W_mid {x : S48} (hv : vS x = true) {line : List UInt8} (hl : Like line (lineL x)) (hok : ∀ c ∈ line, okc c = true) (P S : List UInt8) (hP : P = [] ∨ P = [9] ∨ P = [32, 32])
    (hS : S = [] ∨ S = [32] ∨ S = [59, 32, 110, 111, 112] ∨ S = [9, 59]) : W (P ++ line ++ S) = wordsOf x := by
  have h59 : 59 ∉ line := (okc_no hok).2
  have hbase : fieldsB [] line = wordsOf x := by
    have := hl []
    rw [List.append_nil, List.append_nil] at this
    rw [this, ← line_W hv]
    unfold W
    rw [strip_none (okc_no (line_okc hv)).2]
  have hpre : ∀ z, fieldsB [] (P ++ z) = fieldsB [] z := by
    intro z
    rcases hP with rfl | rfl | rfl
    · rfl
    · rfl
    · rfl
  have hP59 : 59 ∉ P ++ line := by
    rw [List.mem_append]
    rintro (h | h)
    · rcases hP with rfl | rfl | rfl <;> revert h <;> decide
    · exact h59 h
  unfold W
  rw [strip_append, if_neg hP59, List.append_assoc, hpre]
  rcases hS with rfl | rfl | rfl | rfl
  · rw [show strip [] = [] from rfl, List.append_nil, hbase]
  · rw [show strip [32] = [32] by decide, fieldsB_end 32 (by decide), hbase]
  · rw [show strip [59, 32, 110, 111, 112] = [] by decide, List.append_nil, hbase]
  · rw [show strip [9, 59] = [9] by decide, fieldsB_end 9 (by decide), hbase]
def pres : List (List UInt8) := [[], [9], [59, 32, 120, 32, 114, 49, 10], [32, 32], [10]]
def sufs : List (List UInt8) := [[10], [32, 10], [59, 32, 110, 111, 112, 10], [10, 10, 32, 10], [9, 59, 10]]
theorem good_line {t : List UInt8} {done : List S48} (hg : Good t done) {x : S48} (hv : vS x = true) {line : List UInt8} (hl : Like line (lineL x)) (hok : ∀ c ∈ line, okc c = true) (hd : done.length < 4096)
    (P S : List UInt8) (hP : P ∈ pres) (hS : S ∈ sufs) : Good (t ++ ((P ++ line) ++ S)) (done ++ [x]) := by
  intro r
  obtain ⟨m, hm⟩ := hg (((P ++ line) ++ S) ++ r)
  rw [List.append_assoc, hm]
  -- the line itself, and what stands behind it
  have h10 : 10 ∉ line := (okc_no hok).1
  have main : ∀ (Q S1 S2 : List UInt8) (n : Nat), (Q = [] ∨ Q = [9] ∨ Q = [32, 32]) → (S1 = [] ∨ S1 = [32] ∨ S1 = [59, 32, 110, 111, 112] ∨ S1 = [9, 59]) → (S2 = [] ∨ S2 = [10, 32, 10]) →
      ∃ m' : Nat, parseL (splitC 10 [] ((Q ++ line ++ S1) ++ 10 :: (S2 ++ r))) done (1 + (n : Int)) = parseL (splitC 10 [] r) (done ++ [x]) (1 + (m' : Int)) := by
    intro Q S1 S2 n hQ h1 h2
    have hn : 10 ∉ Q ++ line ++ S1 := by
      rw [List.mem_append, List.mem_append]
      rintro ((h | h) | h)
      · rcases hQ with rfl | rfl | rfl <;> revert h <;> decide
      · exact h10 h
      · rcases h1 with rfl | rfl | rfl | rfl <;> revert h <;> decide
    rw [splitC_nl 10 _ _ hn, parseL_line hv _ (W_mid hv hl hok Q S1 hQ h1) _ _ _ hd]
    rcases h2 with rfl | rfl
    · exact ⟨n + 1, by rw [List.nil_append]; congr 1⟩
    · refine ⟨n + 3, ?_⟩
      rw [show ([10, 32, 10] : List UInt8) ++ r = ([] : List UInt8) ++ 10 :: ([32] ++ 10 :: r) from rfl, splitC_nl 10 [] _ (by decide), parseL_blank [] (by decide), splitC_nl 10 [32] _ (by decide), parseL_blank [32] (by decide)]
      congr 1
  have fin : ∀ (Q : List UInt8) (n : Nat), (Q = [] ∨ Q = [9] ∨ Q = [32, 32]) → ∃ m' : Nat, parseL (splitC 10 [] (Q ++ line ++ S ++ r)) done (1 + (n : Int)) = parseL (splitC 10 [] r) (done ++ [x]) (1 + (m' : Int)) := by
    intro Q n hQ
    simp only [sufs, List.mem_cons, List.not_mem_nil, or_false] at hS
    rcases hS with rfl | rfl | rfl | rfl | rfl
    · have := main Q [] [] n hQ (by simp) (by simp)
      simpa only [List.append_assoc, List.cons_append, List.nil_append, List.append_nil] using this
    · have := main Q [32] [] n hQ (by simp) (by simp)
      simpa only [List.append_assoc, List.cons_append, List.nil_append] using this
    · have := main Q [59, 32, 110, 111, 112] [] n hQ (by simp) (by simp)
      simpa only [List.append_assoc, List.cons_append, List.nil_append] using this
    · have := main Q [] [10, 32, 10] n hQ (by simp) (by simp)
      simpa only [List.append_assoc, List.cons_append, List.nil_append, List.append_nil] using this
    · have := main Q [9, 59] [] n hQ (by simp) (by simp)
      simpa only [List.append_assoc, List.cons_append, List.nil_append] using this
  simp only [pres, List.mem_cons, List.not_mem_nil, or_false] at hP
  rcases hP with rfl | rfl | rfl | rfl | rfl
  · exact fin [] m (by simp)
  · exact fin [9] m (by simp)
  · obtain ⟨m', h'⟩ := fin [] (m + 1) (by simp)
    refine ⟨m', ?_⟩
    rw [← h', show ([59, 32, 120, 32, 114, 49, 10] ++ line ++ S ++ r : List UInt8) = [59, 32, 120, 32, 114, 49] ++ 10 :: ([] ++ line ++ S ++ r) by simp, splitC_nl 10 _ _ (by decide), parseL_blank _ (by decide)]
    congr 1
  · exact fin [32, 32] m (by simp)
  · obtain ⟨m', h'⟩ := fin [] (m + 1) (by simp)
    refine ⟨m', ?_⟩
    rw [← h', show ([10] ++ line ++ S ++ r : List UInt8) = [] ++ 10 :: ([] ++ line ++ S ++ r) by simp, splitC_nl 10 _ _ (by decide), parseL_blank _ (by decide)]
    congr 1

def presB : List ByteArray := [(⟨#[]⟩ : ByteArray), (⟨#[9]⟩ : ByteArray), (⟨#[59, 32, 120, 32, 114, 49, 10]⟩ : ByteArray), (⟨#[32, 32]⟩ : ByteArray), (⟨#[10]⟩ : ByteArray)]
def sufsB : List ByteArray := [(⟨#[10]⟩ : ByteArray), (⟨#[32, 10]⟩ : ByteArray), (⟨#[59, 32, 110, 111, 112, 10]⟩ : ByteArray), (⟨#[10, 10, 32, 10]⟩ : ByteArray), (⟨#[9, 59, 10]⟩ : ByteArray)]
def spsB : List ByteArray := [(⟨#[32]⟩ : ByteArray), (⟨#[32, 32]⟩ : ByteArray), (⟨#[9]⟩ : ByteArray), (⟨#[32, 9, 32]⟩ : ByteArray)]
theorem pres_at (m : Nat) : ∃ P, P ∈ pres ∧ P.length ≤ 7 ∧ rdOf ByteArray.empty presB ((m % 5 : Nat) : Int) = B P := by
  have h : m % 5 < 5 := Nat.mod_lt _ (by decide)
  generalize m % 5 = i at *
  have : i = 0 ∨ i = 1 ∨ i = 2 ∨ i = 3 ∨ i = 4 := by omega
  rcases this with rfl | rfl | rfl | rfl | rfl
  · exact ⟨[], by simp [pres], by decide, rfl⟩
  · exact ⟨[9], by simp [pres], by decide, rfl⟩
  · exact ⟨[59, 32, 120, 32, 114, 49, 10], by simp [pres], by decide, rfl⟩
  · exact ⟨[32, 32], by simp [pres], by decide, rfl⟩
  · exact ⟨[10], by simp [pres], by decide, rfl⟩
theorem sufs_at (m : Nat) : ∃ S, S ∈ sufs ∧ S.length ≤ 6 ∧ rdOf ByteArray.empty sufsB ((m % 5 : Nat) : Int) = B S := by
  have h : m % 5 < 5 := Nat.mod_lt _ (by decide)
  generalize m % 5 = i at *
  have : i = 0 ∨ i = 1 ∨ i = 2 ∨ i = 3 ∨ i = 4 := by omega
  rcases this with rfl | rfl | rfl | rfl | rfl
  · exact ⟨[10], by simp [sufs], by decide, rfl⟩
  · exact ⟨[32, 10], by simp [sufs], by decide, rfl⟩
  · exact ⟨[59, 32, 110, 111, 112, 10], by simp [sufs], by decide, rfl⟩
  · exact ⟨[10, 10, 32, 10], by simp [sufs], by decide, rfl⟩
  · exact ⟨[9, 59, 10], by simp [sufs], by decide, rfl⟩
theorem sps_at (m : Nat) : ∃ S, (S = [32] ∨ S = [32, 32] ∨ S = [9] ∨ S = [32, 9, 32]) ∧ S.length ≤ 3 ∧ (∀ c ∈ S, okc c = true) ∧ rdOf ByteArray.empty spsB ((m % 4 : Nat) : Int) = B S := by
  have h : m % 4 < 4 := Nat.mod_lt _ (by decide)
  generalize m % 4 = i at *
  have : i = 0 ∨ i = 1 ∨ i = 2 ∨ i = 3 := by omega
  rcases this with rfl | rfl | rfl | rfl
  · exact ⟨[32], by simp, by decide, by decide, rfl⟩
  · exact ⟨[32, 32], by simp, by decide, by decide, rfl⟩
  · exact ⟨[9], by simp, by decide, by decide, rfl⟩
  · exact ⟨[32, 9, 32], by simp, by decide, by decide, rfl⟩

def headL : List S48 → List UInt8
  | [] => []
  | y :: _ => lineL y
theorem ltM5 (m : Nat) (a b c d e : ByteArray) : ((m % 5 : Nat) : Int) < (([a, b, c, d, e] : List ByteArray).length : Int) := by
  have h : m % 5 < 5 := Nat.mod_lt _ (by decide)
  simp only [List.length_cons, List.length_nil]
  omega
theorem ltM4 (m : Nat) (a b c d : ByteArray) : ((m % 4 : Nat) : Int) < (([a, b, c, d] : List ByteArray).length : Int) := by
  have h : m % 4 < 4 := Nat.mod_lt _ (by decide)
  simp only [List.length_cons, List.length_nil]
  omega
theorem wrapM (m : Nat) (h : m < 256) : wrap64 (m : Int) = (m : Int) := w64 ⟨by omega, by omega⟩
theorem tmodN (a b : Nat) : Int.tmod (a : Int) (b : Int) = ((a % b : Nat) : Int) := by rw [Int.tmod_eq_emod_of_nonneg (by omega)]; rfl
theorem tdivN (a b : Nat) : Int.tdiv (a : Int) (b : Int) = ((a / b : Nat) : Int) := by rw [Int.tdiv_eq_ediv_of_nonneg (by omega)]; rfl
set_option maxHeartbeats 1600000 in
theorem text_l0 (l : List S48) (hl : l.length ≤ 40) (hv : ∀ x ∈ l, vS x = true) (by_ : List Int) (hby : by_ ≠ []) (hbl : by_.length ≤ 40) (hb : ∀ x ∈ by_, 0 ≤ x ∧ x < 256) :
    ∀ (d i : Nat) (t line p q : List UInt8) (done todo : List S48), i + d = (textL l).length → l = done ++ todo →
    (match todo with | [] => (textL l).drop i = [] | x :: ls => (textL l).drop i = q ++ 10 :: textL ls ∧ lineL x = p ++ q) →
    Good t done → Like line p → (∀ c ∈ line, okc c = true) → t.length + line.length ≤ 13 * i →
    Tells (fun k => ontimelaw05_AsmText.l0 k l by_ (textS l) (B t) (B line) i) true := by
  have htl := textL_len l hv
  have hts : (textS l).size = (textL l).length := B_size _
  have hbpos : 0 < by_.length := List.length_pos_iff.2 hby
  intro d
  induction d with
  | zero =>
    intro i t line p q done todo hi hdt hrest hg hlk hok hlen
    have hdr : (textL l).drop i = [] := List.drop_eq_nil_of_le (by omega)
    have htodo : todo = [] := by
      cases todo with
      | nil => rfl
      | cons x ls =>
        simp only at hrest
        rw [hdr] at hrest
        have := hrest.1
        simp at this
    subst htodo
    rw [List.append_nil] at hdt
    subst hdt
    refine Tells.succ ?_
    simp only [ontimelaw05_AsmText.l0]
    refine Tells.neg (by omega) ?_
    have hp : parseS t = (l, 0, 0) := by
      obtain ⟨m, hm⟩ := hg []
      rw [List.append_nil] at hm
      unfold parseS
      rw [if_neg (by omega), hm, parseL_nil]
    refine Tells.bind (a := (l, 0, 0)) (by have := asm_parse t (by omega); rw [hp] at this; exact this) ?_
    refine Tells.pos rfl ?_
    refine Tells.pos rfl ?_
    refine Tells.bind (same_self l (by omega)) ?_
    exact Tells.const
  | succ d ih =>
    intro i t line p q done todo hi hdt hrest hg hlk hok hlen
    have hlt : i < (textL l).length := by omega
    have hd : (textL l).drop i = (textL l)[i] :: (textL l).drop (i + 1) := List.drop_eq_getElem_cons hlt
    have hbt : bt (textS l) i = ((textL l)[i].toNat : Int) := B_bt _ _ hlt
    have hex : (textS l).extract i (i + 1) = B [(textL l)[i]] := by
      show (B (textL l)).extract i (i + 1) = _
      rw [B_extract, hd, Nat.add_sub_cancel_left]; rfl
    cases todo with
    | nil =>
      simp only at hrest
      rw [hrest] at hd
      cases hd
    | cons x ls =>
      simp only at hrest
      obtain ⟨hr, hlx⟩ := hrest
      have hxv : vS x = true := hv x (by rw [hdt]; simp)
      have hdl : done.length < 40 := by
        have := congrArg List.length hdt
        simp only [List.length_append, List.length_cons] at this
        omega
      rw [hd] at hr
      have htm : Int.tmod (i : Int) (by_.length : Int) = ((i % by_.length : Nat) : Int) := tmodN i by_.length
      have him : i % by_.length < by_.length := Nat.mod_lt _ hbpos
      obtain ⟨m, hm256, hm⟩ : ∃ m : Nat, m < 256 ∧ rd by_ ((i % by_.length : Nat) : Int) = (m : Int) := by
        have h1 : rd by_ ((i % by_.length : Nat) : Int) = by_[i % by_.length] := by
          unfold rd
          rw [Int.toNat_natCast, List.getD_eq_getElem?_getD, List.getElem?_eq_getElem him]
          rfl
        have h2 := hb _ (List.getElem_mem him)
        rw [h1]
        exact ⟨by_[i % by_.length].toNat, by omega, by omega⟩
      have hw : wrap64 (m : Int) = (m : Int) := wrapM m hm256
      have hd5 : Int.tdiv (m : Int) 5 = ((m / 5 : Nat) : Int) := tdivN m 5
      have hw5 : wrap64 ((m / 5 : Nat) : Int) = ((m / 5 : Nat) : Int) := wrapM (m / 5) (Nat.lt_of_le_of_lt (Nat.div_le_self _ _) hm256)
      have t5 : ∀ a : Nat, Int.tmod (a : Int) 5 = ((a % 5 : Nat) : Int) := fun a => tmodN a 5
      have t4 : Int.tmod (m : Int) 4 = ((m % 4 : Nat) : Int) := tmodN m 4
      obtain ⟨P, hP, hPl, hPe⟩ := pres_at m
      obtain ⟨S, hS, hSl, hSe⟩ := sufs_at (m / 5)
      obtain ⟨S4, hS4, hS4l, hS4ok, hS4e⟩ := sps_at m
      unfold presB at hPe
      unfold sufsB at hSe
      unfold spsB at hS4e
      refine Tells.succ ?_
      simp only [ontimelaw05_AsmText.l0, hbt, hex, htm, hm, hw, hd5, hw5, t5, t4, hPe, hSe, hS4e, Option.bind_some, w64n i (by omega), Int.toNat_natCast, B_append]
      refine Tells.pos (by omega) ?_
      refine Tells.neg (by omega) ?_
      refine Tells.pos (by omega) ?_
      refine Tells.pos (by omega) ?_
      refine Tells.pos (by omega) ?_
      clear htm hw hd5 hw5 t5 t4 hm hPe hSe hS4e him hb
      cases q with
      | nil =>
        rw [List.nil_append, List.cons.injEq] at hr
        obtain ⟨hc, hr⟩ := hr
        rw [List.append_nil] at hlx
        rw [hc]
        refine Tells.pos (show ((10 : UInt8).toNat : Int) = 10 from rfl) ?_
        refine Tells.pos (Int.natCast_nonneg _) ?_
        refine Tells.pos (ltM5 m _ _ _ _ _) ?_
        refine Tells.pos (by rw [B_size, B_size]; omega) ?_
        refine Tells.pos (Int.natCast_nonneg _) ?_
        refine Tells.pos (ltM5 (m / 5) _ _ _ _ _) ?_
        refine Tells.pos (by rw [B_size, B_size, List.length_append]; omega) ?_
        refine Tells.pos (by rw [B_size, B_size, List.length_append, List.length_append]; omega) ?_
        rw [← hlx] at hlk
        have hg' := good_line hg hxv hlk hok (by omega) P S hP hS
        refine ih (i + 1) _ [] [] (headL ls) (done ++ [x]) ls (by omega) (by rw [hdt]; simp) ?_ hg' (fun q => rfl) (by simp) (by simp only [List.length_append, List.length_nil]; omega)
        cases ls with
        | nil => simpa [textL] using hr
        | cons y ls => exact ⟨by rw [hr, textL_cons]; rfl, by simp [headL]⟩
      | cons c q =>
        rw [List.cons_append, List.cons.injEq] at hr
        obtain ⟨hc, hr⟩ := hr
        have hcok : okc c = true := line_okc hxv c (by rw [hlx]; simp)
        have hc10 : c ≠ 10 := by
          rintro rfl
          exact absurd hcok (by decide)
        rw [hc]
        have n10 : ¬ ((c.toNat : Int) = 10) := fun h => hc10 (UInt8.toNat_inj.1 (by rw [show (10 : UInt8).toNat = 10 from rfl]; omega))
        refine Tells.neg n10 ?_
        have hnext : ∀ line', Like line' (p ++ [c]) → (∀ e ∈ line', okc e = true) → t.length + line'.length ≤ 13 * (i + 1) → Tells (fun k => ontimelaw05_AsmText.l0 k l by_ (textS l) (B t) (B line') ((i + 1 : Nat) : Int)) true := by
          intro line' h1 h2 h3
          exact ih (i + 1) t line' (p ++ [c]) q done (x :: ls) (by omega) hdt ⟨hr, by rw [hlx]; simp⟩ hg h1 h2 h3
        by_cases h32 : c = 32
        · subst h32
          refine Tells.pos rfl ?_
          refine Tells.pos (by omega) ?_
          refine Tells.pos (ltM4 m _ _ _ _) ?_
          refine Tells.pos (by rw [B_size, B_size]; omega) ?_
          exact hnext _ (hlk.sp hS4) (fun e he => by
            rcases List.mem_append.1 he with he | he
            · exact hok e he
            · exact hS4ok e he) (by rw [List.length_append]; omega)
        · refine Tells.neg (fun h => h32 (UInt8.toNat_inj.1 (by rw [show (32 : UInt8).toNat = 32 from rfl]; omega))) ?_
          refine Tells.pos (by omega) ?_
          refine Tells.pos (by omega) ?_
          refine Tells.pos (by rw [B_size, B_size]; simp only [List.length_cons, List.length_nil]; omega) ?_
          exact hnext _ (hlk.ch c) (fun e he => by
            rcases List.mem_append.1 he with he | he
            · exact hok e he
            · rw [List.mem_singleton.1 he]; exact hcok) (by simp only [List.length_append, List.length_cons, List.length_nil]; omega)

theorem AsmText (l : List S48) (ok : ∀ x ∈ l, okI x) (by_ : List Int) (okb : ∀ x ∈ by_, 0 ≤ x ∧ x < 256) : ∃ k, ontimelaw05_AsmText.f k l by_ = some true := by
  refine Tells.ex (f := fun k => ontimelaw05_AsmText.f k l by_) ?_
  have ho := op_of_ok ok
  unfold ontimelaw05_AsmText.f
  refine Tells.bind awake_true ?_
  refine Tells.pos rfl ?_
  have jt : Tells (fun k => ontimelaw05_AsmText.j0 k l by_ true) true := by
    refine Tells.succ ?_
    simp only [ontimelaw05_AsmText.j0]
    refine Tells.pos (by first | rfl | trivial) ?_
    exact Tells.const
  by_cases h : (l.length : Int) > 40
  · refine Tells.pos h ?_
    exact jt
  · refine Tells.neg h ?_
    by_cases h0 : (by_.length : Int) = 0
    · refine Tells.pos h0 ?_
      exact jt
    · refine Tells.neg h0 ?_
      by_cases hb : (by_.length : Int) > 40
      · rw [decide_eq_true hb]
        exact jt
      · rw [decide_eq_false hb]
        refine Tells.succ ?_
        simp only [ontimelaw05_AsmText.j0]
        refine Tells.neg (by decide) ?_
        rw [asm_format l (by omega) ho]
        simp only [Option.bind_some]
        by_cases hall : l.all vS = true
        · rw [if_pos hall]
          have hv := List.all_eq_true.1 hall
          refine Tells.pos rfl ?_
          refine text_l0 l (by omega) hv by_ (fun he => h0 (by rw [he]; rfl)) (by omega) okb (textL l).length 0 [] [] [] (headL l) [] l (by omega) rfl ?_ (fun r => ⟨0, rfl⟩) (fun q => rfl) (by simp) (by simp)
          cases l with
          | nil => rfl
          | cons x ls => exact ⟨by rw [List.drop_zero, textL_cons]; rfl, by simp [headL]⟩
        · rw [if_neg hall]
          refine Tells.neg (by decide) ?_
          refine Tells.bind (valid_eq l (by omega) ho) ?_
          rw [if_neg hall]
          exact Tells.const
end Go.Proofs.YtchlcncffillbaaDoor.L
