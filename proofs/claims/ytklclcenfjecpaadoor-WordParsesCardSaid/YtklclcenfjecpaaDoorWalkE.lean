/- word.Parse's contract: at every text that Go can hold it tells parseN's answer. -/
import Derived.Test.YtklclcenfjecpaaDoorWalkD
import Derived.WalkSmall
namespace Go.Proofs.YtklclcenfjecpaaDoor.DoorWalk
open Go.RowKit Go.Proofs.YtklclcenfjecpaaDoorW.PrintWords Go.Proofs.YtklclcenfjecpaaDoorW.PrintLast Go.Proofs.YtklclcenfjecpaaDoorW.PrintMore
open Go.Proofs.YtklclcenfjecpaaDoor.Num
/-- A text in Go's own string. -/
def str (d : List UInt8) : ByteArray := ⟨d.toArray⟩
theorem str_data (d : List UInt8) : (str d).data.toList = d := rfl
theorem str_list (d : List UInt8) : (str d).toList = d := by rw [ByteArray.toList_eq]; rfl
theorem str_size (d : List UInt8) : (str d).size = d.length := by show d.toArray.size = d.length; rw [List.size_toArray]
theorem str_head (c : UInt8) (r : List UInt8) (h : 0 < (str (c :: r)).size) : (str (c :: r))[0] = c := rfl
theorem has45 (l : List UInt8) : Lib.hasPrefix l [45] = (l.head? == some 45) := by
  unfold Lib.hasPrefix
  cases l with
  | nil => rfl
  | cons c r =>
    simp only [List.isPrefixOf, List.head?_cons, Bool.and_true]
    rw [Bool.eq_iff_iff]; simp only [beq_iff_eq, Option.some.injEq]; exact eq_comm
theorem trim45 (l : List UInt8) : Lib.trimPrefix l [45] = if (l.head? == some 45) = true then l.drop 1 else l := by
  unfold Lib.trimPrefix; rw [has45]; rfl
theorem ten_ascii : ∀ (j : Nat) (b : UInt8), tenS.data.toList[j]? = some b → b.toNat < 128 := by
  intro j b h
  have hm : b ∈ ten := List.mem_of_getElem? h
  revert hm b
  unfold ten
  intro b _ hm
  simp only [List.mem_cons, List.not_mem_nil, or_false] at hm
  rcases hm with rfl | rfl | rfl | rfl | rfl | rfl | rfl | rfl | rfl | rfl <;> decide
theorem var_size {P : Program} {w : World} {g : Nat} {n : String} {cs : Array Value} (hg : P.globalNamed n = some g) (hv : w.var? P n = some cs) : g < w.heap.size := by
  unfold World.var? at hv
  simp only [hg, Option.bind_some] at hv
  apply Classical.byContradiction
  intro h
  rw [Array.getElem?_eq_none (by omega)] at hv
  cases hv
/-- What word.Parse leaves. -/
def Parsed (r : Int × Int) (w : World) (e : Ending) (w' : World) : Prop := e = .returned (.tuple #[.int .u64 r.1, .int .i64 r.2]) ∧ Below w.heap.size w w'
theorem parse_core (s : ByteArray) (d : List UInt8) (M : Bool) (w : World) (tp : TypeId) (p : Value)
    (hcut : Aside0 (Calls Tryd.prog 21 #[.string s, .string ⟨#[45]⟩] w fun e w' => e = .returned (.tuple #[.string (str d), .bool M]) ∧ w = w'))
    (hz : d.length ≤ 140737488351232) (hvar : w.var? Tryd.prog "strconv.ErrRange" = some #[.iface tp p]) :
    Calls Tryd.prog 8 #[.string s] w (Parsed (if bad M d then (0, 5) else told M d) w) := by
  unfold Parsed
  have hsz := str_size d
  have htrim : Aside0 (Calls Tryd.prog 22 #[.string (str d), .string tenS] w fun e w' => e = .returned (.string (str (Lib.trimS d ten))) ∧ Below w.heap.size w w') :=
    ⟨Tryd.strings_Trim (str d) tenS w (by omega) (by decide) ten_ascii⟩
  cases d with
  | nil =>
    have hb : bad M [] = true := rfl
    rw [if_pos hb]
    exact bad1 s (str []) M w hcut (str_list [])
  | cons c r =>
    have h1b : (str (c :: r)).toList.isEmpty = false := by rw [str_list]; rfl
    have h0 : 0 < (str (c :: r)).size := by rw [hsz]; simp
    have hc : (str (c :: r))[0] = c := str_head c r h0
    by_cases had : (c :: r).all dig = true
    · have h2 : (str (Lib.trimS (c :: r) ten)).toList = [] := by rw [str_list]; exact (trim_nil _).mpr had
      have hpb := parseB (c :: r) (List.cons_ne_nil _ _) had
      have hlen : ((str (c :: r)).size : Int) = (r.length : Int) + 1 := by rw [hsz]; simp
      have pu_ok : ∀ u, Lib.parseUintB 64 (c :: r) = .ok u → Aside0 (∀ w', Below w.heap.size w w' → Calls Tryd.prog 23 #[.string (str (c :: r)), .int .i64 10, .int .i64 64] w' fun e w'' => (∃ N : Nat, N = N ∧ e = .returned (.tuple #[.int .u64 u, .nilIface])) ∧ Below w.heap.size w w'') := by
        intro u hu
        refine ⟨fun w' hw' => (Tryd.strconv_ParseUint_10_at64_ok (str (c :: r)) (by omega) u hu w').mono ?_⟩
        rintro e w'' ⟨rfl, hw⟩
        refine ⟨⟨0, rfl, rfl⟩, ?_⟩
        rcases hw with rfl | rfl
        · exact hw'
        · exact bytes_below hw' hw'.size 5 _
      have pu_range : Lib.parseUintB 64 (c :: r) = .range → Aside0 (∀ w', Below w.heap.size w w' → Calls Tryd.prog 23 #[.string (str (c :: r)), .int .i64 10, .int .i64 64] w' fun e w'' => (∃ N : Nat, N = N ∧ e = .returned (.tuple #[.int .u64 18446744073709551615, .iface 72 (.pointer (some ⟨N, 0, none⟩))])) ∧ Below w.heap.size w w'') := by
        intro hu
        have hg : Tryd.prog.globalNamed "strconv.ErrRange" = some 2 := by kernel_rfl
        refine ⟨fun w' hw' => (Tryd.strconv_ParseUint_10_at64_range_var (str (c :: r)) (by omega) hu tp p w' (var?_below hw' hg (var_size hg hvar) hvar)).mono ?_⟩
        rintro e w'' ⟨N, rfl, _, _, hb⟩
        exact ⟨⟨N, rfl, rfl⟩, hw'.trans (hb.mono hw'.size)⟩
      have hbig : ∀ n : Nat, 4611686018427387904 < n → decide (4611686018427387904 < (n : Int)) = true := fun n h => decide_eq_true (by omega)
      have hsml : ∀ n : Nat, n ≤ 4611686018427387904 → decide (4611686018427387904 < (n : Int)) = false := fun n h => decide_eq_false (by omega)
      by_cases h48 : c.toNat = 48
      · have h3 : (((str (c :: r))[0].toNat : Int) == 48) = true := by rw [hc]; simp [h48]
        have hce : c = 48 := UInt8.toNat_inj.mp (by rw [h48]; rfl)
        by_cases hl : 1 < (c :: r).length
        · have hb : bad M (c :: r) = true := by
            unfold bad; subst hce; rw [had, decide_eq_true hl]; simp
          rw [if_pos hb]
          exact bad3 s _ _ M w hcut htrim h1b h2 h0 h3 (decide_eq_true (by rw [hsz]; omega))
        · have h4 : decide (1 < ((str (c :: r)).size : Int)) = false := decide_eq_false (by rw [hsz]; omega)
          cases M with
          | true =>
            have hb : bad true (c :: r) = true := by unfold bad; subst hce; rw [had]; simp
            rw [if_pos hb]
            exact bad4 s _ _ w hcut htrim h1b h2 h0 h3 h4
          | false =>
            have hr : r = [] := by
              cases r with
              | nil => rfl
              | cons x y => simp at hl
            subst hr
            subst hce
            have hb : bad false [48] = false := by decide
            have hv : val 0 [48] = 0 := by rw [val_cons, val_nil]; rfl
            rw [hv, if_pos (Nat.zero_le _)] at hpb
            have ht : told false [48] = (enc (0 : Int), 0) := by unfold told; rw [hv]; rfl
            rw [if_neg (by rw [hb]; decide), ht]
            exact ok2b s _ _ 0 w hcut htrim (pu_ok 0 hpb) h1b h2 h0 h3 h4 (hsml 0 (by omega)) rfl (by omega)
      · have hb : bad M (c :: r) = false := by
          unfold bad
          have e1 : ((c :: r).head? == some 48) = false := by
            rw [Bool.eq_false_iff]; intro h; have : c = 48 := by simpa using h
            exact h48 (by rw [this]; rfl)
          rw [had, e1]; rfl
        rw [if_neg (by rw [hb]; decide)]
        have h3 : (((str (c :: r))[0].toNat : Int) == 48) = false := by
          rw [hc, beq_eq_false_iff_ne]; intro h; exact h48 (by omega)
        unfold told
        have ht64 := top64_eq
        generalize val 0 (c :: r) = v at hpb ⊢
        by_cases hv : v ≤ top64
        · rw [if_pos hv] at hpb
          have pu := pu_ok v hpb
          by_cases hg : v > 4611686018427387904
          · rw [if_pos (Or.inl hg)]
            exact range2a s _ _ M v w hcut htrim pu h1b h2 h0 h3 (hbig v hg)
          · by_cases he : v = 4611686018427387904
            · cases M with
              | false =>
                rw [if_pos (Or.inr ⟨he, rfl⟩)]
                exact range3a s _ _ v w hcut htrim pu h1b h2 h0 h3 (hsml v (by omega)) (beq_iff_eq.mpr (by omega))
              | true =>
                rw [if_neg (by rintro (h | h); exact hg h; exact absurd h.2 (by decide)), if_pos rfl]
                subst he
                exact ok3a s _ _ w hcut htrim pu h1b h2 h0 h3
            · have hw : ((v : Int) == 4611686018427387904) = false := by rw [beq_eq_false_iff_ne]; omega
              rw [if_neg (by rintro (h | h); exact hg h; exact he h.1)]
              cases M with
              | false =>
                rw [if_neg (by decide)]
                exact ok2a s _ _ v w hcut htrim pu h1b h2 h0 h3 (hsml v (by omega)) hw (by omega)
              | true =>
                rw [if_pos rfl]
                exact ok1a s _ _ v w hcut htrim pu h1b h2 h0 h3 (hsml v (by omega)) hw (by omega)
        · rw [if_neg hv] at hpb
          rw [if_pos (Or.inl (by omega))]
          exact range1a s _ _ M w hcut htrim (pu_range hpb) h1b h2 h0 h3
    · have h2 : ¬ (str (Lib.trimS (c :: r) ten)).toList = [] := by rw [str_list]; exact fun h => had ((trim_nil _).mp h)
      have hb : bad M (c :: r) = true := by
        unfold bad
        have : (c :: r).all dig = false := by simpa using had
        rw [this]; simp
      rw [if_pos hb]
      exact bad2 s _ _ M w hcut htrim h1b h2
theorem word_parse (s : ByteArray) (w : World) (tp : TypeId) (p : Value) (hz : s.size ≤ 140737488351232) (hvar : w.var? Tryd.prog "strconv.ErrRange" = some #[.iface tp p]) :
    Calls Tryd.prog 8 #[.string s] w (Parsed (parseN s.data.toList) w) := by
  have hl : s.data.toList.length = s.size := Array.length_toList
  have hcut : Aside0 (Calls Tryd.prog 21 #[.string s, .string ⟨#[45]⟩] w fun e w' => e = .returned (.tuple #[.string (str (if (s.data.toList.head? == some 45) = true then s.data.toList.drop 1 else s.data.toList)), .bool (s.data.toList.head? == some 45)]) ∧ w = w') := by
    refine ⟨(Tryd.strings_CutPrefix s ⟨#[45]⟩ w).mono ?_⟩
    rintro e w' ⟨rfl, rfl⟩
    refine ⟨?_, rfl⟩
    show Ending.returned (.tuple #[.string (str (Lib.trimPrefix s.data.toList [45])), .bool (Lib.hasPrefix s.data.toList [45])]) = _
    rw [has45, trim45]
  refine parse_core s _ _ w tp p hcut ?_ hvar
  split
  · rw [List.length_drop]; omega
  · omega
end Go.Proofs.YtklclcenfjecpaaDoor.DoorWalk
