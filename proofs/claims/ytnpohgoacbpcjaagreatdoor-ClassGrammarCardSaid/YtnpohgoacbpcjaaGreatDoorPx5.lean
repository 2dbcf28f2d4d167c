-- written by a program of this session (wip/p2)
import Derived.Test.YtnpohgoacbpcjaaGreatDoorPx0
import Derived.Test.YtnpohgoacbpcjaaGreatDoorPx4
namespace Go.Proofs.YtnpohgoacbpcjaaGreatDoor.P
open Go.RowKit Go.Proofs.YtnpohgoacbpcjaaGreatDoorW.PrintWords Go.Proofs.YtnpohgoacbpcjaaGreatDoorW.PrintLast Go.Proofs.YtnpohgoacbpcjaaGreatDoorW.PrintMore
attribute [local go_sem] max2_int min2_int max_two min_two max_three min_three max_four min_four   -- for this text's walks alone
set_option linter.unusedVariables false
set_option linter.unusedSimpArgs false

/-! ### strconv_ParseInt: function 72 -/
def strconv_ParseInt.dig (b : UInt8) : Option Nat := if 48 ≤ b.toNat ∧ b.toNat ≤ 57 then some (b.toNat - 48) else if 97 ≤ b.toNat ∧ b.toNat ≤ 102 then some (b.toNat - 87) else none
def strconv_ParseInt.hex (acc : Nat) : List UInt8 → Option Nat
  | [] => some acc
  | b :: r => (strconv_ParseInt.dig b).bind fun d => strconv_ParseInt.hex (acc * 16 + d) r
def strconv_ParseInt.f (s : ByteArray) (b n : Int) : Option (Int × Option Int) := if b = 16 ∧ n = 32 ∧ 1 ≤ s.size ∧ s.size ≤ 6 then (strconv_ParseInt.hex 0 s.data.toList).map (fun m : Nat => ((m : Int), (none : Option Int))) else none
theorem strconv_ParseInt.lower (c : Int) (w : World) : Calls Tryz.prog 113 #[.int .u8 c] w fun e w' => e = .returned (.int .u8 (Go.bits .or .u8 c 32)) ∧ w' = w := by
  go_enter Tryz.func113, Tryz.ntmps113
  go_wp2
  go_ret
  exact ⟨rfl, rfl⟩
theorem strconv_ParseInt.low (c : Int) (h0 : 97 ≤ c) (h1 : c ≤ 102) : Go.bits .or .u8 c 32 = c := by
  have : c = 97 ∨ c = 98 ∨ c = 99 ∨ c = 100 ∨ c = 101 ∨ c = 102 := by omega
  rcases this with rfl | rfl | rfl | rfl | rfl | rfl <;> decide
set_option maxHeartbeats 32000000 in
set_option maxRecDepth 100000 in
theorem strconv_ParseInt.uint (t : ByteArray) (m : Nat) (h1 : 1 ≤ t.size) (h6 : t.size ≤ 6) (hm : strconv_ParseInt.hex 0 t.data.toList = some m) (w : World) :
    Calls Tryz.prog 101 #[.string t, .int .i64 16, .int .i64 32] w fun e w' => e = .returned (.tuple #[.int .u64 m, .nilIface]) ∧ w' = Lib.bytesWorld w 5 t ∧ m < 16777216 := by
  have hemp : t.toList.isEmpty = false := by
    rw [← decide_eq_emptyBytes]
    exact decide_eq_false (fun h => by rw [h] at h1; exact absurd h1 (by decide))
  have hcv := Lib.run_convert_string_bytes (P := Tryz.prog) w 9 67 5 t (u := .string) Tryz.underlying9 Tryz.underlying67 Tryz.underlying5
  have hB : ∀ j, j < t.size → (Lib.bytesWorld w 5 t).cell? ⟨w.heap.size, j, none⟩ = some (.int .u8 (t.data.toList.getD j 0).toNat) := fun j hj => Lib.bytesWorld_cell w 5 t j hj
  obtain ⟨W1, hW1⟩ : ∃ W1, W1 = Lib.bytesWorld w 5 t := ⟨_, rfl⟩
  rw [← hW1] at hcv hB ⊢
  clear hW1
  obtain ⟨bs, hL⟩ : ∃ bs, bs = t.data.toList := ⟨_, rfl⟩
  have hLn : bs.length = t.size := by rw [hL, Lib.size_eq]
  rw [← hL] at hB hm
  clear hL
  have hmv : IntKind.u64.wrap (IntKind.u64.wrap 4294967296 - 1) = 4294967295 := by
    rw [IntKind.wrap_u64, IntKind.wrap_u64]
    decide
  have HM : Hid (strconv_ParseInt.hex 0 bs = some m) := Lib.hid hm
  clear hm
  go_enter Tryz.func101, Tryz.ntmps101
  go_wp2
  go_loop [12, 13, 101] (fun vu vn vi => ∃ (k acc : Nat) (a : Int), vu = .bool false ∧ vn = .int .u64 a ∧ vi = .int .i64 k ∧ k ≤ t.size ∧ 0 ≤ a ∧ a < 16777216 ∧ Hid (a = (acc : Int) ∧ acc < 16 ^ k ∧ strconv_ParseInt.hex acc (bs.drop k) = some m))
    (fun _ _ vi => t.size - (intOf vi).toNat)
  case atStart => exact ⟨0, 0, 0, rfl, rfl, rfl, by omega, by omega, by omega, Lib.hid ⟨rfl, by decide, by simpa using HM.out⟩⟩
  case round =>
    obtain ⟨k, acc, a, rfl, rfl, rfl, hk, a0, a1, hh⟩ := hrel
    by_cases hkn : k < t.size
    · have hc := hB k hkn
      have hdrop : bs.drop k = bs[k]'(by omega) :: bs.drop (k + 1) := List.drop_eq_getElem_cons (by omega)
      have hget : bs.getD k 0 = bs[k]'(by omega) := by simp [List.getD, List.getElem?_eq_getElem (show k < bs.length by omega)]
      have hh2 := hh.out
      rw [hdrop] at hh2
      rw [hget] at hc
      generalize bs[k]'(by omega) = c at hc hh2
      have hc256 : c.toNat < 256 := c.toNat_lt
      clear hB hdrop hget hh
      obtain ⟨ha, hacc, hdec⟩ := hh2
      unfold strconv_ParseInt.hex at hdec
      obtain ⟨d, hd, hdec⟩ := Option.bind_eq_some_iff.1 hdec
      have hk5 : k ≤ 5 := by omega
      have hpow : 16 ^ k ≤ 16 ^ 5 := Nat.pow_le_pow_right (by omega) hk5
      have hpow1 : 16 ^ (k + 1) = 16 ^ k * 16 := Nat.pow_succ ..
      have hacc5 : acc < 1048576 := Nat.lt_of_lt_of_le hacc hpow
      unfold strconv_ParseInt.dig at hd
      by_cases hdig : 48 ≤ c.toNat ∧ c.toNat ≤ 57
      · rw [if_pos hdig] at hd
        obtain rfl := Option.some.inj hd
        obtain ⟨hd0, hd1⟩ := hdig
        have HN : Hid (a * 16 + ((c.toNat : Int) - 48) = ((acc * 16 + (c.toNat - 48) : Nat) : Int) ∧ acc * 16 + (c.toNat - 48) < 16 ^ (k + 1) ∧ strconv_ParseInt.hex (acc * 16 + (c.toNat - 48)) (bs.drop (k + 1)) = some m) := Lib.hid ⟨by omega, by omega, hdec⟩
        have a2 : a < 1048576 := by omega
        clear hd hdec hacc hpow hpow1 hacc5 ha HM
        go_wp2
        refine ⟨⟨k + 1, acc * 16 + (c.toNat - 48), a * 16 + ((c.toNat : Int) - 48), rfl, (by first | rfl | (congr 1; omega)), (by first | rfl | (congr 1; omega)), by omega, by omega, by omega, HN⟩, by simp [intOf]; omega⟩
      · rw [if_neg hdig] at hd
        by_cases hlet : 97 ≤ c.toNat ∧ c.toNat ≤ 102
        · rw [if_pos hlet] at hd
          obtain rfl := Option.some.inj hd
          obtain ⟨hd0, hd1⟩ := hlet
          have HN : Hid (a * 16 + ((c.toNat : Int) - 87) = ((acc * 16 + (c.toNat - 87) : Nat) : Int) ∧ acc * 16 + (c.toNat - 87) < 16 ^ (k + 1) ∧ strconv_ParseInt.hex (acc * 16 + (c.toNat - 87)) (bs.drop (k + 1)) = some m) := Lib.hid ⟨by omega, by omega, hdec⟩
          have a2 : a < 1048576 := by omega
          have hlo := strconv_ParseInt.low (c.toNat : Int) (by omega) (by omega)
          have hlw := fun W => strconv_ParseInt.lower (c.toNat : Int) W
          rw [hlo] at hlw
          clear hd hdec hacc hpow hpow1 hacc5 ha HM hdig hlo
          go_wp2_with (go_at_call 113; refine (hlw _).mono ?_; rintro e w' ⟨rfl, rfl⟩)
          refine ⟨⟨k + 1, acc * 16 + (c.toNat - 87), a * 16 + ((c.toNat : Int) - 87), rfl, (by first | rfl | (congr 1; omega)), (by first | rfl | (congr 1; omega)), by omega, by omega, by omega, HN⟩, by simp [intOf]; omega⟩
        · rw [if_neg hlet] at hd
          cases hd
    · have hkk : k = t.size := by omega
      subst hkk
      obtain ⟨ha, hacc, hdec⟩ := hh.out
      rw [List.drop_eq_nil_of_le (by omega)] at hdec
      unfold strconv_ParseInt.hex at hdec
      obtain rfl := Option.some.inj hdec
      subst ha
      clear hacc hh HM hB
      go_wp2
      go_ret2
      exact ⟨rfl, rfl, by omega⟩
theorem strconv_ParseInt.lt : ∀ (l : List UInt8) (acc m : Nat), strconv_ParseInt.hex acc l = some m → m < (acc + 1) * 16 ^ l.length
  | [], acc, m, h => by
    unfold strconv_ParseInt.hex at h
    obtain rfl := Option.some.inj h
    simp
  | b :: r, acc, m, h => by
    unfold strconv_ParseInt.hex at h
    obtain ⟨d, hd, h⟩ := Option.bind_eq_some_iff.1 h
    have hd16 : d < 16 := by
      unfold strconv_ParseInt.dig at hd
      split at hd
      · obtain rfl := Option.some.inj hd; omega
      · split at hd
        · obtain rfl := Option.some.inj hd; omega
        · cases hd
    have ih := strconv_ParseInt.lt r _ m h
    rw [List.length_cons, Nat.pow_succ]
    have : (acc * 16 + d + 1) * 16 ^ r.length ≤ ((acc + 1) * 16) * 16 ^ r.length := Nat.mul_le_mul_right _ (by omega)
    have e : (acc + 1) * (16 ^ r.length * 16) = ((acc + 1) * 16) * 16 ^ r.length := by rw [Nat.mul_comm (16 ^ r.length) 16, Nat.mul_assoc]
    rw [e]; omega
theorem strconv_ParseInt.first (t : ByteArray) (m : Nat) (h1 : 0 < t.size) (hm : strconv_ParseInt.hex 0 t.data.toList = some m) : 48 ≤ (t[0]'h1).toNat := by
  have hl : 0 < t.data.toList.length := by rw [← Lib.size_eq]; exact h1
  have he : t.data.toList = t.data.toList[0]'hl :: t.data.toList.drop 1 := by
    have := List.drop_eq_getElem_cons hl
    simpa using this
  rw [he] at hm
  unfold strconv_ParseInt.hex at hm
  obtain ⟨d, hd, _⟩ := Option.bind_eq_some_iff.1 hm
  have e : t[0]'h1 = t.data.toList[0]'hl := rfl
  rw [e]
  unfold strconv_ParseInt.dig at hd
  split at hd
  · omega
  · split at hd
    · omega
    · cases hd
set_option maxHeartbeats 32000000 in
set_option maxRecDepth 100000 in
theorem strconv_ParseInt.int (t : ByteArray) (m : Nat) (h1 : 1 ≤ t.size) (h6 : t.size ≤ 6) (hm : strconv_ParseInt.hex 0 t.data.toList = some m) (w : World) :
    Calls Tryz.prog 89 #[.string t, .int .i64 16, .int .i64 32] w fun e w' => e = .returned (.tuple #[.int .i64 m, .nilIface]) ∧ w' = Lib.bytesWorld w 5 t := by
  have hcon := strconv_ParseInt.uint t m h1 h6 hm w
  have hf := strconv_ParseInt.first t m (by omega) hm
  have hm2 : m < 16777216 := by
    have h7 := strconv_ParseInt.lt t.data.toList 0 m hm
    rw [← Lib.size_eq] at h7
    have h8 : 16 ^ t.size ≤ 16 ^ 6 := Nat.pow_le_pow_right (by omega) h6
    omega
  have hemp : t.toList.isEmpty = false := by
    rw [← decide_eq_emptyBytes]
    exact decide_eq_false (fun h => by rw [h] at h1; exact absurd h1 (by decide))
  have hx : ∀ h : 0 < t.size, (((t[0]'h).toNat : Int)) = ((t[0]'h1).toNat : Int) := fun h => rfl
  have q1 : (0 < t.size) = True := eq_true h1
  have q2 : (0 < (t.size : Int)) = True := eq_true (by omega)
  have e1 : (((t[0]'h1).toNat : Int) == 43) = false := by rw [beq_eq_false_iff_ne]; omega
  have e2 : (((t[0]'h1).toNat : Int) == 45) = false := by rw [beq_eq_false_iff_ne]; omega
  generalize ((t[0]'h1).toNat : Int) = b at hx e1 e2
  clear hf hm h6
  obtain ⟨M, hM⟩ : ∃ M : Int, M = (m : Int) := ⟨_, rfl⟩
  rw [← hM] at hcon ⊢
  have hMd : decide (2147483648 ≤ M) = false := decide_eq_false (by omega)
  have hM0 : 0 ≤ M := by omega
  have hM1 : M < 16777216 := by omega
  clear hM hm2
  go_enter Tryz.func89, Tryz.ntmps89
  go_wp2_with (go_at_call 101; refine hcon.mono ?_; rintro e w' ⟨rfl, rfl, _⟩)
  go_ret2
  exact ⟨rfl, rfl⟩
set_option maxHeartbeats 32000000 in
set_option maxRecDepth 100000 in
theorem strconv_ParseInt.pub (t : ByteArray) (m : Nat) (h1 : 1 ≤ t.size) (h6 : t.size ≤ 6) (hm : strconv_ParseInt.hex 0 t.data.toList = some m) (w : World) :
    Calls Tryz.prog 72 #[.string t, .int .i64 16, .int .i64 32] w fun e w' => e = .returned (.tuple #[.int .i64 m, .nilIface]) ∧ w' = Lib.bytesWorld w 5 t := by
  have hcon := strconv_ParseInt.int t m h1 h6 hm w
  obtain ⟨M, hM⟩ : ∃ M : Int, M = (m : Int) := ⟨_, rfl⟩
  rw [← hM] at hcon ⊢
  clear hM hm
  go_enter Tryz.func72, Tryz.ntmps72
  go_wp2_with (go_at_call 89; refine hcon.mono ?_; rintro e w' ⟨rfl, rfl⟩)
  go_ret2
  exact ⟨rfl, rfl⟩
theorem strconv_ParseInt.calls (a0 : ByteArray) (a1 a2 : Int) (r1 : Int) (r2 : Option Int) (w : World) (h : strconv_ParseInt.f a0 a1 a2 = some (r1, r2)) :
    Calls Tryz.prog 72 #[.string a0, .int .i64 a1, .int .i64 a2] w fun e w' => e = .returned (.tuple #[.int .i64 r1, errW r2]) ∧ Below w.heap.size w w' := by
  unfold strconv_ParseInt.f at h
  split at h
  · rename_i hc
    obtain ⟨rfl, rfl, h1, h6⟩ := hc
    obtain ⟨m, hm, he⟩ := Option.map_eq_some_iff.1 h
    have e1 := congrArg Prod.fst he
    have e2 := congrArg Prod.snd he
    dsimp only at e1 e2
    subst e1 e2
    refine (strconv_ParseInt.pub a0 m h1 h6 hm w).mono ?_
    rintro e w' ⟨rfl, rfl⟩
    exact ⟨rfl, Lib.bytesWorld_below _ _ _⟩
  · cases h

/-! ### class_reader_escape: function 59 -/
mutual
def class_reader_escape.j0 : Nat → ByteArray → Bool → ByteArray → Int → Int → Option (Int × ByteArray × Int × Int)
  | 0, _, _, _, _, _ => none
  | k + 1, x3, x28, x1000, x1001, x1002 => if x28 = true then (if 1 < (x3.size : Int) then (some (wrap32 (bt x3 1), x1000, wrap64 (x1001 + 2), x1002)) else (none)) else ((strings_Cut.f x3 (⟨#[125]⟩ : ByteArray)).bind fun bt141 => ((strings_CutPrefix.f bt141.1 (⟨#[92, 117, 123]⟩ : ByteArray)).bind fun bt144 => (if bt144.2 = true then (if bt141.2.2 = true then (if (bt144.1.size : Int) ≥ 1 then (if (bt144.1.size : Int) ≤ 6 then ((strings_Trim.f bt144.1 (⟨#[48, 49, 50, 51, 52, 53, 54, 55, 56, 57, 97, 98, 99, 100, 101, 102]⟩ : ByteArray)).bind fun t146 => (class_reader_escape.j1 k bt144.1 (t146.toList == ([] : List UInt8)) x1000 x1001 x1002)) else (class_reader_escape.j1 k bt144.1 false x1000 x1001 x1002)) else (class_reader_escape.j1 k bt144.1 false x1000 x1001 x1002)) else (class_reader_escape.j1 k bt144.1 false x1000 x1001 x1002)) else (class_reader_escape.j1 k bt144.1 false x1000 x1001 x1002))))
def class_reader_escape.j1 : Nat → ByteArray → Bool → ByteArray → Int → Int → Option (Int × ByteArray × Int × Int)
  | 0, _, _, _, _, _ => none
  | k + 1, x7, x68, x1000, x1001, x1002 => if x68 = true then ((strconv_ParseInt.f x7 16 32).bind fun bt147 => (if (wrap32 (bt147.1)) ≤ 1114111 then (some (wrap32 (bt147.1), x1000, wrap64 (x1001 + (wrap64 ((x7.size : Int) + 4))), x1002)) else ((class_reader_fail.f x1000 x1001 x1002).bind fun bt149 => (some (0, bt149.1, bt149.2.1, bt149.2.2))))) else ((class_reader_fail.f x1000 x1001 x1002).bind fun bt152 => (some (0, bt152.1, bt152.2.1, bt152.2.2)))
end
def class_reader_escape.f (k : Nat) (s0_0 : ByteArray) (s0_1 : Int) (s0_2 : Int) : Option (Int × ByteArray × Int × Int) := if 0 ≤ s0_1 then (if s0_1 ≤ (s0_0.size : Int) then (if ((s0_0.extract (s0_1 : Int).toNat s0_0.size).size : Int) > 1 then (if 1 < ((s0_0.extract (s0_1 : Int).toNat s0_0.size).size : Int) then ((strings_IndexByte.f (⟨#[91, 93, 45, 94, 92, 32]⟩ : ByteArray) (bt (s0_0.extract (s0_1 : Int).toNat s0_0.size) 1)).bind fun t140 => (class_reader_escape.j0 k (s0_0.extract (s0_1 : Int).toNat s0_0.size) (decide (t140 ≥ 0)) s0_0 s0_1 s0_2)) else (none)) else (class_reader_escape.j0 k (s0_0.extract (s0_1 : Int).toNat s0_0.size) false s0_0 s0_1 s0_2)) else (none)) else (none)
theorem class_reader_escape.mono_l : ∀ k, (∀ y0 y1 y2 y3 y4, LeO (class_reader_escape.j0 k y0 y1 y2 y3 y4) (class_reader_escape.j0 (k + 1) y0 y1 y2 y3 y4)) ∧ (∀ y0 y1 y2 y3 y4, LeO (class_reader_escape.j1 k y0 y1 y2 y3 y4) (class_reader_escape.j1 (k + 1) y0 y1 y2 y3 y4))
  | 0 => ⟨fun _ _ _ _ _ r h => by simp [class_reader_escape.j0] at h, fun _ _ _ _ _ r h => by simp [class_reader_escape.j1] at h⟩
  | k + 1 => by
    obtain ⟨ih0, ih1⟩ := class_reader_escape.mono_l k
    refine ⟨?_, ?_⟩
    · intro y0 y1 y2 y3 y4
      unfold class_reader_escape.j0
      repeat' first
      | (with_reducible exact ih0 _ _ _ _ _)
      | (with_reducible exact ih1 _ _ _ _ _)
      | (with_reducible exact LeO.refl _)
      | (with_reducible exact LeO.none _)
      | (with_reducible refine LeO.ite ?_ ?_)
      | (with_reducible refine LeO.bind ?_ (fun _ => ?_))
      | exact ih0 _ _ _ _ _
      | exact ih1 _ _ _ _ _
      | exact LeO.none _
      | refine LeO.ite ?_ ?_
      | refine LeO.bind ?_ (fun _ => ?_)
    · intro y0 y1 y2 y3 y4
      unfold class_reader_escape.j1
      repeat' first
      | (with_reducible exact ih0 _ _ _ _ _)
      | (with_reducible exact ih1 _ _ _ _ _)
      | (with_reducible exact LeO.refl _)
      | (with_reducible exact LeO.none _)
      | (with_reducible refine LeO.ite ?_ ?_)
      | (with_reducible refine LeO.bind ?_ (fun _ => ?_))
      | exact ih0 _ _ _ _ _
      | exact ih1 _ _ _ _ _
      | exact LeO.none _
      | refine LeO.ite ?_ ?_
      | refine LeO.bind ?_ (fun _ => ?_)
theorem class_reader_escape.mono : ∀ a0 a1 a2 k, LeO (class_reader_escape.f k a0 a1 a2) (class_reader_escape.f (k + 1) a0 a1 a2) := by
  intro a0 a1 a2 k
  obtain ⟨ih0, ih1⟩ := class_reader_escape.mono_l k
  unfold class_reader_escape.f
  repeat' first
      | (with_reducible exact ih0 _ _ _ _ _)
      | (with_reducible exact ih1 _ _ _ _ _)
      | (with_reducible exact LeO.refl _)
      | (with_reducible exact LeO.none _)
      | (with_reducible refine LeO.ite ?_ ?_)
      | (with_reducible refine LeO.bind ?_ (fun _ => ?_))
      | exact ih0 _ _ _ _ _
      | exact ih1 _ _ _ _ _
      | exact LeO.none _
      | refine LeO.ite ?_ ?_
      | refine LeO.bind ?_ (fun _ => ?_)
set_option maxHeartbeats 64000000 in
set_option maxRecDepth 100000 in
theorem class_reader_escape.calls (k : Nat) (g : Nat) (s0_0 : ByteArray) (s0_1 : Int) (s0_2 : Int) (r1 : Int) (r2 : ByteArray) (r3 : Int) (r4 : Int) (w0 w : World) (hI : IsS66 w0 w g s0_0 s0_1 s0_2) (hB : Below w0.heap.size w0 w) (h : class_reader_escape.f k s0_0 s0_1 s0_2 = some (r1, r2, r3, r4)) :
    Calls Tryz.prog 59 #[.pointer (some ⟨g, 0, none⟩)] w fun e w' => e = .returned (.int .i32 r1) ∧ IsS66 w0 w' g r2 r3 r4 ∧ Below w0.heap.size w0 w' ∧ KeepBut w w' g none := by
  have HI0 := Aside0.mk hI
  have HK := Aside0.mk (KeepBut.refl w g none)
  have HL := Aside0.mk hB.size
  clear hI
  have HW0 := Aside0.mk hB.size
  have HB := Aside0.mk hB
  clear hB
  have H : (if 0 ≤ s0_1 then (if s0_1 ≤ (s0_0.size : Int) then (if ((s0_0.extract (s0_1 : Int).toNat s0_0.size).size : Int) > 1 then (if 1 < ((s0_0.extract (s0_1 : Int).toNat s0_0.size).size : Int) then ((strings_IndexByte.f (⟨#[91, 93, 45, 94, 92, 32]⟩ : ByteArray) (bt (s0_0.extract (s0_1 : Int).toNat s0_0.size) 1)).bind fun t140 => (class_reader_escape.j0 k (s0_0.extract (s0_1 : Int).toNat s0_0.size) (decide (t140 ≥ 0)) s0_0 s0_1 s0_2)) else (none)) else (class_reader_escape.j0 k (s0_0.extract (s0_1 : Int).toNat s0_0.size) false s0_0 s0_1 s0_2)) else (none)) else (none)) = some (r1, r2, r3, r4) := h
  clear h
  by_cases c2 : 0 ≤ s0_1
  · rw [if_pos c2] at H
    have c2b0 := eq_true c2
    have c2b1 : decide (0 ≤ s0_1) = true := decide_eq_true c2
    clear c2
    by_cases c3 : s0_1 ≤ (s0_0.size : Int)
    · rw [if_pos c3] at H
      have c3b0 := eq_true c3
      have c3b1 : decide (s0_1 ≤ (s0_0.size : Int)) = true := decide_eq_true c3
      clear c3
      have HC4 := Aside0.mk H
      clear H
      obtain ⟨HGz5, hgz5⟩ := HI0.out
      have hcz5_0 := cellS66_0 HGz5
      have hcz5_1 := cellS66_1 HGz5
      have hcz5_2 := cellS66_2 HGz5
      have hfz5_0 := blk_frozen HGz5 0
      have hfz5_1 := blk_frozen HGz5 1
      have hfz5_2 := blk_frozen HGz5 2
      clear HGz5 hgz5
      go_enter Tryz.func59, Tryz.ntmps59
      go_upto_region 2 with (fail)
      repeat (go_quiet (fail); go_upto_region 2 with (fail))
      go_cut [28] (fun v28 wc => ∃ (kq : Nat) (x28_3 : Bool), v28 = .bool x28_3 ∧ Aside0 (class_reader_escape.j0 kq (s0_0.extract (s0_1 : Int).toNat s0_0.size) x28_3 s0_0 s0_1 s0_2 = some (r1, r2, r3, r4)) ∧ Aside0 (kq ≤ k) ∧ Aside0 (IsS66 w0 wc g s0_0 s0_1 s0_2) ∧ Aside0 (KeepBut w wc g none) ∧ Aside0 (Below w0.heap.size w0 wc))
      case first =>
        have H := HC4.out
        clear HC4
        by_cases c6 : ((s0_0.extract (s0_1 : Int).toNat s0_0.size).size : Int) > 1
        · rw [if_pos c6] at H
          have c6b0 : decide (1 < ((s0_0.extract (s0_1 : Int).toNat s0_0.size).size : Int)) = true := decide_eq_true c6
          have c6b1 : decide (1 < (s0_0.extract (s0_1 : Int).toNat s0_0.size).size) = true := decide_eq_true (by omega)
          clear c6
          (try (have c6x0 := c6b0; simp only [ByteArray.size_extract, Nat.min_self, Nat.sub_zero] at c6x0))
          (try (have c6x1 := c6b1; simp only [ByteArray.size_extract, Nat.min_self, Nat.sub_zero] at c6x1))
          (first | rw [c6b0] | (simp only [i64_w, i32_w]; rw [c6b0]) | skip)
          by_cases c7 : 1 < ((s0_0.extract (s0_1 : Int).toNat s0_0.size).size : Int)
          · rw [if_pos c7] at H
            have c7b0 : decide (1 < ((s0_0.extract (s0_1 : Int).toNat s0_0.size).size : Int)) = true := decide_eq_true c7
            have c7b1 : decide (1 < (s0_0.extract (s0_1 : Int).toNat s0_0.size).size) = true := decide_eq_true (by omega)
            clear c7
            (try (have c7x0 := c7b0; simp only [ByteArray.size_extract, Nat.min_self, Nat.sub_zero] at c7x0))
            (try (have c7x1 := c7b1; simp only [ByteArray.size_extract, Nat.min_self, Nat.sub_zero] at c7x1))
            replace H := Option.bind_eq_some_iff.mp H
            obtain ⟨t140, A90, H⟩ := H
            replace H : (class_reader_escape.j0 k (s0_0.extract (s0_1 : Int).toNat s0_0.size) (decide (t140 ≥ 0)) s0_0 s0_1 s0_2) = some (r1, r2, r3, r4) := H
            have A9 := Aside0.mk A90
            clear A90
            have H' := Aside0.mk H
            clear H
            have p8 : 0 ≤ (1 : Int) := (by omega)
            have q8 : 1 < (s0_0.extract (s0_1 : Int).toNat s0_0.size).size := (by have : (1 : Int) < ((s0_0.extract (s0_1 : Int).toNat s0_0.size).size : Int) := of_decide_eq_true (by first | (with_reducible assumption) | assumption); omega)
            have hx8 : ∀ h : 1 < (s0_0.extract (s0_1 : Int).toNat s0_0.size).size, (((s0_0.extract (s0_1 : Int).toNat s0_0.size)[1]'h).toNat : Int) = bt (s0_0.extract (s0_1 : Int).toNat s0_0.size) 1 := bt_at (s0_0.extract (s0_1 : Int).toNat s0_0.size) 1
            clear p8
            have qi8 : (1 < ((s0_0.extract (s0_1 : Int).toNat s0_0.size).size : Int)) = True := eq_true (of_decide_eq_true (by first | (with_reducible assumption) | assumption))
            replace q8 := eq_true q8
            (try (have qv8 := q8; simp only [ByteArray.size_extract, Nat.min_self, Nat.sub_zero] at qv8))
            (try (have qw8 := qi8; simp only [ByteArray.size_extract, Nat.min_self, Nat.sub_zero] at qw8))
            (try (have hy8 := hx8 (of_eq_true q8)))
            go_wp2_with (first | (go_at_call 68; (with_reducible refine (strings_IndexByte.calls (⟨#[91, 93, 45, 94, 92, 32]⟩ : ByteArray) (bt (s0_0.extract (s0_1 : Int).toNat s0_0.size) 1) t140 _ A9.out).mono ?_); rintro e w' ⟨rfl, ⟨nd, rfl⟩⟩; (try first | exact ⟨rfl, _, World.drewN_drewN _ _ _⟩ | exact ⟨rfl, _, Eq.trans (World.drewN_drewN _ _ _) (congrArg (World.drewN _) (Nat.add_assoc _ _ _))⟩)))
            repeat (go_quiet (first | (go_at_call 68; (with_reducible refine (strings_IndexByte.calls (⟨#[91, 93, 45, 94, 92, 32]⟩ : ByteArray) (bt (s0_0.extract (s0_1 : Int).toNat s0_0.size) 1) t140 _ A9.out).mono ?_); rintro e w' ⟨rfl, ⟨nd, rfl⟩⟩; (try first | exact ⟨rfl, _, World.drewN_drewN _ _ _⟩ | exact ⟨rfl, _, Eq.trans (World.drewN_drewN _ _ _) (congrArg (World.drewN _) (Nat.add_assoc _ _ _))⟩))); try go_wp2_with (first | (go_at_call 68; (with_reducible refine (strings_IndexByte.calls (⟨#[91, 93, 45, 94, 92, 32]⟩ : ByteArray) (bt (s0_0.extract (s0_1 : Int).toNat s0_0.size) 1) t140 _ A9.out).mono ?_); rintro e w' ⟨rfl, ⟨nd, rfl⟩⟩; (try first | exact ⟨rfl, _, World.drewN_drewN _ _ _⟩ | exact ⟨rfl, _, Eq.trans (World.drewN_drewN _ _ _) (congrArg (World.drewN _) (Nat.add_assoc _ _ _))⟩))))
            go_meet
            case rel => exact ⟨_, (decide (t140 ≥ 0)), eq_, H', ⟨by first | omega | exact Nat.le_refl _⟩, ⟨by repeat (first | (with_reducible first | exact HI0.out | apply IsS66.alloc | apply IsS66.drewN | apply IsS66.drew | apply IsS66.set_0 | apply IsS66.set_1 | apply IsS66.set_2) | exact HI0.out)⟩, ⟨by repeat (first | (with_reducible first | exact HK.out | apply KeepBut.set_ | apply keep_drewN | apply keep_drew | apply keep_alloc) | exact HK.out)⟩, ⟨by repeat (first | (with_reducible first | exact HB.out | apply below_alloc | apply pw_below_drewN | apply below_drew1 | refine below_set ?_ (IsS66.ge HI0.out)) | exact HB.out)⟩⟩
          · rw [if_neg c7] at H
            exact absurd H (by simp)
        · rw [if_neg c6] at H
          have c6b0 : decide (1 < ((s0_0.extract (s0_1 : Int).toNat s0_0.size).size : Int)) = false := decide_eq_false c6
          have c6b1 : decide (1 < (s0_0.extract (s0_1 : Int).toNat s0_0.size).size) = false := decide_eq_false (by omega)
          clear c6
          (try (have c6x0 := c6b0; simp only [ByteArray.size_extract, Nat.min_self, Nat.sub_zero] at c6x0))
          (try (have c6x1 := c6b1; simp only [ByteArray.size_extract, Nat.min_self, Nat.sub_zero] at c6x1))
          (first | rw [c6b0] | (simp only [i64_w, i32_w]; rw [c6b0]) | skip)
          have H' := Aside0.mk H
          clear H
          go_wp2
          repeat (go_quiet (fail); try go_wp2)
          go_meet
          case rel => exact ⟨_, (false), eq_, H', ⟨by first | omega | exact Nat.le_refl _⟩, ⟨by repeat (first | (with_reducible first | exact HI0.out | apply IsS66.alloc | apply IsS66.drewN | apply IsS66.drew | apply IsS66.set_0 | apply IsS66.set_1 | apply IsS66.set_2) | exact HI0.out)⟩, ⟨by repeat (first | (with_reducible first | exact HK.out | apply KeepBut.set_ | apply keep_drewN | apply keep_drew | apply keep_alloc) | exact HK.out)⟩, ⟨by repeat (first | (with_reducible first | exact HB.out | apply below_alloc | apply pw_below_drewN | apply below_drew1 | refine below_set ?_ (IsS66.ge HI0.out)) | exact HB.out)⟩⟩
      case rest =>
        clear HC4
        try clear c2
        try clear c2b0
        try clear c2b1
        try clear p2
        try clear c3
        try clear c3b0
        try clear c3b1
        try clear c5
        try clear c6
        try clear c6b0
        try clear c6b1
        try clear p6
        try clear c7
        try clear c7b0
        try clear c7b1
        try clear p8
        try clear q8
        try clear hx8
        try clear qi8
        try clear hcz5_0
        try clear hcz5_1
        try clear hcz5_2
        try clear hfz5_0
        try clear hfz5_1
        try clear hfz5_2
        try clear p8
        try clear q8
        obtain ⟨kq, x28_3, rfl, HA, HJ3, HI0, HK, HB⟩ := hcut
        cases kq with
        | zero => exact absurd HA.out (by simp [class_reader_escape.j0])
        | succ kj3 =>
          have H := HA.out
          clear HA
          simp only [class_reader_escape.j0] at H
          by_cases c10 : x28_3 = true
          · subst c10
            have H1 : (if 1 < ((s0_0.extract (s0_1 : Int).toNat s0_0.size).size : Int) then (some (wrap32 (bt (s0_0.extract (s0_1 : Int).toNat s0_0.size) 1), s0_0, wrap64 (s0_1 + 2), s0_2)) else (none)) = some (r1, r2, r3, r4) := by rw [if_pos rfl] at H; exact H
            clear H
            have H := H1
            clear H1
            by_cases c11 : 1 < ((s0_0.extract (s0_1 : Int).toNat s0_0.size).size : Int)
            · rw [if_pos c11] at H
              have c11b0 : decide (1 < ((s0_0.extract (s0_1 : Int).toNat s0_0.size).size : Int)) = true := decide_eq_true c11
              have c11b1 : decide (1 < (s0_0.extract (s0_1 : Int).toNat s0_0.size).size) = true := decide_eq_true (by omega)
              clear c11
              (try (have c11x0 := c11b0; simp only [ByteArray.size_extract, Nat.min_self, Nat.sub_zero] at c11x0))
              (try (have c11x1 := c11b1; simp only [ByteArray.size_extract, Nat.min_self, Nat.sub_zero] at c11x1))
              simp only [Option.some.injEq, Prod.mk.injEq] at H
              obtain ⟨rfl, rfl, rfl, rfl⟩ := H
              obtain ⟨HGz13, hgz13⟩ := HI0.out
              have hcz13_0 := cellS66_0 HGz13
              have hcz13_1 := cellS66_1 HGz13
              have hcz13_2 := cellS66_2 HGz13
              have hfz13_0 := blk_frozen HGz13 0
              have hfz13_1 := blk_frozen HGz13 1
              have hfz13_2 := blk_frozen HGz13 2
              clear HGz13 hgz13
              have p12 : 0 ≤ (1 : Int) := (by omega)
              have q12 : 1 < (s0_0.extract (s0_1 : Int).toNat s0_0.size).size := (by have : (1 : Int) < ((s0_0.extract (s0_1 : Int).toNat s0_0.size).size : Int) := of_decide_eq_true (by first | (with_reducible assumption) | assumption); omega)
              have hx12 : ∀ h : 1 < (s0_0.extract (s0_1 : Int).toNat s0_0.size).size, (((s0_0.extract (s0_1 : Int).toNat s0_0.size)[1]'h).toNat : Int) = bt (s0_0.extract (s0_1 : Int).toNat s0_0.size) 1 := bt_at (s0_0.extract (s0_1 : Int).toNat s0_0.size) 1
              clear p12
              have qi12 : (1 < ((s0_0.extract (s0_1 : Int).toNat s0_0.size).size : Int)) = True := eq_true (of_decide_eq_true (by first | (with_reducible assumption) | assumption))
              replace q12 := eq_true q12
              (try (have qv12 := q12; simp only [ByteArray.size_extract, Nat.min_self, Nat.sub_zero] at qv12))
              (try (have qw12 := qi12; simp only [ByteArray.size_extract, Nat.min_self, Nat.sub_zero] at qw12))
              (try (have hy12 := hx12 (of_eq_true q12)))
              go_wp2
              repeat (go_quiet (fail); try go_wp2)
              go_ret
              exact ⟨ew_, by repeat (first | (with_reducible first | exact HI0.out | apply IsS66.alloc | apply IsS66.drewN | apply IsS66.drew | apply IsS66.set_0 | apply IsS66.set_1 | apply IsS66.set_2) | exact HI0.out), by repeat (first | (with_reducible first | exact HB.out | apply below_alloc | apply pw_below_drewN | apply below_drew1 | refine below_set ?_ (IsS66.ge HI0.out)) | exact HB.out), by repeat (first | (with_reducible first | exact HK.out | apply KeepBut.set_ | apply keep_drewN | apply keep_drew | apply keep_alloc) | exact HK.out)⟩
            · rw [if_neg c11] at H
              exact absurd H (by simp)
          · replace c10 := Bool.eq_false_iff.mpr c10
            subst c10
            have H1 : ((strings_Cut.f (s0_0.extract (s0_1 : Int).toNat s0_0.size) (⟨#[125]⟩ : ByteArray)).bind fun bt141 => ((strings_CutPrefix.f bt141.1 (⟨#[92, 117, 123]⟩ : ByteArray)).bind fun bt144 => (if bt144.2 = true then (if bt141.2.2 = true then (if (bt144.1.size : Int) ≥ 1 then (if (bt144.1.size : Int) ≤ 6 then ((strings_Trim.f bt144.1 (⟨#[48, 49, 50, 51, 52, 53, 54, 55, 56, 57, 97, 98, 99, 100, 101, 102]⟩ : ByteArray)).bind fun t146 => (class_reader_escape.j1 kj3 bt144.1 (t146.toList == ([] : List UInt8)) s0_0 s0_1 s0_2)) else (class_reader_escape.j1 kj3 bt144.1 false s0_0 s0_1 s0_2)) else (class_reader_escape.j1 kj3 bt144.1 false s0_0 s0_1 s0_2)) else (class_reader_escape.j1 kj3 bt144.1 false s0_0 s0_1 s0_2)) else (class_reader_escape.j1 kj3 bt144.1 false s0_0 s0_1 s0_2)))) = some (r1, r2, r3, r4) := by rw [if_neg (show ¬ (false = true) by decide)] at H; exact H
            clear H
            have H := H1
            clear H1
            replace H := Option.bind_eq_some_iff.mp H
            obtain ⟨⟨t141, t142, t143⟩, A140, H⟩ := H
            replace H : ((strings_CutPrefix.f t141 (⟨#[92, 117, 123]⟩ : ByteArray)).bind fun bt144 => (if bt144.2 = true then (if t143 = true then (if (bt144.1.size : Int) ≥ 1 then (if (bt144.1.size : Int) ≤ 6 then ((strings_Trim.f bt144.1 (⟨#[48, 49, 50, 51, 52, 53, 54, 55, 56, 57, 97, 98, 99, 100, 101, 102]⟩ : ByteArray)).bind fun t146 => (class_reader_escape.j1 kj3 bt144.1 (t146.toList == ([] : List UInt8)) s0_0 s0_1 s0_2)) else (class_reader_escape.j1 kj3 bt144.1 false s0_0 s0_1 s0_2)) else (class_reader_escape.j1 kj3 bt144.1 false s0_0 s0_1 s0_2)) else (class_reader_escape.j1 kj3 bt144.1 false s0_0 s0_1 s0_2)) else (class_reader_escape.j1 kj3 bt144.1 false s0_0 s0_1 s0_2))) = some (r1, r2, r3, r4) := H
            have A14 := Aside0.mk A140
            clear A140
            replace H := Option.bind_eq_some_iff.mp H
            obtain ⟨⟨t144, t145⟩, A150, H⟩ := H
            replace H : (if t145 = true then (if t143 = true then (if (t144.size : Int) ≥ 1 then (if (t144.size : Int) ≤ 6 then ((strings_Trim.f t144 (⟨#[48, 49, 50, 51, 52, 53, 54, 55, 56, 57, 97, 98, 99, 100, 101, 102]⟩ : ByteArray)).bind fun t146 => (class_reader_escape.j1 kj3 t144 (t146.toList == ([] : List UInt8)) s0_0 s0_1 s0_2)) else (class_reader_escape.j1 kj3 t144 false s0_0 s0_1 s0_2)) else (class_reader_escape.j1 kj3 t144 false s0_0 s0_1 s0_2)) else (class_reader_escape.j1 kj3 t144 false s0_0 s0_1 s0_2)) else (class_reader_escape.j1 kj3 t144 false s0_0 s0_1 s0_2)) = some (r1, r2, r3, r4) := H
            have A15 := Aside0.mk A150
            clear A150
            have HC16 := Aside0.mk H
            clear H
            go_upto_region 7 with (first | (go_at_call 69; (with_reducible refine (strings_Cut.calls (s0_0.extract (s0_1 : Int).toNat s0_0.size) (⟨#[125]⟩ : ByteArray) t141 t142 t143 _ A14.out).mono ?_); rintro e w' ⟨rfl, ⟨nd, rfl⟩⟩; (try first | exact ⟨rfl, _, World.drewN_drewN _ _ _⟩ | exact ⟨rfl, _, Eq.trans (World.drewN_drewN _ _ _) (congrArg (World.drewN _) (Nat.add_assoc _ _ _))⟩)) | (go_at_call 70; (with_reducible refine (strings_CutPrefix.calls t141 (⟨#[92, 117, 123]⟩ : ByteArray) t144 t145 _ A15.out).mono ?_); rintro e w' ⟨rfl, ⟨nd, rfl⟩⟩; (try first | exact ⟨rfl, _, World.drewN_drewN _ _ _⟩ | exact ⟨rfl, _, Eq.trans (World.drewN_drewN _ _ _) (congrArg (World.drewN _) (Nat.add_assoc _ _ _))⟩)))
            repeat (go_quiet (first | (go_at_call 69; (with_reducible refine (strings_Cut.calls (s0_0.extract (s0_1 : Int).toNat s0_0.size) (⟨#[125]⟩ : ByteArray) t141 t142 t143 _ A14.out).mono ?_); rintro e w' ⟨rfl, ⟨nd, rfl⟩⟩; (try first | exact ⟨rfl, _, World.drewN_drewN _ _ _⟩ | exact ⟨rfl, _, Eq.trans (World.drewN_drewN _ _ _) (congrArg (World.drewN _) (Nat.add_assoc _ _ _))⟩)) | (go_at_call 70; (with_reducible refine (strings_CutPrefix.calls t141 (⟨#[92, 117, 123]⟩ : ByteArray) t144 t145 _ A15.out).mono ?_); rintro e w' ⟨rfl, ⟨nd, rfl⟩⟩; (try first | exact ⟨rfl, _, World.drewN_drewN _ _ _⟩ | exact ⟨rfl, _, Eq.trans (World.drewN_drewN _ _ _) (congrArg (World.drewN _) (Nat.add_assoc _ _ _))⟩))); go_upto_region 7 with (first | (go_at_call 69; (with_reducible refine (strings_Cut.calls (s0_0.extract (s0_1 : Int).toNat s0_0.size) (⟨#[125]⟩ : ByteArray) t141 t142 t143 _ A14.out).mono ?_); rintro e w' ⟨rfl, ⟨nd, rfl⟩⟩; (try first | exact ⟨rfl, _, World.drewN_drewN _ _ _⟩ | exact ⟨rfl, _, Eq.trans (World.drewN_drewN _ _ _) (congrArg (World.drewN _) (Nat.add_assoc _ _ _))⟩)) | (go_at_call 70; (with_reducible refine (strings_CutPrefix.calls t141 (⟨#[92, 117, 123]⟩ : ByteArray) t144 t145 _ A15.out).mono ?_); rintro e w' ⟨rfl, ⟨nd, rfl⟩⟩; (try first | exact ⟨rfl, _, World.drewN_drewN _ _ _⟩ | exact ⟨rfl, _, Eq.trans (World.drewN_drewN _ _ _) (congrArg (World.drewN _) (Nat.add_assoc _ _ _))⟩))))
            (try simp only [Act.put, List.setIfInBounds_toArray, List.set_cons_zero, List.set_cons_succ])
            go_cut [68] (fun v68 wc => ∃ (kq : Nat) (x68_15 : Bool), v68 = .bool x68_15 ∧ Aside0 (class_reader_escape.j1 kq t144 x68_15 s0_0 s0_1 s0_2 = some (r1, r2, r3, r4)) ∧ Aside0 (kq ≤ kj3) ∧ Aside0 (IsS66 w0 wc g s0_0 s0_1 s0_2) ∧ Aside0 (KeepBut w wc g none) ∧ Aside0 (Below w0.heap.size w0 wc))
            case first =>
              have H := HC16.out
              clear HC16
              by_cases c17 : t145 = true
              · subst c17
                have H1 : (if t143 = true then (if (t144.size : Int) ≥ 1 then (if (t144.size : Int) ≤ 6 then ((strings_Trim.f t144 (⟨#[48, 49, 50, 51, 52, 53, 54, 55, 56, 57, 97, 98, 99, 100, 101, 102]⟩ : ByteArray)).bind fun t146 => (class_reader_escape.j1 kj3 t144 (t146.toList == ([] : List UInt8)) s0_0 s0_1 s0_2)) else (class_reader_escape.j1 kj3 t144 false s0_0 s0_1 s0_2)) else (class_reader_escape.j1 kj3 t144 false s0_0 s0_1 s0_2)) else (class_reader_escape.j1 kj3 t144 false s0_0 s0_1 s0_2)) = some (r1, r2, r3, r4) := by rw [if_pos rfl] at H; exact H
                clear H
                have H := H1
                clear H1
                by_cases c18 : t143 = true
                · subst c18
                  have H1 : (if (t144.size : Int) ≥ 1 then (if (t144.size : Int) ≤ 6 then ((strings_Trim.f t144 (⟨#[48, 49, 50, 51, 52, 53, 54, 55, 56, 57, 97, 98, 99, 100, 101, 102]⟩ : ByteArray)).bind fun t146 => (class_reader_escape.j1 kj3 t144 (t146.toList == ([] : List UInt8)) s0_0 s0_1 s0_2)) else (class_reader_escape.j1 kj3 t144 false s0_0 s0_1 s0_2)) else (class_reader_escape.j1 kj3 t144 false s0_0 s0_1 s0_2)) = some (r1, r2, r3, r4) := by rw [if_pos rfl] at H; exact H
                  clear H
                  have H := H1
                  clear H1
                  by_cases c19 : (t144.size : Int) ≥ 1
                  · rw [if_pos c19] at H
                    have c19b0 : decide (1 ≤ (t144.size : Int)) = true := decide_eq_true c19
                    have c19b1 : decide (1 ≤ t144.size) = true := decide_eq_true (by omega)
                    clear c19
                    (first | rw [c19b0] | (simp only [i64_w, i32_w]; rw [c19b0]) | skip)
                    by_cases c20 : (t144.size : Int) ≤ 6
                    · rw [if_pos c20] at H
                      have c20b0 : decide ((t144.size : Int) ≤ 6) = true := decide_eq_true c20
                      have c20b1 : decide (t144.size ≤ 6) = true := decide_eq_true (by omega)
                      clear c20
                      replace H := Option.bind_eq_some_iff.mp H
                      obtain ⟨t146, A210, H⟩ := H
                      replace H : (class_reader_escape.j1 kj3 t144 (t146.toList == ([] : List UInt8)) s0_0 s0_1 s0_2) = some (r1, r2, r3, r4) := H
                      have A21 := Aside0.mk A210
                      clear A210
                      have H' := Aside0.mk H
                      clear H
                      go_wp2_with (first | (go_at_call 71; (with_reducible refine (strings_Trim.calls t144 (⟨#[48, 49, 50, 51, 52, 53, 54, 55, 56, 57, 97, 98, 99, 100, 101, 102]⟩ : ByteArray) t146 _ A21.out).mono ?_); rintro e w22 ⟨rfl, hb⟩; have n0_ := Aside0.mk (IsS66.below (by repeat (first | (with_reducible first | exact HI0.out | apply IsS66.alloc | apply IsS66.drewN | apply IsS66.drew | apply IsS66.set_0 | apply IsS66.set_1 | apply IsS66.set_2) | exact HI0.out)) hb); have n1_ := Aside0.mk (KeepBut.trans (by repeat (first | (with_reducible first | exact HK.out | apply KeepBut.set_ | apply keep_drewN | apply keep_drew | apply keep_alloc) | exact HK.out)) (KeepBut.of_below hb g none) (.inl rfl)); have n2_ := Aside0.mk (below_step (by repeat (first | (with_reducible first | exact HB.out | apply below_alloc | apply pw_below_drewN | apply below_drew1 | refine below_set ?_ (IsS66.ge HI0.out)) | exact HB.out)) hb); clear HI0; clear HK; clear HB; have HI0 := n0_; have HK := n1_; have HB := n2_; clear n0_ n1_ n2_; (try clear hb); (try clear hi)))
                      repeat (go_quiet (first | (go_at_call 71; (with_reducible refine (strings_Trim.calls t144 (⟨#[48, 49, 50, 51, 52, 53, 54, 55, 56, 57, 97, 98, 99, 100, 101, 102]⟩ : ByteArray) t146 _ A21.out).mono ?_); rintro e w22 ⟨rfl, hb⟩; have n0_ := Aside0.mk (IsS66.below (by repeat (first | (with_reducible first | exact HI0.out | apply IsS66.alloc | apply IsS66.drewN | apply IsS66.drew | apply IsS66.set_0 | apply IsS66.set_1 | apply IsS66.set_2) | exact HI0.out)) hb); have n1_ := Aside0.mk (KeepBut.trans (by repeat (first | (with_reducible first | exact HK.out | apply KeepBut.set_ | apply keep_drewN | apply keep_drew | apply keep_alloc) | exact HK.out)) (KeepBut.of_below hb g none) (.inl rfl)); have n2_ := Aside0.mk (below_step (by repeat (first | (with_reducible first | exact HB.out | apply below_alloc | apply pw_below_drewN | apply below_drew1 | refine below_set ?_ (IsS66.ge HI0.out)) | exact HB.out)) hb); clear HI0; clear HK; clear HB; have HI0 := n0_; have HK := n1_; have HB := n2_; clear n0_ n1_ n2_; (try clear hb); (try clear hi))); try go_wp2_with (first | (go_at_call 71; (with_reducible refine (strings_Trim.calls t144 (⟨#[48, 49, 50, 51, 52, 53, 54, 55, 56, 57, 97, 98, 99, 100, 101, 102]⟩ : ByteArray) t146 _ A21.out).mono ?_); rintro e w22 ⟨rfl, hb⟩; have n0_ := Aside0.mk (IsS66.below (by repeat (first | (with_reducible first | exact HI0.out | apply IsS66.alloc | apply IsS66.drewN | apply IsS66.drew | apply IsS66.set_0 | apply IsS66.set_1 | apply IsS66.set_2) | exact HI0.out)) hb); have n1_ := Aside0.mk (KeepBut.trans (by repeat (first | (with_reducible first | exact HK.out | apply KeepBut.set_ | apply keep_drewN | apply keep_drew | apply keep_alloc) | exact HK.out)) (KeepBut.of_below hb g none) (.inl rfl)); have n2_ := Aside0.mk (below_step (by repeat (first | (with_reducible first | exact HB.out | apply below_alloc | apply pw_below_drewN | apply below_drew1 | refine below_set ?_ (IsS66.ge HI0.out)) | exact HB.out)) hb); clear HI0; clear HK; clear HB; have HI0 := n0_; have HK := n1_; have HB := n2_; clear n0_ n1_ n2_; (try clear hb); (try clear hi))))
                      go_meet
                      case rel => exact ⟨_, ((t146.toList == ([] : List UInt8))), eq_, H', ⟨by have := HJ3.out; first | omega | exact Nat.le_refl _⟩, ⟨by repeat (first | (with_reducible first | exact HI0.out | apply IsS66.alloc | apply IsS66.drewN | apply IsS66.drew | apply IsS66.set_0 | apply IsS66.set_1 | apply IsS66.set_2) | exact HI0.out)⟩, ⟨by repeat (first | (with_reducible first | exact HK.out | apply KeepBut.set_ | apply keep_drewN | apply keep_drew | apply keep_alloc) | exact HK.out)⟩, ⟨by repeat (first | (with_reducible first | exact HB.out | apply below_alloc | apply pw_below_drewN | apply below_drew1 | refine below_set ?_ (IsS66.ge HI0.out)) | exact HB.out)⟩⟩
                    · rw [if_neg c20] at H
                      have c20b0 : decide ((t144.size : Int) ≤ 6) = false := decide_eq_false c20
                      have c20b1 : decide (t144.size ≤ 6) = false := decide_eq_false (by omega)
                      clear c20
                      have H' := Aside0.mk H
                      clear H
                      go_wp2
                      repeat (go_quiet (fail); try go_wp2)
                      go_meet
                      case rel => exact ⟨_, (false), eq_, H', ⟨by have := HJ3.out; first | omega | exact Nat.le_refl _⟩, ⟨by repeat (first | (with_reducible first | exact HI0.out | apply IsS66.alloc | apply IsS66.drewN | apply IsS66.drew | apply IsS66.set_0 | apply IsS66.set_1 | apply IsS66.set_2) | exact HI0.out)⟩, ⟨by repeat (first | (with_reducible first | exact HK.out | apply KeepBut.set_ | apply keep_drewN | apply keep_drew | apply keep_alloc) | exact HK.out)⟩, ⟨by repeat (first | (with_reducible first | exact HB.out | apply below_alloc | apply pw_below_drewN | apply below_drew1 | refine below_set ?_ (IsS66.ge HI0.out)) | exact HB.out)⟩⟩
                  · rw [if_neg c19] at H
                    have c19b0 : decide (1 ≤ (t144.size : Int)) = false := decide_eq_false c19
                    have c19b1 : decide (1 ≤ t144.size) = false := decide_eq_false (by omega)
                    clear c19
                    (first | rw [c19b0] | (simp only [i64_w, i32_w]; rw [c19b0]) | skip)
                    have H' := Aside0.mk H
                    clear H
                    go_wp2
                    repeat (go_quiet (fail); try go_wp2)
                    go_meet
                    case rel => exact ⟨_, (false), eq_, H', ⟨by have := HJ3.out; first | omega | exact Nat.le_refl _⟩, ⟨by repeat (first | (with_reducible first | exact HI0.out | apply IsS66.alloc | apply IsS66.drewN | apply IsS66.drew | apply IsS66.set_0 | apply IsS66.set_1 | apply IsS66.set_2) | exact HI0.out)⟩, ⟨by repeat (first | (with_reducible first | exact HK.out | apply KeepBut.set_ | apply keep_drewN | apply keep_drew | apply keep_alloc) | exact HK.out)⟩, ⟨by repeat (first | (with_reducible first | exact HB.out | apply below_alloc | apply pw_below_drewN | apply below_drew1 | refine below_set ?_ (IsS66.ge HI0.out)) | exact HB.out)⟩⟩
                · replace c18 := Bool.eq_false_iff.mpr c18
                  subst c18
                  have H1 : (class_reader_escape.j1 kj3 t144 false s0_0 s0_1 s0_2) = some (r1, r2, r3, r4) := by rw [if_neg (show ¬ (false = true) by decide)] at H; exact H
                  clear H
                  have H := H1
                  clear H1
                  have H' := Aside0.mk H
                  clear H
                  go_wp2
                  repeat (go_quiet (fail); try go_wp2)
                  go_meet
                  case rel => exact ⟨_, (false), eq_, H', ⟨by have := HJ3.out; first | omega | exact Nat.le_refl _⟩, ⟨by repeat (first | (with_reducible first | exact HI0.out | apply IsS66.alloc | apply IsS66.drewN | apply IsS66.drew | apply IsS66.set_0 | apply IsS66.set_1 | apply IsS66.set_2) | exact HI0.out)⟩, ⟨by repeat (first | (with_reducible first | exact HK.out | apply KeepBut.set_ | apply keep_drewN | apply keep_drew | apply keep_alloc) | exact HK.out)⟩, ⟨by repeat (first | (with_reducible first | exact HB.out | apply below_alloc | apply pw_below_drewN | apply below_drew1 | refine below_set ?_ (IsS66.ge HI0.out)) | exact HB.out)⟩⟩
              · replace c17 := Bool.eq_false_iff.mpr c17
                subst c17
                have H1 : (class_reader_escape.j1 kj3 t144 false s0_0 s0_1 s0_2) = some (r1, r2, r3, r4) := by rw [if_neg (show ¬ (false = true) by decide)] at H; exact H
                clear H
                have H := H1
                clear H1
                have H' := Aside0.mk H
                clear H
                go_wp2
                repeat (go_quiet (fail); try go_wp2)
                go_meet
                case rel => exact ⟨_, (false), eq_, H', ⟨by have := HJ3.out; first | omega | exact Nat.le_refl _⟩, ⟨by repeat (first | (with_reducible first | exact HI0.out | apply IsS66.alloc | apply IsS66.drewN | apply IsS66.drew | apply IsS66.set_0 | apply IsS66.set_1 | apply IsS66.set_2) | exact HI0.out)⟩, ⟨by repeat (first | (with_reducible first | exact HK.out | apply KeepBut.set_ | apply keep_drewN | apply keep_drew | apply keep_alloc) | exact HK.out)⟩, ⟨by repeat (first | (with_reducible first | exact HB.out | apply below_alloc | apply pw_below_drewN | apply below_drew1 | refine below_set ?_ (IsS66.ge HI0.out)) | exact HB.out)⟩⟩
            case rest =>
              clear HC16
              try clear c1
              try clear p1
              try clear q1
              try clear hx1
              try clear qi1
              try clear c2
              try clear c2b0
              try clear c2b1
              try clear p2
              try clear c3
              try clear c3b0
              try clear c3b1
              try clear p3
              try clear c5
              try clear c6
              try clear c6b0
              try clear c6b1
              try clear p6
              try clear c7
              try clear c7b0
              try clear c7b1
              try clear p8
              try clear q8
              try clear hx8
              try clear qi8
              try clear c10
              try clear c11
              try clear c11b0
              try clear c11b1
              try clear p12
              try clear q12
              try clear hx12
              try clear qi12
              try clear c17
              try clear c18
              try clear c19
              try clear c19b0
              try clear c19b1
              try clear c20
              try clear c20b0
              try clear c20b1
              try clear hcz13_0
              try clear hcz13_1
              try clear hcz13_2
              try clear hcz5_0
              try clear hcz5_1
              try clear hcz5_2
              try clear hfz13_0
              try clear hfz13_1
              try clear hfz13_2
              try clear hfz5_0
              try clear hfz5_1
              try clear hfz5_2
              try clear p12
              try clear p2
              try clear p6
              try clear p8
              try clear q12
              try clear q8
              obtain ⟨kq, x68_15, rfl, HA, HJ15, HI0, HK, HB⟩ := hcut
              cases kq with
              | zero => exact absurd HA.out (by simp [class_reader_escape.j1])
              | succ kj15 =>
                have H := HA.out
                clear HA
                simp only [class_reader_escape.j1] at H
                by_cases c23 : x68_15 = true
                · subst c23
                  have H1 : ((strconv_ParseInt.f t144 16 32).bind fun bt147 => (if (wrap32 (bt147.1)) ≤ 1114111 then (some (wrap32 (bt147.1), s0_0, wrap64 (s0_1 + (wrap64 ((t144.size : Int) + 4))), s0_2)) else ((class_reader_fail.f s0_0 s0_1 s0_2).bind fun bt149 => (some (0, bt149.1, bt149.2.1, bt149.2.2))))) = some (r1, r2, r3, r4) := by rw [if_pos rfl] at H; exact H
                  clear H
                  have H := H1
                  clear H1
                  replace H := Option.bind_eq_some_iff.mp H
                  obtain ⟨⟨t147, t148⟩, A240, H⟩ := H
                  replace H : (if (wrap32 (t147)) ≤ 1114111 then (some (wrap32 (t147), s0_0, wrap64 (s0_1 + (wrap64 ((t144.size : Int) + 4))), s0_2)) else ((class_reader_fail.f s0_0 s0_1 s0_2).bind fun bt149 => (some (0, bt149.1, bt149.2.1, bt149.2.2)))) = some (r1, r2, r3, r4) := H
                  have A24 := Aside0.mk A240
                  clear A240
                  by_cases c25 : (wrap32 (t147)) ≤ 1114111
                  · rw [if_pos c25] at H
                    have c25b0 : decide ((wrap32 (t147)) ≤ 1114111) = true := decide_eq_true c25
                    clear c25
                    simp only [Option.some.injEq, Prod.mk.injEq] at H
                    obtain ⟨rfl, rfl, rfl, rfl⟩ := H
                    go_wp2_with (first | (go_at_call 72; (with_reducible refine (strconv_ParseInt.calls t144 16 32 t147 t148 _ A24.out).mono ?_); rintro e w26 ⟨rfl, hb⟩; have n0_ := Aside0.mk (IsS66.below (by repeat (first | (with_reducible first | exact HI0.out | apply IsS66.alloc | apply IsS66.drewN | apply IsS66.drew | apply IsS66.set_0 | apply IsS66.set_1 | apply IsS66.set_2) | exact HI0.out)) hb); have n1_ := Aside0.mk (KeepBut.trans (by repeat (first | (with_reducible first | exact HK.out | apply KeepBut.set_ | apply keep_drewN | apply keep_drew | apply keep_alloc) | exact HK.out)) (KeepBut.of_below hb g none) (.inl rfl)); have n2_ := Aside0.mk (below_step (by repeat (first | (with_reducible first | exact HB.out | apply below_alloc | apply pw_below_drewN | apply below_drew1 | refine below_set ?_ (IsS66.ge HI0.out)) | exact HB.out)) hb); clear HI0; clear HK; clear HB; have HI0 := n0_; have HK := n1_; have HB := n2_; clear n0_ n1_ n2_; (try clear hb); (try simp only [errW_none, errW_some]); obtain ⟨HGz27, hgz27⟩ := HI0.out; have hcz27_0 := cellS66_0 HGz27; have hcz27_1 := cellS66_1 HGz27; have hcz27_2 := cellS66_2 HGz27; have hfz27_0 := blk_frozen HGz27 0; have hfz27_1 := blk_frozen HGz27 1; have hfz27_2 := blk_frozen HGz27 2; clear HGz27 hgz27))
                    repeat (go_quiet (first | (go_at_call 72; (with_reducible refine (strconv_ParseInt.calls t144 16 32 t147 t148 _ A24.out).mono ?_); rintro e w26 ⟨rfl, hb⟩; have n0_ := Aside0.mk (IsS66.below (by repeat (first | (with_reducible first | exact HI0.out | apply IsS66.alloc | apply IsS66.drewN | apply IsS66.drew | apply IsS66.set_0 | apply IsS66.set_1 | apply IsS66.set_2) | exact HI0.out)) hb); have n1_ := Aside0.mk (KeepBut.trans (by repeat (first | (with_reducible first | exact HK.out | apply KeepBut.set_ | apply keep_drewN | apply keep_drew | apply keep_alloc) | exact HK.out)) (KeepBut.of_below hb g none) (.inl rfl)); have n2_ := Aside0.mk (below_step (by repeat (first | (with_reducible first | exact HB.out | apply below_alloc | apply pw_below_drewN | apply below_drew1 | refine below_set ?_ (IsS66.ge HI0.out)) | exact HB.out)) hb); clear HI0; clear HK; clear HB; have HI0 := n0_; have HK := n1_; have HB := n2_; clear n0_ n1_ n2_; (try clear hb); (try simp only [errW_none, errW_some]); obtain ⟨HGz27, hgz27⟩ := HI0.out; have hcz27_0 := cellS66_0 HGz27; have hcz27_1 := cellS66_1 HGz27; have hcz27_2 := cellS66_2 HGz27; have hfz27_0 := blk_frozen HGz27 0; have hfz27_1 := blk_frozen HGz27 1; have hfz27_2 := blk_frozen HGz27 2; clear HGz27 hgz27)); try go_wp2_with (first | (go_at_call 72; (with_reducible refine (strconv_ParseInt.calls t144 16 32 t147 t148 _ A24.out).mono ?_); rintro e w26 ⟨rfl, hb⟩; have n0_ := Aside0.mk (IsS66.below (by repeat (first | (with_reducible first | exact HI0.out | apply IsS66.alloc | apply IsS66.drewN | apply IsS66.drew | apply IsS66.set_0 | apply IsS66.set_1 | apply IsS66.set_2) | exact HI0.out)) hb); have n1_ := Aside0.mk (KeepBut.trans (by repeat (first | (with_reducible first | exact HK.out | apply KeepBut.set_ | apply keep_drewN | apply keep_drew | apply keep_alloc) | exact HK.out)) (KeepBut.of_below hb g none) (.inl rfl)); have n2_ := Aside0.mk (below_step (by repeat (first | (with_reducible first | exact HB.out | apply below_alloc | apply pw_below_drewN | apply below_drew1 | refine below_set ?_ (IsS66.ge HI0.out)) | exact HB.out)) hb); clear HI0; clear HK; clear HB; have HI0 := n0_; have HK := n1_; have HB := n2_; clear n0_ n1_ n2_; (try clear hb); (try simp only [errW_none, errW_some]); obtain ⟨HGz27, hgz27⟩ := HI0.out; have hcz27_0 := cellS66_0 HGz27; have hcz27_1 := cellS66_1 HGz27; have hcz27_2 := cellS66_2 HGz27; have hfz27_0 := blk_frozen HGz27 0; have hfz27_1 := blk_frozen HGz27 1; have hfz27_2 := blk_frozen HGz27 2; clear HGz27 hgz27)))
                    go_ret
                    exact ⟨ew_, by repeat (first | (with_reducible first | exact HI0.out | apply IsS66.alloc | apply IsS66.drewN | apply IsS66.drew | apply IsS66.set_0 | apply IsS66.set_1 | apply IsS66.set_2) | exact HI0.out), by repeat (first | (with_reducible first | exact HB.out | apply below_alloc | apply pw_below_drewN | apply below_drew1 | refine below_set ?_ (IsS66.ge HI0.out)) | exact HB.out), by repeat (first | (with_reducible first | exact HK.out | apply KeepBut.set_ | apply keep_drewN | apply keep_drew | apply keep_alloc) | exact HK.out)⟩
                  · rw [if_neg c25] at H
                    have c25b0 : decide ((wrap32 (t147)) ≤ 1114111) = false := decide_eq_false c25
                    clear c25
                    replace H := Option.bind_eq_some_iff.mp H
                    obtain ⟨⟨t149, t150, t151⟩, A280, H⟩ := H
                    replace H : (some (0, t149, t150, t151)) = some (r1, r2, r3, r4) := H
                    have A28 := Aside0.mk A280
                    clear A280
                    simp only [Option.some.injEq, Prod.mk.injEq] at H
                    obtain ⟨rfl, rfl, rfl, rfl⟩ := H
                    go_wp2_with (first | (go_at_call 72; (with_reducible refine (strconv_ParseInt.calls t144 16 32 t147 t148 _ A24.out).mono ?_); rintro e w29 ⟨rfl, hb⟩; have n0_ := Aside0.mk (IsS66.below (by repeat (first | (with_reducible first | exact HI0.out | apply IsS66.alloc | apply IsS66.drewN | apply IsS66.drew | apply IsS66.set_0 | apply IsS66.set_1 | apply IsS66.set_2) | exact HI0.out)) hb); have n1_ := Aside0.mk (KeepBut.trans (by repeat (first | (with_reducible first | exact HK.out | apply KeepBut.set_ | apply keep_drewN | apply keep_drew | apply keep_alloc) | exact HK.out)) (KeepBut.of_below hb g none) (.inl rfl)); have n2_ := Aside0.mk (below_step (by repeat (first | (with_reducible first | exact HB.out | apply below_alloc | apply pw_below_drewN | apply below_drew1 | refine below_set ?_ (IsS66.ge HI0.out)) | exact HB.out)) hb); clear HI0; clear HK; clear HB; have HI0 := n0_; have HK := n1_; have HB := n2_; clear n0_ n1_ n2_; (try clear hb); (try simp only [errW_none, errW_some])) | (go_at_call 43; (with_reducible refine (class_reader_fail.calls g s0_0 s0_1 s0_2 t149 t150 t151 w0 _ ?side1 ?side2 A28.out).mono ?_); (case side1 => repeat (first | (with_reducible first | exact HI0.out | apply IsS66.alloc | apply IsS66.drewN | apply IsS66.drew | apply IsS66.set_0 | apply IsS66.set_1 | apply IsS66.set_2) | exact HI0.out)); (case side2 => repeat (first | (with_reducible first | exact HB.out | apply below_alloc | apply pw_below_drewN | apply below_drew1 | refine below_set ?_ (IsS66.ge HI0.out)) | exact HB.out)); rintro e w30 ⟨rfl, hi, hb, hk⟩; replace HK := Aside0.mk (KeepBut.trans (by repeat (first | (with_reducible first | exact HK.out | apply KeepBut.set_ | apply keep_drewN | apply keep_drew | apply keep_alloc) | exact HK.out)) hk (.inl rfl)); replace HB := Aside0.mk (hb); replace HI0 := Aside0.mk (hi); (try clear hb); (try clear hk); (try clear hi)))
                    repeat (go_quiet (first | (go_at_call 72; (with_reducible refine (strconv_ParseInt.calls t144 16 32 t147 t148 _ A24.out).mono ?_); rintro e w29 ⟨rfl, hb⟩; have n0_ := Aside0.mk (IsS66.below (by repeat (first | (with_reducible first | exact HI0.out | apply IsS66.alloc | apply IsS66.drewN | apply IsS66.drew | apply IsS66.set_0 | apply IsS66.set_1 | apply IsS66.set_2) | exact HI0.out)) hb); have n1_ := Aside0.mk (KeepBut.trans (by repeat (first | (with_reducible first | exact HK.out | apply KeepBut.set_ | apply keep_drewN | apply keep_drew | apply keep_alloc) | exact HK.out)) (KeepBut.of_below hb g none) (.inl rfl)); have n2_ := Aside0.mk (below_step (by repeat (first | (with_reducible first | exact HB.out | apply below_alloc | apply pw_below_drewN | apply below_drew1 | refine below_set ?_ (IsS66.ge HI0.out)) | exact HB.out)) hb); clear HI0; clear HK; clear HB; have HI0 := n0_; have HK := n1_; have HB := n2_; clear n0_ n1_ n2_; (try clear hb); (try simp only [errW_none, errW_some])) | (go_at_call 43; (with_reducible refine (class_reader_fail.calls g s0_0 s0_1 s0_2 t149 t150 t151 w0 _ ?side1 ?side2 A28.out).mono ?_); (case side1 => repeat (first | (with_reducible first | exact HI0.out | apply IsS66.alloc | apply IsS66.drewN | apply IsS66.drew | apply IsS66.set_0 | apply IsS66.set_1 | apply IsS66.set_2) | exact HI0.out)); (case side2 => repeat (first | (with_reducible first | exact HB.out | apply below_alloc | apply pw_below_drewN | apply below_drew1 | refine below_set ?_ (IsS66.ge HI0.out)) | exact HB.out)); rintro e w30 ⟨rfl, hi, hb, hk⟩; replace HK := Aside0.mk (KeepBut.trans (by repeat (first | (with_reducible first | exact HK.out | apply KeepBut.set_ | apply keep_drewN | apply keep_drew | apply keep_alloc) | exact HK.out)) hk (.inl rfl)); replace HB := Aside0.mk (hb); replace HI0 := Aside0.mk (hi); (try clear hb); (try clear hk); (try clear hi))); try go_wp2_with (first | (go_at_call 72; (with_reducible refine (strconv_ParseInt.calls t144 16 32 t147 t148 _ A24.out).mono ?_); rintro e w29 ⟨rfl, hb⟩; have n0_ := Aside0.mk (IsS66.below (by repeat (first | (with_reducible first | exact HI0.out | apply IsS66.alloc | apply IsS66.drewN | apply IsS66.drew | apply IsS66.set_0 | apply IsS66.set_1 | apply IsS66.set_2) | exact HI0.out)) hb); have n1_ := Aside0.mk (KeepBut.trans (by repeat (first | (with_reducible first | exact HK.out | apply KeepBut.set_ | apply keep_drewN | apply keep_drew | apply keep_alloc) | exact HK.out)) (KeepBut.of_below hb g none) (.inl rfl)); have n2_ := Aside0.mk (below_step (by repeat (first | (with_reducible first | exact HB.out | apply below_alloc | apply pw_below_drewN | apply below_drew1 | refine below_set ?_ (IsS66.ge HI0.out)) | exact HB.out)) hb); clear HI0; clear HK; clear HB; have HI0 := n0_; have HK := n1_; have HB := n2_; clear n0_ n1_ n2_; (try clear hb); (try simp only [errW_none, errW_some])) | (go_at_call 43; (with_reducible refine (class_reader_fail.calls g s0_0 s0_1 s0_2 t149 t150 t151 w0 _ ?side1 ?side2 A28.out).mono ?_); (case side1 => repeat (first | (with_reducible first | exact HI0.out | apply IsS66.alloc | apply IsS66.drewN | apply IsS66.drew | apply IsS66.set_0 | apply IsS66.set_1 | apply IsS66.set_2) | exact HI0.out)); (case side2 => repeat (first | (with_reducible first | exact HB.out | apply below_alloc | apply pw_below_drewN | apply below_drew1 | refine below_set ?_ (IsS66.ge HI0.out)) | exact HB.out)); rintro e w30 ⟨rfl, hi, hb, hk⟩; replace HK := Aside0.mk (KeepBut.trans (by repeat (first | (with_reducible first | exact HK.out | apply KeepBut.set_ | apply keep_drewN | apply keep_drew | apply keep_alloc) | exact HK.out)) hk (.inl rfl)); replace HB := Aside0.mk (hb); replace HI0 := Aside0.mk (hi); (try clear hb); (try clear hk); (try clear hi))))
                    go_ret
                    exact ⟨ew_, by repeat (first | (with_reducible first | exact HI0.out | apply IsS66.alloc | apply IsS66.drewN | apply IsS66.drew | apply IsS66.set_0 | apply IsS66.set_1 | apply IsS66.set_2) | exact HI0.out), by repeat (first | (with_reducible first | exact HB.out | apply below_alloc | apply pw_below_drewN | apply below_drew1 | refine below_set ?_ (IsS66.ge HI0.out)) | exact HB.out), by repeat (first | (with_reducible first | exact HK.out | apply KeepBut.set_ | apply keep_drewN | apply keep_drew | apply keep_alloc) | exact HK.out)⟩
                · replace c23 := Bool.eq_false_iff.mpr c23
                  subst c23
                  have H1 : ((class_reader_fail.f s0_0 s0_1 s0_2).bind fun bt152 => (some (0, bt152.1, bt152.2.1, bt152.2.2))) = some (r1, r2, r3, r4) := by rw [if_neg (show ¬ (false = true) by decide)] at H; exact H
                  clear H
                  have H := H1
                  clear H1
                  replace H := Option.bind_eq_some_iff.mp H
                  obtain ⟨⟨t152, t153, t154⟩, A310, H⟩ := H
                  replace H : (some (0, t152, t153, t154)) = some (r1, r2, r3, r4) := H
                  have A31 := Aside0.mk A310
                  clear A310
                  simp only [Option.some.injEq, Prod.mk.injEq] at H
                  obtain ⟨rfl, rfl, rfl, rfl⟩ := H
                  go_wp2_with (first | (go_at_call 43; (with_reducible refine (class_reader_fail.calls g s0_0 s0_1 s0_2 t152 t153 t154 w0 _ ?side1 ?side2 A31.out).mono ?_); (case side1 => repeat (first | (with_reducible first | exact HI0.out | apply IsS66.alloc | apply IsS66.drewN | apply IsS66.drew | apply IsS66.set_0 | apply IsS66.set_1 | apply IsS66.set_2) | exact HI0.out)); (case side2 => repeat (first | (with_reducible first | exact HB.out | apply below_alloc | apply pw_below_drewN | apply below_drew1 | refine below_set ?_ (IsS66.ge HI0.out)) | exact HB.out)); rintro e w32 ⟨rfl, hi, hb, hk⟩; replace HK := Aside0.mk (KeepBut.trans (by repeat (first | (with_reducible first | exact HK.out | apply KeepBut.set_ | apply keep_drewN | apply keep_drew | apply keep_alloc) | exact HK.out)) hk (.inl rfl)); replace HB := Aside0.mk (hb); replace HI0 := Aside0.mk (hi); (try clear hb); (try clear hk); (try clear hi)))
                  repeat (go_quiet (first | (go_at_call 43; (with_reducible refine (class_reader_fail.calls g s0_0 s0_1 s0_2 t152 t153 t154 w0 _ ?side1 ?side2 A31.out).mono ?_); (case side1 => repeat (first | (with_reducible first | exact HI0.out | apply IsS66.alloc | apply IsS66.drewN | apply IsS66.drew | apply IsS66.set_0 | apply IsS66.set_1 | apply IsS66.set_2) | exact HI0.out)); (case side2 => repeat (first | (with_reducible first | exact HB.out | apply below_alloc | apply pw_below_drewN | apply below_drew1 | refine below_set ?_ (IsS66.ge HI0.out)) | exact HB.out)); rintro e w32 ⟨rfl, hi, hb, hk⟩; replace HK := Aside0.mk (KeepBut.trans (by repeat (first | (with_reducible first | exact HK.out | apply KeepBut.set_ | apply keep_drewN | apply keep_drew | apply keep_alloc) | exact HK.out)) hk (.inl rfl)); replace HB := Aside0.mk (hb); replace HI0 := Aside0.mk (hi); (try clear hb); (try clear hk); (try clear hi))); try go_wp2_with (first | (go_at_call 43; (with_reducible refine (class_reader_fail.calls g s0_0 s0_1 s0_2 t152 t153 t154 w0 _ ?side1 ?side2 A31.out).mono ?_); (case side1 => repeat (first | (with_reducible first | exact HI0.out | apply IsS66.alloc | apply IsS66.drewN | apply IsS66.drew | apply IsS66.set_0 | apply IsS66.set_1 | apply IsS66.set_2) | exact HI0.out)); (case side2 => repeat (first | (with_reducible first | exact HB.out | apply below_alloc | apply pw_below_drewN | apply below_drew1 | refine below_set ?_ (IsS66.ge HI0.out)) | exact HB.out)); rintro e w32 ⟨rfl, hi, hb, hk⟩; replace HK := Aside0.mk (KeepBut.trans (by repeat (first | (with_reducible first | exact HK.out | apply KeepBut.set_ | apply keep_drewN | apply keep_drew | apply keep_alloc) | exact HK.out)) hk (.inl rfl)); replace HB := Aside0.mk (hb); replace HI0 := Aside0.mk (hi); (try clear hb); (try clear hk); (try clear hi))))
                  go_ret
                  exact ⟨ew_, by repeat (first | (with_reducible first | exact HI0.out | apply IsS66.alloc | apply IsS66.drewN | apply IsS66.drew | apply IsS66.set_0 | apply IsS66.set_1 | apply IsS66.set_2) | exact HI0.out), by repeat (first | (with_reducible first | exact HB.out | apply below_alloc | apply pw_below_drewN | apply below_drew1 | refine below_set ?_ (IsS66.ge HI0.out)) | exact HB.out), by repeat (first | (with_reducible first | exact HK.out | apply KeepBut.set_ | apply keep_drewN | apply keep_drew | apply keep_alloc) | exact HK.out)⟩
    · rw [if_neg c3] at H
      exact absurd H (by simp)
  · rw [if_neg c2] at H
    exact absurd H (by simp)

/-! ### utf8_DecodeRuneInString: function 60 -/
def GTabs.deB : List Int := [0, 1, 56, 2, 57, 49, 28, 3, 61, 58, 42, 50, 38, 29, 17, 4, 62, 47, 59, 36, 45, 43, 51, 22, 53, 39, 33, 30, 24, 18, 12, 5, 63, 55, 48, 27, 60, 41, 37, 16, 46, 35, 44, 21, 52, 32, 23, 11, 54, 26, 40, 15, 34, 20, 31, 10, 25, 14, 19, 9, 13, 8, 7, 6]
def GTabs (w : World) : Prop := Lib.Utf8Tabs 0 1 w ∧ Lib.TabIs Tryz.prog w "math/bits.deBruijn64tab" .u8 GTabs.deB
theorem gtb_ {w w' : World} (h : GTabs w) (hb : Below w.heap.size w w') : GTabs w' := ⟨Utf8Tabs_below h.1 hb, tb_ h.2 hb⟩
def utf8_DecodeRuneInString.f (s : ByteArray) : Option (Int × Int) := some ((Lib.decodeGo s).1, (Lib.decodeGo s).2)
theorem utf8_DecodeRuneInString.calls (a0 : ByteArray) (r1 r2 : Int) (w : World) (h : utf8_DecodeRuneInString.f a0 = some (r1, r2)) (ht : GTabs w := by first | assumption | exact gtb_ (by assumption) (bl_ (by assumption)).out) :
    Calls Tryz.prog 60 #[.string a0] w fun e w' => e = .returned (.tuple #[.int .i32 r1, .int .i64 r2]) ∧ Below w.heap.size w w' := by
  unfold utf8_DecodeRuneInString.f at h
  injection h with h
  injection h with h1 h2
  subst h1 h2
  exact Tryz.utf8_DecodeRuneInString a0 w ht.1

end Go.Proofs.YtnpohgoacbpcjaaGreatDoor.P
