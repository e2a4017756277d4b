-- out of the print of PCod: quitrentlaw08_CodecBack
import Derived.Test.YtkfbmplhcigopabPCodx0
import Derived.Test.YtkfbmplhcigopabPCodF8
import Derived.Test.YtkfbmplhcigopabPCodF9
import Derived.Test.YtkfbmplhcigopabPCodF10
import Derived.Test.YtkfbmplhcigopabPCodF11
import Derived.Test.YtkfbmplhcigopabPCodF12
import Derived.Test.YtkfbmplhcigopabPCodF13
import Derived.Test.YtkfbmplhcigopabPCodF14
import Derived.Test.YtkfbmplhcigopabPCodF15
import Derived.Test.YtkfbmplhcigopabPCodF16
import Derived.Test.YtkfbmplhcigopabPCodF17
namespace Go.Proofs.Ytkfbmplhcigopab.PCod
open Go.RowKit Go.Proofs.YtkfbmplhcigopabW.PrintWords Go.Proofs.YtkfbmplhcigopabW.PrintLast Go.Proofs.YtkfbmplhcigopabW.PrintMore
attribute [local go_sem] max2_int min2_int max_two min_two max_three min_three max_four min_four   -- for this text's walks alone
set_option linter.unusedVariables false
set_option linter.unusedSimpArgs false

/-! ### quitrentlaw08_CodecBack: function 3 -/
mutual
def quitrentlaw08_CodecBack.j0 : Nat → Int → List ByteArray → ByteArray → Bool → Int → List Int → Option (Bool)
  | 0, _, _, _, _, _, _ => none
  | k + 1, x0, x2, x3, x45, x196000, x196001 => if x45 = true then (some true) else ((codec_Number.f k x0).bind fun t198 => (if t198.size + x3.size ≤ 9223372036854775807 then ((codec_Take.f k (t198 ++ x3)).bind fun bt199 => (if bt199.1 = x0 then (if bt199.2.1 = (t198.size : Int) then (quitrentlaw08_CodecBack.j1 k x2 x3 (bt199.2.2 != 0) x196000 x196001) else (quitrentlaw08_CodecBack.j1 k x2 x3 true x196000 x196001)) else (quitrentlaw08_CodecBack.j1 k x2 x3 true x196000 x196001))) else (none)))
def quitrentlaw08_CodecBack.j1 : Nat → List ByteArray → ByteArray → Bool → Int → List Int → Option (Bool)
  | 0, _, _, _, _, _ => none
  | k + 1, x2, x3, x68, x196000, x196001 => if x68 = true then (some false) else ((codec_Put.f k x196000 x196001).bind fun bt202 => (if bt202.2 = 0 then ((codec_Read.f k bt202.1).bind fun bt204 => (if bt204.1 = x196000 then ((quitrentref08_Longs.f k bt204.2.1 x196001).bind fun t210 => (if t210 = true then (quitrentlaw08_CodecBack.j2 k x2 x3 bt202.1 (bt204.2.2 != 0)) else (quitrentlaw08_CodecBack.j2 k x2 x3 bt202.1 true))) else (quitrentlaw08_CodecBack.j2 k x2 x3 bt202.1 true))) else (quitrentlaw08_CodecBack.j3 k x2 x3)))
def quitrentlaw08_CodecBack.j3 : Nat → List ByteArray → ByteArray → Option (Bool)
  | 0, _, _ => none
  | k + 1, x2, x3 => (codec_Read.f k x3).bind fun bt217 => (if bt217.2.2 = 0 then ((codec_Put.f k bt217.1 bt217.2.1).bind fun bt223 => (if bt223.1.toList = x3.toList then (if bt223.2 = 0 then (quitrentlaw08_CodecBack.j4 k x2 x3) else (none)) else (none))) else (quitrentlaw08_CodecBack.j4 k x2 x3))
def quitrentlaw08_CodecBack.j4 : Nat → List ByteArray → ByteArray → Option (Bool)
  | 0, _, _ => none
  | k + 1, x2, x3 => (codec_List.f k x2).bind fun bt225 => (if bt225.2 = 0 then ((codec_Parts.f k bt225.1).bind fun bt227 => ((quitrentref06_Same.f k bt227.1 x2).bind fun t231 => (if t231 = true then (if bt227.2 = 0 then (quitrentlaw08_CodecBack.j5 k x3) else (none)) else (none)))) else (quitrentlaw08_CodecBack.j5 k x3))
def quitrentlaw08_CodecBack.j5 : Nat → ByteArray → Option (Bool)
  | 0, _ => none
  | k + 1, x3 => (codec_Parts.f k x3).bind fun bt232 => (if bt232.2 = 0 then ((codec_List.f k bt232.1).bind fun bt236 => (if bt236.1.toList = x3.toList then (if bt236.2 = 0 then (some true) else (none)) else (none))) else (some true))
def quitrentlaw08_CodecBack.j2 : Nat → List ByteArray → ByteArray → ByteArray → Bool → Option (Bool)
  | 0, _, _, _, _ => none
  | k + 1, x2, x3, x13, x97 => if x97 = true then (some false) else (if x13.size + 1 ≤ 9223372036854775807 then ((codec_Read.f k (x13 ++ (⟨#[0]⟩ : ByteArray))).bind fun bt211 => (if bt211.2.2 = 2 then (quitrentlaw08_CodecBack.j3 k x2 x3) else (none))) else (none))
end
def quitrentlaw08_CodecBack.f (k : Nat) (a0 : Int) (a1_0 : Int) (l1_1 : List Int) (l2 : List ByteArray) (a3 : ByteArray) : Option (Bool) := (quitrentlaw08_awake.f k).bind fun t196 => (if t196 = true then (if (l1_1.length : Int) > 70 then (quitrentlaw08_CodecBack.j0 k a0 l2 a3 true a1_0 l1_1) else ((quitrentlaw08_large.f k l2).bind fun t197 => (if t197 = true then (quitrentlaw08_CodecBack.j0 k a0 l2 a3 true a1_0 l1_1) else (quitrentlaw08_CodecBack.j0 k a0 l2 a3 (decide ((a3.size : Int) > 3000)) a1_0 l1_1)))) else (none))
theorem quitrentlaw08_CodecBack.mono_l : ∀ k, (∀ y0 y1 y2 y3 y4 y5, LeO (quitrentlaw08_CodecBack.j0 k y0 y1 y2 y3 y4 y5) (quitrentlaw08_CodecBack.j0 (k + 1) y0 y1 y2 y3 y4 y5)) ∧ (∀ y0 y1 y2 y3 y4, LeO (quitrentlaw08_CodecBack.j1 k y0 y1 y2 y3 y4) (quitrentlaw08_CodecBack.j1 (k + 1) y0 y1 y2 y3 y4)) ∧ (∀ y0 y1, LeO (quitrentlaw08_CodecBack.j3 k y0 y1) (quitrentlaw08_CodecBack.j3 (k + 1) y0 y1)) ∧ (∀ y0 y1, LeO (quitrentlaw08_CodecBack.j4 k y0 y1) (quitrentlaw08_CodecBack.j4 (k + 1) y0 y1)) ∧ (∀ y0, LeO (quitrentlaw08_CodecBack.j5 k y0) (quitrentlaw08_CodecBack.j5 (k + 1) y0)) ∧ (∀ y0 y1 y2 y3, LeO (quitrentlaw08_CodecBack.j2 k y0 y1 y2 y3) (quitrentlaw08_CodecBack.j2 (k + 1) y0 y1 y2 y3))
  | 0 => ⟨fun _ _ _ _ _ _ r h => by simp [quitrentlaw08_CodecBack.j0] at h, fun _ _ _ _ _ r h => by simp [quitrentlaw08_CodecBack.j1] at h, fun _ _ r h => by simp [quitrentlaw08_CodecBack.j3] at h, fun _ _ r h => by simp [quitrentlaw08_CodecBack.j4] at h, fun _ r h => by simp [quitrentlaw08_CodecBack.j5] at h, fun _ _ _ _ r h => by simp [quitrentlaw08_CodecBack.j2] at h⟩
  | k + 1 => by
    obtain ⟨ih0, ih1, ih2, ih3, ih4, ih5⟩ := quitrentlaw08_CodecBack.mono_l k
    refine ⟨?_, ?_, ?_, ?_, ?_, ?_⟩
    · intro y0 y1 y2 y3 y4 y5
      unfold quitrentlaw08_CodecBack.j0
      repeat' first
      | (with_reducible exact ih0 _ _ _ _ _ _)
      | (with_reducible exact ih1 _ _ _ _ _)
      | (with_reducible exact ih2 _ _)
      | (with_reducible exact ih3 _ _)
      | (with_reducible exact ih4 _)
      | (with_reducible exact ih5 _ _ _ _)
      | (with_reducible exact codec_List.mono _ _)
      | (with_reducible exact codec_Number.mono _ _)
      | (with_reducible exact codec_Parts.mono _ _)
      | (with_reducible exact codec_Put.mono _ _ _)
      | (with_reducible exact codec_Read.mono _ _)
      | (with_reducible exact codec_Take.mono _ _)
      | (with_reducible exact quitrentlaw08_awake.mono _)
      | (with_reducible exact quitrentlaw08_large.mono _ _)
      | (with_reducible exact quitrentref06_Same.mono _ _ _)
      | (with_reducible exact quitrentref08_Longs.mono _ _ _)
      | (with_reducible exact LeO.refl _)
      | (with_reducible exact LeO.none _)
      | (with_reducible refine LeO.ite ?_ ?_)
      | (with_reducible refine LeO.bind ?_ (fun _ => ?_))
      | exact ih0 _ _ _ _ _ _
      | exact ih1 _ _ _ _ _
      | exact ih2 _ _
      | exact ih3 _ _
      | exact ih4 _
      | exact ih5 _ _ _ _
      | exact codec_List.mono _ _
      | exact codec_Number.mono _ _
      | exact codec_Parts.mono _ _
      | exact codec_Put.mono _ _ _
      | exact codec_Read.mono _ _
      | exact codec_Take.mono _ _
      | exact quitrentlaw08_awake.mono _
      | exact quitrentlaw08_large.mono _ _
      | exact quitrentref06_Same.mono _ _ _
      | exact quitrentref08_Longs.mono _ _ _
      | exact LeO.none _
      | refine LeO.ite ?_ ?_
      | refine LeO.bind ?_ (fun _ => ?_)
    · intro y0 y1 y2 y3 y4
      unfold quitrentlaw08_CodecBack.j1
      repeat' first
      | (with_reducible exact ih0 _ _ _ _ _ _)
      | (with_reducible exact ih1 _ _ _ _ _)
      | (with_reducible exact ih2 _ _)
      | (with_reducible exact ih3 _ _)
      | (with_reducible exact ih4 _)
      | (with_reducible exact ih5 _ _ _ _)
      | (with_reducible exact codec_List.mono _ _)
      | (with_reducible exact codec_Number.mono _ _)
      | (with_reducible exact codec_Parts.mono _ _)
      | (with_reducible exact codec_Put.mono _ _ _)
      | (with_reducible exact codec_Read.mono _ _)
      | (with_reducible exact codec_Take.mono _ _)
      | (with_reducible exact quitrentlaw08_awake.mono _)
      | (with_reducible exact quitrentlaw08_large.mono _ _)
      | (with_reducible exact quitrentref06_Same.mono _ _ _)
      | (with_reducible exact quitrentref08_Longs.mono _ _ _)
      | (with_reducible exact LeO.refl _)
      | (with_reducible exact LeO.none _)
      | (with_reducible refine LeO.ite ?_ ?_)
      | (with_reducible refine LeO.bind ?_ (fun _ => ?_))
      | exact ih0 _ _ _ _ _ _
      | exact ih1 _ _ _ _ _
      | exact ih2 _ _
      | exact ih3 _ _
      | exact ih4 _
      | exact ih5 _ _ _ _
      | exact codec_List.mono _ _
      | exact codec_Number.mono _ _
      | exact codec_Parts.mono _ _
      | exact codec_Put.mono _ _ _
      | exact codec_Read.mono _ _
      | exact codec_Take.mono _ _
      | exact quitrentlaw08_awake.mono _
      | exact quitrentlaw08_large.mono _ _
      | exact quitrentref06_Same.mono _ _ _
      | exact quitrentref08_Longs.mono _ _ _
      | exact LeO.none _
      | refine LeO.ite ?_ ?_
      | refine LeO.bind ?_ (fun _ => ?_)
    · intro y0 y1
      unfold quitrentlaw08_CodecBack.j3
      repeat' first
      | (with_reducible exact ih0 _ _ _ _ _ _)
      | (with_reducible exact ih1 _ _ _ _ _)
      | (with_reducible exact ih2 _ _)
      | (with_reducible exact ih3 _ _)
      | (with_reducible exact ih4 _)
      | (with_reducible exact ih5 _ _ _ _)
      | (with_reducible exact codec_List.mono _ _)
      | (with_reducible exact codec_Number.mono _ _)
      | (with_reducible exact codec_Parts.mono _ _)
      | (with_reducible exact codec_Put.mono _ _ _)
      | (with_reducible exact codec_Read.mono _ _)
      | (with_reducible exact codec_Take.mono _ _)
      | (with_reducible exact quitrentlaw08_awake.mono _)
      | (with_reducible exact quitrentlaw08_large.mono _ _)
      | (with_reducible exact quitrentref06_Same.mono _ _ _)
      | (with_reducible exact quitrentref08_Longs.mono _ _ _)
      | (with_reducible exact LeO.refl _)
      | (with_reducible exact LeO.none _)
      | (with_reducible refine LeO.ite ?_ ?_)
      | (with_reducible refine LeO.bind ?_ (fun _ => ?_))
      | exact ih0 _ _ _ _ _ _
      | exact ih1 _ _ _ _ _
      | exact ih2 _ _
      | exact ih3 _ _
      | exact ih4 _
      | exact ih5 _ _ _ _
      | exact codec_List.mono _ _
      | exact codec_Number.mono _ _
      | exact codec_Parts.mono _ _
      | exact codec_Put.mono _ _ _
      | exact codec_Read.mono _ _
      | exact codec_Take.mono _ _
      | exact quitrentlaw08_awake.mono _
      | exact quitrentlaw08_large.mono _ _
      | exact quitrentref06_Same.mono _ _ _
      | exact quitrentref08_Longs.mono _ _ _
      | exact LeO.none _
      | refine LeO.ite ?_ ?_
      | refine LeO.bind ?_ (fun _ => ?_)
    · intro y0 y1
      unfold quitrentlaw08_CodecBack.j4
      repeat' first
      | (with_reducible exact ih0 _ _ _ _ _ _)
      | (with_reducible exact ih1 _ _ _ _ _)
      | (with_reducible exact ih2 _ _)
      | (with_reducible exact ih3 _ _)
      | (with_reducible exact ih4 _)
      | (with_reducible exact ih5 _ _ _ _)
      | (with_reducible exact codec_List.mono _ _)
      | (with_reducible exact codec_Number.mono _ _)
      | (with_reducible exact codec_Parts.mono _ _)
      | (with_reducible exact codec_Put.mono _ _ _)
      | (with_reducible exact codec_Read.mono _ _)
      | (with_reducible exact codec_Take.mono _ _)
      | (with_reducible exact quitrentlaw08_awake.mono _)
      | (with_reducible exact quitrentlaw08_large.mono _ _)
      | (with_reducible exact quitrentref06_Same.mono _ _ _)
      | (with_reducible exact quitrentref08_Longs.mono _ _ _)
      | (with_reducible exact LeO.refl _)
      | (with_reducible exact LeO.none _)
      | (with_reducible refine LeO.ite ?_ ?_)
      | (with_reducible refine LeO.bind ?_ (fun _ => ?_))
      | exact ih0 _ _ _ _ _ _
      | exact ih1 _ _ _ _ _
      | exact ih2 _ _
      | exact ih3 _ _
      | exact ih4 _
      | exact ih5 _ _ _ _
      | exact codec_List.mono _ _
      | exact codec_Number.mono _ _
      | exact codec_Parts.mono _ _
      | exact codec_Put.mono _ _ _
      | exact codec_Read.mono _ _
      | exact codec_Take.mono _ _
      | exact quitrentlaw08_awake.mono _
      | exact quitrentlaw08_large.mono _ _
      | exact quitrentref06_Same.mono _ _ _
      | exact quitrentref08_Longs.mono _ _ _
      | exact LeO.none _
      | refine LeO.ite ?_ ?_
      | refine LeO.bind ?_ (fun _ => ?_)
    · intro y0
      unfold quitrentlaw08_CodecBack.j5
      repeat' first
      | (with_reducible exact ih0 _ _ _ _ _ _)
      | (with_reducible exact ih1 _ _ _ _ _)
      | (with_reducible exact ih2 _ _)
      | (with_reducible exact ih3 _ _)
      | (with_reducible exact ih4 _)
      | (with_reducible exact ih5 _ _ _ _)
      | (with_reducible exact codec_List.mono _ _)
      | (with_reducible exact codec_Number.mono _ _)
      | (with_reducible exact codec_Parts.mono _ _)
      | (with_reducible exact codec_Put.mono _ _ _)
      | (with_reducible exact codec_Read.mono _ _)
      | (with_reducible exact codec_Take.mono _ _)
      | (with_reducible exact quitrentlaw08_awake.mono _)
      | (with_reducible exact quitrentlaw08_large.mono _ _)
      | (with_reducible exact quitrentref06_Same.mono _ _ _)
      | (with_reducible exact quitrentref08_Longs.mono _ _ _)
      | (with_reducible exact LeO.refl _)
      | (with_reducible exact LeO.none _)
      | (with_reducible refine LeO.ite ?_ ?_)
      | (with_reducible refine LeO.bind ?_ (fun _ => ?_))
      | exact ih0 _ _ _ _ _ _
      | exact ih1 _ _ _ _ _
      | exact ih2 _ _
      | exact ih3 _ _
      | exact ih4 _
      | exact ih5 _ _ _ _
      | exact codec_List.mono _ _
      | exact codec_Number.mono _ _
      | exact codec_Parts.mono _ _
      | exact codec_Put.mono _ _ _
      | exact codec_Read.mono _ _
      | exact codec_Take.mono _ _
      | exact quitrentlaw08_awake.mono _
      | exact quitrentlaw08_large.mono _ _
      | exact quitrentref06_Same.mono _ _ _
      | exact quitrentref08_Longs.mono _ _ _
      | exact LeO.none _
      | refine LeO.ite ?_ ?_
      | refine LeO.bind ?_ (fun _ => ?_)
    · intro y0 y1 y2 y3
      unfold quitrentlaw08_CodecBack.j2
      repeat' first
      | (with_reducible exact ih0 _ _ _ _ _ _)
      | (with_reducible exact ih1 _ _ _ _ _)
      | (with_reducible exact ih2 _ _)
      | (with_reducible exact ih3 _ _)
      | (with_reducible exact ih4 _)
      | (with_reducible exact ih5 _ _ _ _)
      | (with_reducible exact codec_List.mono _ _)
      | (with_reducible exact codec_Number.mono _ _)
      | (with_reducible exact codec_Parts.mono _ _)
      | (with_reducible exact codec_Put.mono _ _ _)
      | (with_reducible exact codec_Read.mono _ _)
      | (with_reducible exact codec_Take.mono _ _)
      | (with_reducible exact quitrentlaw08_awake.mono _)
      | (with_reducible exact quitrentlaw08_large.mono _ _)
      | (with_reducible exact quitrentref06_Same.mono _ _ _)
      | (with_reducible exact quitrentref08_Longs.mono _ _ _)
      | (with_reducible exact LeO.refl _)
      | (with_reducible exact LeO.none _)
      | (with_reducible refine LeO.ite ?_ ?_)
      | (with_reducible refine LeO.bind ?_ (fun _ => ?_))
      | exact ih0 _ _ _ _ _ _
      | exact ih1 _ _ _ _ _
      | exact ih2 _ _
      | exact ih3 _ _
      | exact ih4 _
      | exact ih5 _ _ _ _
      | exact codec_List.mono _ _
      | exact codec_Number.mono _ _
      | exact codec_Parts.mono _ _
      | exact codec_Put.mono _ _ _
      | exact codec_Read.mono _ _
      | exact codec_Take.mono _ _
      | exact quitrentlaw08_awake.mono _
      | exact quitrentlaw08_large.mono _ _
      | exact quitrentref06_Same.mono _ _ _
      | exact quitrentref08_Longs.mono _ _ _
      | exact LeO.none _
      | refine LeO.ite ?_ ?_
      | refine LeO.bind ?_ (fun _ => ?_)
theorem quitrentlaw08_CodecBack.mono : ∀ a0 a1 a2 a3 a4 k, LeO (quitrentlaw08_CodecBack.f k a0 a1 a2 a3 a4) (quitrentlaw08_CodecBack.f (k + 1) a0 a1 a2 a3 a4) := by
  intro a0 a1 a2 a3 a4 k
  obtain ⟨ih0, ih1, ih2, ih3, ih4, ih5⟩ := quitrentlaw08_CodecBack.mono_l k
  unfold quitrentlaw08_CodecBack.f
  repeat' first
      | (with_reducible exact ih0 _ _ _ _ _ _)
      | (with_reducible exact ih1 _ _ _ _ _)
      | (with_reducible exact ih2 _ _)
      | (with_reducible exact ih3 _ _)
      | (with_reducible exact ih4 _)
      | (with_reducible exact ih5 _ _ _ _)
      | (with_reducible exact codec_List.mono _ _)
      | (with_reducible exact codec_Number.mono _ _)
      | (with_reducible exact codec_Parts.mono _ _)
      | (with_reducible exact codec_Put.mono _ _ _)
      | (with_reducible exact codec_Read.mono _ _)
      | (with_reducible exact codec_Take.mono _ _)
      | (with_reducible exact quitrentlaw08_awake.mono _)
      | (with_reducible exact quitrentlaw08_large.mono _ _)
      | (with_reducible exact quitrentref06_Same.mono _ _ _)
      | (with_reducible exact quitrentref08_Longs.mono _ _ _)
      | (with_reducible exact LeO.refl _)
      | (with_reducible exact LeO.none _)
      | (with_reducible refine LeO.ite ?_ ?_)
      | (with_reducible refine LeO.bind ?_ (fun _ => ?_))
      | exact ih0 _ _ _ _ _ _
      | exact ih1 _ _ _ _ _
      | exact ih2 _ _
      | exact ih3 _ _
      | exact ih4 _
      | exact ih5 _ _ _ _
      | exact codec_List.mono _ _
      | exact codec_Number.mono _ _
      | exact codec_Parts.mono _ _
      | exact codec_Put.mono _ _ _
      | exact codec_Read.mono _ _
      | exact codec_Take.mono _ _
      | exact quitrentlaw08_awake.mono _
      | exact quitrentlaw08_large.mono _ _
      | exact quitrentref06_Same.mono _ _ _
      | exact quitrentref08_Longs.mono _ _ _
      | exact LeO.none _
      | refine LeO.ite ?_ ?_
      | refine LeO.bind ?_ (fun _ => ?_)
set_option maxHeartbeats 8000000 in
set_option maxRecDepth 100000 in
theorem quitrentlaw08_CodecBack.calls (k : Nat) (a0 : Int) (a1_0 : Int) (A1_1 : Option Addr) (c1_1 : Nat) (l1_1 : List Int) (A2 : Option Addr) (c2 : Nat) (l2 : List ByteArray) (a3 : ByteArray) (r : Bool) (w : World) (hr1_1 : Kd.C (Kd.int .i64) w A1_1 l1_1.length l1_1) (hc1_1 : l1_1.length ≤ c1_1) (hr2 : Kd.C Kd.string w A2 l2.length l2) (hc2 : l2.length ≤ c2) (h : quitrentlaw08_CodecBack.f k a0 a1_0 l1_1 l2 a3 = some r) :
    Calls Try.prog 3 #[.int .i64 a0, .agg #[.int .i64 a1_0, .slice A1_1 l1_1.length c1_1], .slice A2 l2.length c2, .string a3] w fun e w' => e = .returned (.bool r) ∧ Below w.heap.size w w' := by
  have hu24 := Try.underlying24
  have HR1_1 := Aside0.mk hr1_1
  have HC1_1 := Aside0.mk hc1_1
  clear hr1_1 hc1_1
  have HR2 := Aside0.mk hr2
  have HC2 := Aside0.mk hc2
  clear hr2 hc2
  have HB := Aside0.mk (Below.refl w.heap.size w)
  have H : ((quitrentlaw08_awake.f k).bind fun t196 => (if t196 = true then (if (l1_1.length : Int) > 70 then (quitrentlaw08_CodecBack.j0 k a0 l2 a3 true a1_0 l1_1) else ((quitrentlaw08_large.f k l2).bind fun t197 => (if t197 = true then (quitrentlaw08_CodecBack.j0 k a0 l2 a3 true a1_0 l1_1) else (quitrentlaw08_CodecBack.j0 k a0 l2 a3 (decide ((a3.size : Int) > 3000)) a1_0 l1_1)))) else (none))) = some r := h
  clear h
  replace H := Option.bind_eq_some_iff.mp H
  obtain ⟨t196, A50, H⟩ := H
  replace H : (if t196 = true then (if (l1_1.length : Int) > 70 then (quitrentlaw08_CodecBack.j0 k a0 l2 a3 true a1_0 l1_1) else ((quitrentlaw08_large.f k l2).bind fun t197 => (if t197 = true then (quitrentlaw08_CodecBack.j0 k a0 l2 a3 true a1_0 l1_1) else (quitrentlaw08_CodecBack.j0 k a0 l2 a3 (decide ((a3.size : Int) > 3000)) a1_0 l1_1)))) else (none)) = some r := H
  have A5 := Aside0.mk A50
  clear A50
  by_cases c6 : t196 = true
  · subst c6
    have H1 : (if (l1_1.length : Int) > 70 then (quitrentlaw08_CodecBack.j0 k a0 l2 a3 true a1_0 l1_1) else ((quitrentlaw08_large.f k l2).bind fun t197 => (if t197 = true then (quitrentlaw08_CodecBack.j0 k a0 l2 a3 true a1_0 l1_1) else (quitrentlaw08_CodecBack.j0 k a0 l2 a3 (decide ((a3.size : Int) > 3000)) a1_0 l1_1)))) = some r := by rw [if_pos rfl] at H; exact H
    clear H
    have H := H1
    clear H1
    have HC7 := Aside0.mk H
    clear H
    go_enter Try.func3, Try.ntmps3
    go_upto_region 3 with (first | ((with_reducible refine gate_dst (N := 5) rfl ?_); (try (refine gate_guard (by rfl) ?_; dsimp only)); refine box_event ?hg (N := 5) ?hd (cs := #[.int .i64 a1_0, .slice A1_1 l1_1.length c1_1]) (t := 24) ?hr ?_; (case hd => rfl); (case hg => rfl); (case hr => first | (go_simp; done) | (go_simp; rfl)); intro gb195 hg w8 hbox hb; have n0_ := Aside0.mk (below_step (by repeat (first | (with_reducible first | exact HB.out | apply below_alloc | apply pw_below_drewN | apply below_drew1) | exact HB.out)) hb); have n1_ := Aside0.mk (hbox); have n2_ := Aside0.mk ((by rw [hg]; exact (below_size (by repeat (first | (with_reducible first | exact HB.out | apply below_alloc | apply pw_below_drewN | apply below_drew1) | exact HB.out))) : w.heap.size ≤ gb195)); have n3_ := Aside0.mk ((by rw [hg]; exact (below_size (by repeat (first | (with_reducible first | exact HB.out | apply below_alloc | apply pw_below_drewN | apply below_drew1) | exact HB.out))) : w.heap.size ≤ gb195)); clear HB; have HB := n0_; have BK195 := n1_; have GW195 := n2_; have GE195 := n3_; clear n0_ n1_ n2_ n3_; clear hb hbox hg) | ((with_reducible refine gate_callee (f := 8) rfl ?_); refine goesL_ (some 31) rfl rfl Try.func8 (by kernel_rfl) rfl #[] rfl (by (try simp only [List.map_toArray, List.map_cons, List.map_nil]); first | done | rfl | (simp only [List.length_drop, List.length_take]; rfl)) ?_; (with_reducible refine (quitrentlaw08_awake.calls k  true _ A5.out).mono ?_); rintro e w9 ⟨rfl, hb⟩; refine ⟨_, rfl, ?_⟩; have n0_ := Aside0.mk (blk_below (g := gb195) (o := .cells #[.int .i64 a1_0, .slice A1_1 l1_1.length c1_1] 24 (0, 0)) (by (with_reducible repeat (first | refine blk_drewN ?_ _ | refine blk_drew ?_ | refine blk_alloc ?_ _)); exact BK195.out) hb); have n1_ := Aside0.mk (below_step (by repeat (first | (with_reducible first | exact HB.out | apply below_alloc | apply pw_below_drewN | apply below_drew1 | refine below_set ?_ GE195.out) | exact HB.out)) hb); clear BK195; clear HB; have BK195 := n0_; have HB := n1_; clear n0_ n1_; (try clear hb); (try clear hb2); (try clear hk); (try clear hi)))
    (try simp only [Act.put, List.setIfInBounds_toArray, List.set_cons_zero, List.set_cons_succ])
    go_cut [45] (fun v45 wc => ∃ (kq : Nat) (x45_6 : Bool), v45 = .bool x45_6 ∧ Aside0 (quitrentlaw08_CodecBack.j0 kq a0 l2 a3 x45_6 a1_0 l1_1 = some r) ∧ Aside0 (kq ≤ k) ∧ Aside0 (wc.heap[gb195]? = some (.cells #[.int .i64 a1_0, (.slice A1_1 l1_1.length c1_1)] 24 (0, 0))) ∧ Aside0 (Below w.heap.size w wc))
    case first =>
      have H := HC7.out
      clear HC7
      by_cases c10 : (l1_1.length : Int) > 70
      · rw [if_pos c10] at H
        have c10b0 : decide (70 < (l1_1.length : Int)) = true := decide_eq_true c10
        have c10b1 : decide (70 < l1_1.length) = true := decide_eq_true (by omega)
        clear c10
        (first | rw [c10b0] | (simp only [i64_w, i32_w]; rw [c10b0]) | skip)
        have H' := Aside0.mk H
        clear H
        have hcz11_0 : w9.cell? ⟨gb195, 0, none⟩ = some (.int .i64 a1_0) := (blk_cell BK195.out 0).trans rfl
        have hcz11_1 : w9.cell? ⟨gb195, 1, none⟩ = some (.slice A1_1 l1_1.length c1_1) := (blk_cell BK195.out 1).trans rfl
        have hfz11_0 := blk_frozen BK195.out 0
        have hfz11_1 := blk_frozen BK195.out 1
        go_wp2
        go_meet
        case rel => exact ⟨_, (true), (by first | rfl | (simp; done) | (simp [*]; done)), H', ⟨by first | omega | exact Nat.le_refl _⟩, ⟨by (with_reducible repeat (first | refine blk_drewN ?_ _ | refine blk_drew ?_ | refine blk_alloc ?_ _)); exact BK195.out⟩, ⟨by repeat (first | (with_reducible first | exact HB.out | apply below_alloc | apply pw_below_drewN | apply below_drew1 | refine below_set ?_ GE195.out) | exact HB.out)⟩⟩
      · rw [if_neg c10] at H
        have c10b0 : decide (70 < (l1_1.length : Int)) = false := decide_eq_false c10
        have c10b1 : decide (70 < l1_1.length) = false := decide_eq_false (by omega)
        clear c10
        (first | rw [c10b0] | (simp only [i64_w, i32_w]; rw [c10b0]) | skip)
        replace H := Option.bind_eq_some_iff.mp H
        obtain ⟨t197, A120, H⟩ := H
        replace H : (if t197 = true then (quitrentlaw08_CodecBack.j0 k a0 l2 a3 true a1_0 l1_1) else (quitrentlaw08_CodecBack.j0 k a0 l2 a3 (decide ((a3.size : Int) > 3000)) a1_0 l1_1)) = some r := H
        have A12 := Aside0.mk A120
        clear A120
        by_cases c13 : t197 = true
        · subst c13
          have H1 : (quitrentlaw08_CodecBack.j0 k a0 l2 a3 true a1_0 l1_1) = some r := by rw [if_pos rfl] at H; exact H
          clear H
          have H := H1
          clear H1
          have H' := Aside0.mk H
          clear H
          have hcz14_0 : w9.cell? ⟨gb195, 0, none⟩ = some (.int .i64 a1_0) := (blk_cell BK195.out 0).trans rfl
          have hcz14_1 : w9.cell? ⟨gb195, 1, none⟩ = some (.slice A1_1 l1_1.length c1_1) := (blk_cell BK195.out 1).trans rfl
          have hfz14_0 := blk_frozen BK195.out 0
          have hfz14_1 := blk_frozen BK195.out 1
          go_wp2_with (first | (go_at_call 9; (with_reducible refine (quitrentlaw08_large.calls k _ _ l2 true _ ?side1 ?side2 A12.out).mono ?_); (case side1 => repeat (first | exact (Kd.C_below HR2.out HB.out) | (with_reducible refine Kd.C_alloc ?_ _) | (with_reducible refine Kd.C_drewN ?_ _) | (with_reducible refine Kd.C_drew ?_))); (case side2 => exact HC2.out); rintro e w' ⟨rfl, ⟨nd, rfl⟩⟩))
          go_meet
          case rel => exact ⟨_, (true), (by first | rfl | (simp; done) | (simp [*]; done)), H', ⟨by first | omega | exact Nat.le_refl _⟩, ⟨by (with_reducible repeat (first | refine blk_drewN ?_ _ | refine blk_drew ?_ | refine blk_alloc ?_ _)); exact BK195.out⟩, ⟨by repeat (first | (with_reducible first | exact HB.out | apply below_alloc | apply pw_below_drewN | apply below_drew1 | refine below_set ?_ GE195.out) | exact HB.out)⟩⟩
        · replace c13 := Bool.eq_false_iff.mpr c13
          subst c13
          have H1 : (quitrentlaw08_CodecBack.j0 k a0 l2 a3 (decide ((a3.size : Int) > 3000)) a1_0 l1_1) = some r := by rw [if_neg (show ¬ (false = true) by decide)] at H; exact H
          clear H
          have H := H1
          clear H1
          have H' := Aside0.mk H
          clear H
          have hcz15_0 : w9.cell? ⟨gb195, 0, none⟩ = some (.int .i64 a1_0) := (blk_cell BK195.out 0).trans rfl
          have hcz15_1 : w9.cell? ⟨gb195, 1, none⟩ = some (.slice A1_1 l1_1.length c1_1) := (blk_cell BK195.out 1).trans rfl
          have hfz15_0 := blk_frozen BK195.out 0
          have hfz15_1 := blk_frozen BK195.out 1
          go_wp2_with (first | (go_at_call 9; (with_reducible refine (quitrentlaw08_large.calls k _ _ l2 false _ ?side1 ?side2 A12.out).mono ?_); (case side1 => repeat (first | exact (Kd.C_below HR2.out HB.out) | (with_reducible refine Kd.C_alloc ?_ _) | (with_reducible refine Kd.C_drewN ?_ _) | (with_reducible refine Kd.C_drew ?_))); (case side2 => exact HC2.out); rintro e w' ⟨rfl, ⟨nd, rfl⟩⟩))
          go_meet
          case rel => exact ⟨_, (decide ((a3.size : Int) > 3000)), (by first | rfl | (simp; done) | (simp [*]; done)), H', ⟨by first | omega | exact Nat.le_refl _⟩, ⟨by (with_reducible repeat (first | refine blk_drewN ?_ _ | refine blk_drew ?_ | refine blk_alloc ?_ _)); exact BK195.out⟩, ⟨by repeat (first | (with_reducible first | exact HB.out | apply below_alloc | apply pw_below_drewN | apply below_drew1 | refine below_set ?_ GE195.out) | exact HB.out)⟩⟩
    case rest =>
      clear HC7
      try clear c1
      try clear c2
      try clear p2
      try clear c3
      try clear c6
      try clear c8
      try clear c10
      try clear c10b0
      try clear c10b1
      try clear c13
      try clear hcz11_0
      try clear hcz11_1
      try clear hcz14_0
      try clear hcz14_1
      try clear hcz15_0
      try clear hcz15_1
      try clear hfz11_0
      try clear hfz11_1
      try clear hfz14_0
      try clear hfz14_1
      try clear hfz15_0
      try clear hfz15_1
      obtain ⟨kq, x45_6, rfl, HA, HJ6, BK195, HB⟩ := hcut
      cases kq with
      | zero => exact absurd HA.out (by simp [quitrentlaw08_CodecBack.j0])
      | succ kj6 =>
        have H := HA.out
        clear HA
        simp only [quitrentlaw08_CodecBack.j0] at H
        by_cases c16 : x45_6 = true
        · subst c16
          have H1 : (some true) = some r := by rw [if_pos rfl] at H; exact H
          clear H
          have H := H1
          clear H1
          obtain rfl := Option.some.inj H
          go_wp2
          go_ret
          exact ⟨by first | rfl | (simp [errW_none, errW_some] <;> rfl) | (simp [*, errW_none, errW_some] <;> rfl), by repeat (first | (with_reducible first | exact HB.out | apply below_alloc | apply pw_below_drewN | apply below_drew1 | refine below_set ?_ GE195.out) | exact HB.out)⟩
        · replace c16 := Bool.eq_false_iff.mpr c16
          subst c16
          have H1 : ((codec_Number.f kj6 a0).bind fun t198 => (if t198.size + a3.size ≤ 9223372036854775807 then ((codec_Take.f kj6 (t198 ++ a3)).bind fun bt199 => (if bt199.1 = a0 then (if bt199.2.1 = (t198.size : Int) then (quitrentlaw08_CodecBack.j1 kj6 l2 a3 (bt199.2.2 != 0) a1_0 l1_1) else (quitrentlaw08_CodecBack.j1 kj6 l2 a3 true a1_0 l1_1)) else (quitrentlaw08_CodecBack.j1 kj6 l2 a3 true a1_0 l1_1))) else (none))) = some r := by rw [if_neg (show ¬ (false = true) by decide)] at H; exact H
          clear H
          have H := H1
          clear H1
          replace H := Option.bind_eq_some_iff.mp H
          obtain ⟨t198, A170, H⟩ := H
          replace H : (if t198.size + a3.size ≤ 9223372036854775807 then ((codec_Take.f kj6 (t198 ++ a3)).bind fun bt199 => (if bt199.1 = a0 then (if bt199.2.1 = (t198.size : Int) then (quitrentlaw08_CodecBack.j1 kj6 l2 a3 (bt199.2.2 != 0) a1_0 l1_1) else (quitrentlaw08_CodecBack.j1 kj6 l2 a3 true a1_0 l1_1)) else (quitrentlaw08_CodecBack.j1 kj6 l2 a3 true a1_0 l1_1))) else (none)) = some r := H
          have A17 := Aside0.mk A170
          clear A170
          by_cases c18 : t198.size + a3.size ≤ 9223372036854775807
          · rw [if_pos c18] at H
            have c18b0 := eq_true c18
            have c18b1 : decide (t198.size + a3.size ≤ 9223372036854775807) = true := decide_eq_true c18
            try have c18b2 : (9223372036854775807 < t198.size + a3.size) = False := eq_false (Nat.not_lt.2 c18)
            replace H := Option.bind_eq_some_iff.mp H
            obtain ⟨⟨t199, t200, t201⟩, A190, H⟩ := H
            replace H : (if t199 = a0 then (if t200 = (t198.size : Int) then (quitrentlaw08_CodecBack.j1 kj6 l2 a3 (t201 != 0) a1_0 l1_1) else (quitrentlaw08_CodecBack.j1 kj6 l2 a3 true a1_0 l1_1)) else (quitrentlaw08_CodecBack.j1 kj6 l2 a3 true a1_0 l1_1)) = some r := H
            have A19 := Aside0.mk A190
            clear A190
            have HC20 := Aside0.mk H
            clear H
            go_upto_region 7 with (first | ((with_reducible refine gate_callee (f := 10) rfl ?_); refine goesL_ (some 47) rfl rfl Try.func10 (by kernel_rfl) rfl #[.int .i64 a0] rfl (by (try simp only [List.map_toArray, List.map_cons, List.map_nil]); first | done | rfl | (simp only [List.length_drop, List.length_take]; rfl)) ?_; (with_reducible refine (codec_Number.calls kj6 a0 t198 _ A17.out).mono ?_); rintro e w21 ⟨rfl, hb⟩; refine ⟨_, rfl, ?_⟩; have n0_ := Aside0.mk (blk_below (g := gb195) (o := .cells #[.int .i64 a1_0, .slice A1_1 l1_1.length c1_1] 24 (0, 0)) (by (with_reducible repeat (first | refine blk_drewN ?_ _ | refine blk_drew ?_ | refine blk_alloc ?_ _)); exact BK195.out) hb); have n1_ := Aside0.mk (below_step (by repeat (first | (with_reducible first | exact HB.out | apply below_alloc | apply pw_below_drewN | apply below_drew1 | refine below_set ?_ GE195.out) | exact HB.out)) hb); clear BK195; clear HB; have BK195 := n0_; have HB := n1_; clear n0_ n1_; (try clear hb); (try clear hb2); (try clear hk); (try clear hi)) | ((with_reducible refine gate_callee (f := 11) rfl ?_); refine goesL_ (some 52) rfl rfl Try.func11 (by kernel_rfl) rfl #[.string (t198 ++ a3)] rfl (by (try simp only [List.map_toArray, List.map_cons, List.map_nil]); first | done | rfl | (simp only [List.length_drop, List.length_take]; rfl)) ?_; (with_reducible refine (codec_Take.calls kj6 (t198 ++ a3) t199 t200 t201 _ A19.out).mono ?_); rintro e w' ⟨rfl, ⟨nd, rfl⟩⟩; refine ⟨_, rfl, ?_⟩))
            (try simp only [Act.put, List.setIfInBounds_toArray, List.set_cons_zero, List.set_cons_succ])
            go_cut [68] (fun v68 wc => ∃ (kq : Nat) (x68_19 : Bool), v68 = .bool x68_19 ∧ Aside0 (quitrentlaw08_CodecBack.j1 kq l2 a3 x68_19 a1_0 l1_1 = some r) ∧ Aside0 (kq ≤ kj6) ∧ Aside0 (wc.heap[gb195]? = some (.cells #[.int .i64 a1_0, (.slice A1_1 l1_1.length c1_1)] 24 (0, 0))) ∧ Aside0 (Below w.heap.size w wc))
            case first =>
              have H := HC20.out
              clear HC20
              by_cases c22 : t199 = a0
              · rw [if_pos c22] at H
                have c22b0 : (t199 == a0) = true := beq_iff_eq.mpr c22
                have c22b1 : (t199 != a0) = false := bne_eq_false_iff_eq.mpr c22
                clear c22
                (first | rw [c22b0] | (simp only [i64_w, i32_w]; rw [c22b0]) | skip)
                by_cases c23 : t200 = (t198.size : Int)
                · rw [if_pos c23] at H
                  have c23b0 : (t200 == (t198.size : Int)) = true := beq_iff_eq.mpr c23
                  have c23b1 : (t200 != (t198.size : Int)) = false := bne_eq_false_iff_eq.mpr c23
                  clear c23
                  have H' := Aside0.mk H
                  clear H
                  go_wp2
                  go_meet
                  case rel => exact ⟨_, ((t201 != 0)), (by first | rfl | (simp; done) | (simp [*]; done)), H', ⟨by have := HJ6.out; first | omega | exact Nat.le_refl _⟩, ⟨by (with_reducible repeat (first | refine blk_drewN ?_ _ | refine blk_drew ?_ | refine blk_alloc ?_ _)); exact BK195.out⟩, ⟨by repeat (first | (with_reducible first | exact HB.out | apply below_alloc | apply pw_below_drewN | apply below_drew1 | refine below_set ?_ GE195.out) | exact HB.out)⟩⟩
                · rw [if_neg c23] at H
                  have c23b0 : (t200 == (t198.size : Int)) = false := beq_eq_false_iff_ne.mpr c23
                  have c23b1 : (t200 != (t198.size : Int)) = true := bne_iff_ne.mpr c23
                  have H' := Aside0.mk H
                  clear H
                  go_wp2
                  go_meet
                  case rel => exact ⟨_, (true), (by first | rfl | (simp; done) | (simp [*]; done)), H', ⟨by have := HJ6.out; first | omega | exact Nat.le_refl _⟩, ⟨by (with_reducible repeat (first | refine blk_drewN ?_ _ | refine blk_drew ?_ | refine blk_alloc ?_ _)); exact BK195.out⟩, ⟨by repeat (first | (with_reducible first | exact HB.out | apply below_alloc | apply pw_below_drewN | apply below_drew1 | refine below_set ?_ GE195.out) | exact HB.out)⟩⟩
              · rw [if_neg c22] at H
                have c22b0 : (t199 == a0) = false := beq_eq_false_iff_ne.mpr c22
                have c22b1 : (t199 != a0) = true := bne_iff_ne.mpr c22
                (first | rw [c22b0] | (simp only [i64_w, i32_w]; rw [c22b0]) | skip)
                have H' := Aside0.mk H
                clear H
                go_wp2
                go_meet
                case rel => exact ⟨_, (true), (by first | rfl | (simp; done) | (simp [*]; done)), H', ⟨by have := HJ6.out; first | omega | exact Nat.le_refl _⟩, ⟨by (with_reducible repeat (first | refine blk_drewN ?_ _ | refine blk_drew ?_ | refine blk_alloc ?_ _)); exact BK195.out⟩, ⟨by repeat (first | (with_reducible first | exact HB.out | apply below_alloc | apply pw_below_drewN | apply below_drew1 | refine below_set ?_ GE195.out) | exact HB.out)⟩⟩
            case rest =>
              clear HC20
              try clear c1
              try clear c2
              try clear p2
              try clear c3
              try clear c6
              try clear c8
              try clear c10
              try clear c10b0
              try clear c10b1
              try clear c11
              try clear c13
              try clear c16
              try clear c18
              try clear c18b0
              try clear c18b1
              try clear c18b2
              try clear c22
              try clear c22b0
              try clear c22b1
              try clear c23
              try clear c23b0
              try clear c23b1
              try clear hcz11_0
              try clear hcz11_1
              try clear hcz14_0
              try clear hcz14_1
              try clear hcz15_0
              try clear hcz15_1
              try clear hfz11_0
              try clear hfz11_1
              try clear hfz14_0
              try clear hfz14_1
              try clear hfz15_0
              try clear hfz15_1
              try clear p2
              obtain ⟨kq, x68_19, rfl, HA, HJ19, BK195, HB⟩ := hcut
              cases kq with
              | zero => exact absurd HA.out (by simp [quitrentlaw08_CodecBack.j1])
              | succ kj19 =>
                have H := HA.out
                clear HA
                simp only [quitrentlaw08_CodecBack.j1] at H
                by_cases c24 : x68_19 = true
                · subst c24
                  have H1 : (some false) = some r := by rw [if_pos rfl] at H; exact H
                  clear H
                  have H := H1
                  clear H1
                  obtain rfl := Option.some.inj H
                  go_wp2
                  go_ret
                  exact ⟨by first | rfl | (simp [errW_none, errW_some] <;> rfl) | (simp [*, errW_none, errW_some] <;> rfl), by repeat (first | (with_reducible first | exact HB.out | apply below_alloc | apply pw_below_drewN | apply below_drew1 | refine below_set ?_ GE195.out) | exact HB.out)⟩
                · replace c24 := Bool.eq_false_iff.mpr c24
                  subst c24
                  have H1 : ((codec_Put.f kj19 a1_0 l1_1).bind fun bt202 => (if bt202.2 = 0 then ((codec_Read.f kj19 bt202.1).bind fun bt204 => (if bt204.1 = a1_0 then ((quitrentref08_Longs.f kj19 bt204.2.1 l1_1).bind fun t210 => (if t210 = true then (quitrentlaw08_CodecBack.j2 kj19 l2 a3 bt202.1 (bt204.2.2 != 0)) else (quitrentlaw08_CodecBack.j2 kj19 l2 a3 bt202.1 true))) else (quitrentlaw08_CodecBack.j2 kj19 l2 a3 bt202.1 true))) else (quitrentlaw08_CodecBack.j3 kj19 l2 a3))) = some r := by rw [if_neg (show ¬ (false = true) by decide)] at H; exact H
                  clear H
                  have H := H1
                  clear H1
                  replace H := Option.bind_eq_some_iff.mp H
                  obtain ⟨⟨t202, t203⟩, A250, H⟩ := H
                  replace H : (if t203 = 0 then ((codec_Read.f kj19 t202).bind fun bt204 => (if bt204.1 = a1_0 then ((quitrentref08_Longs.f kj19 bt204.2.1 l1_1).bind fun t210 => (if t210 = true then (quitrentlaw08_CodecBack.j2 kj19 l2 a3 t202 (bt204.2.2 != 0)) else (quitrentlaw08_CodecBack.j2 kj19 l2 a3 t202 true))) else (quitrentlaw08_CodecBack.j2 kj19 l2 a3 t202 true))) else (quitrentlaw08_CodecBack.j3 kj19 l2 a3)) = some r := H
                  have A25 := Aside0.mk A250
                  clear A250
                  have HC26 := Aside0.mk H
                  clear H
                  have hcz27_0 : wc.cell? ⟨gb195, 0, none⟩ = some (.int .i64 a1_0) := (blk_cell BK195.out 0).trans rfl
                  have hcz27_1 : wc.cell? ⟨gb195, 1, none⟩ = some (.slice A1_1 l1_1.length c1_1) := (blk_cell BK195.out 1).trans rfl
                  have hfz27_0 := blk_frozen BK195.out 0
                  have hfz27_1 := blk_frozen BK195.out 1
                  go_upto_if 75 with (first | ((with_reducible refine gate_callee (f := 12) rfl ?_); refine goesL_ (some 71) rfl rfl Try.func12 (by kernel_rfl) rfl #[.agg #[.int .i64 a1_0, .slice A1_1 l1_1.length c1_1]] rfl (by (try simp only [List.map_toArray, List.map_cons, List.map_nil]); first | done | rfl | (simp only [List.length_drop, List.length_take]; rfl)) ?_; (with_reducible refine (codec_Put.calls kj19 a1_0 _ _ l1_1 t202 t203 _ ?side1 ?side2 A25.out).mono ?_); (case side1 => repeat (first | exact (Kd.C_below HR1_1.out HB.out) | (with_reducible refine Kd.C_alloc ?_ _) | (with_reducible refine Kd.C_drewN ?_ _) | (with_reducible refine Kd.C_drew ?_))); (case side2 => exact HC1_1.out); rintro e w28 ⟨rfl, hb⟩; refine ⟨_, rfl, ?_⟩; have n0_ := Aside0.mk (blk_below (g := gb195) (o := .cells #[.int .i64 a1_0, .slice A1_1 l1_1.length c1_1] 24 (0, 0)) (by (with_reducible repeat (first | refine blk_drewN ?_ _ | refine blk_drew ?_ | refine blk_alloc ?_ _)); exact BK195.out) hb); have n1_ := Aside0.mk (below_step (by repeat (first | (with_reducible first | exact HB.out | apply below_alloc | apply pw_below_drewN | apply below_drew1 | refine below_set ?_ GE195.out) | exact HB.out)) hb); clear BK195; clear HB; have BK195 := n0_; have HB := n1_; clear n0_ n1_; (try clear hb); (try clear hb2); (try clear hk); (try clear hi)))
                  (try simp only [Act.put, List.setIfInBounds_toArray, List.set_cons_zero, List.set_cons_succ])
                  go_cut [] (fun wc => ∃ (kq : Nat), Aside0 (quitrentlaw08_CodecBack.j3 kq l2 a3 = some r) ∧ Aside0 (kq ≤ kj19) ∧ Aside0 (wc.heap[gb195]? = some (.cells #[.int .i64 a1_0, (.slice A1_1 l1_1.length c1_1)] 24 (0, 0))) ∧ Aside0 (Below w.heap.size w wc))
                  case first =>
                    have H := HC26.out
                    clear HC26
                    by_cases c29 : t203 = 0
                    · rw [if_pos c29] at H
                      have c29b0 : (t203 == 0) = true := beq_iff_eq.mpr c29
                      have c29b1 : (t203 != 0) = false := bne_eq_false_iff_eq.mpr c29
                      clear c29
                      (first | rw [c29b0] | (simp only [i64_w, i32_w]; rw [c29b0]) | skip)
                      replace H := Option.bind_eq_some_iff.mp H
                      obtain ⟨⟨t204, t205, t208⟩, A300, H⟩ := H
                      replace H : (if t204 = a1_0 then ((quitrentref08_Longs.f kj19 t205 l1_1).bind fun t210 => (if t210 = true then (quitrentlaw08_CodecBack.j2 kj19 l2 a3 t202 (t208 != 0)) else (quitrentlaw08_CodecBack.j2 kj19 l2 a3 t202 true))) else (quitrentlaw08_CodecBack.j2 kj19 l2 a3 t202 true)) = some r := H
                      have A30 := Aside0.mk A300
                      clear A300
                      have HC31 := Aside0.mk H
                      clear H
                      go_upto_region 12 with (first | ((with_reducible refine gate_callee (f := 13) rfl ?_); refine goesL_ (some 78) rfl rfl Try.func13 (by kernel_rfl) rfl #[.string t202] rfl (by (try simp only [List.map_toArray, List.map_cons, List.map_nil]); first | done | rfl | (simp only [List.length_drop, List.length_take]; rfl)) ?_; (with_reducible refine (codec_Read.calls kj19 t202 t204 t205 t208 _ A30.out).mono ?_); rintro e w32 ⟨v206, rfl, ho0, hb⟩; refine ⟨_, rfl, ?_⟩; have n0_ := Aside0.mk (Kd.R_lower ho0 (below_size (by repeat (first | (with_reducible first | exact HB.out | apply below_alloc | apply pw_below_drewN | apply below_drew1 | refine below_set ?_ GE195.out) | exact HB.out)))); have n1_ := Aside0.mk (blk_below (g := gb195) (o := .cells #[.int .i64 a1_0, .slice A1_1 l1_1.length c1_1] 24 (0, 0)) (by (with_reducible repeat (first | refine blk_drewN ?_ _ | refine blk_drew ?_ | refine blk_alloc ?_ _)); exact BK195.out) hb); have n2_ := Aside0.mk (below_step (by repeat (first | (with_reducible first | exact HB.out | apply below_alloc | apply pw_below_drewN | apply below_drew1 | refine below_set ?_ GE195.out) | exact HB.out)) hb); clear BK195; clear HB; have HO207 := n0_; have BK195 := n1_; have HB := n2_; clear n0_ n1_ n2_; (try clear hb); (try clear hb2); (try clear hk); (try clear hi); (try clear ho0)) | ((with_reducible refine gate_dst (N := 15) rfl ?_); (try (refine gate_guard (by rfl) ?_; dsimp only)); refine box_event ?hg (N := 15) ?hd (cs := #[.int .i64 0, .slice none 0 0]) (t := 24) ?hr ?_; (case hd => rfl); (case hg => rfl); (case hr => first | (go_simp; done) | (go_simp; rfl)); intro gb209 hg w33 hbox hb; have n0_ := Aside0.mk (Kd.R_below (by (with_reducible repeat (first | apply Kd.R_alloc | apply Kd.R_drewN | apply Kd.R_drew)); exact HO207.out) hb); have n1_ := Aside0.mk (blk_below (g := gb195) (o := .cells #[.int .i64 a1_0, .slice A1_1 l1_1.length c1_1] 24 (0, 0)) (by (with_reducible repeat (first | refine blk_drewN ?_ _ | refine blk_drew ?_ | refine blk_alloc ?_ _)); exact BK195.out) hb); have n2_ := Aside0.mk (below_step (by repeat (first | (with_reducible first | exact HB.out | apply below_alloc | apply pw_below_drewN | apply below_drew1 | refine below_set ?_ GE195.out) | exact HB.out)) hb); have n3_ := Aside0.mk (hbox); have n4_ := Aside0.mk ((by rw [hg]; exact (below_size (by repeat (first | (with_reducible first | exact HB.out | apply below_alloc | apply pw_below_drewN | apply below_drew1 | refine below_set ?_ GE195.out) | exact HB.out))) : w.heap.size ≤ gb209)); have n5_ := Aside0.mk ((by rw [hg]; exact (below_size (by repeat (first | (with_reducible first | exact HB.out | apply below_alloc | apply pw_below_drewN | apply below_drew1 | refine below_set ?_ GE195.out) | exact HB.out))) : w.heap.size ≤ gb209)); have n6_ := Aside0.mk ((by rw [hg]; exact Nat.ne_of_lt (blk_lt (g := gb195) (o := .cells #[.int .i64 a1_0, .slice A1_1 l1_1.length c1_1] 24 (0, 0)) (by (with_reducible repeat (first | refine blk_drewN ?_ _ | refine blk_drew ?_ | refine blk_alloc ?_ _)); exact BK195.out)) : gb195 ≠ gb209)); have n7_ := Aside0.mk ((by rw [hg]; exact Nat.ne_of_gt (blk_lt (g := gb195) (o := .cells #[.int .i64 a1_0, .slice A1_1 l1_1.length c1_1] 24 (0, 0)) (by (with_reducible repeat (first | refine blk_drewN ?_ _ | refine blk_drew ?_ | refine blk_alloc ?_ _)); exact BK195.out)) : gb209 ≠ gb195)); clear HO207; clear BK195; clear HB; have HO207 := n0_; have BK195 := n1_; have HB := n2_; have BK209 := n3_; have GW209 := n4_; have GE209 := n5_; have NB195_209 := n6_; have NB209_195 := n7_; clear n0_ n1_ n2_ n3_ n4_ n5_ n6_ n7_; clear hb hbox hg; have hnb34 := NB209_195.out; have hnc34 := NB195_209.out; have hcz35_0 : w33.cell? ⟨gb209, 0, none⟩ = some (.int .i64 0) := (blk_cell BK209.out 0).trans rfl; have hcz35_1 : w33.cell? ⟨gb209, 1, none⟩ = some (.slice none 0 0) := (blk_cell BK209.out 1).trans rfl; have hfz35_0 := blk_frozen BK209.out 0; have hfz35_1 := blk_frozen BK209.out 1; obtain ⟨Ao36, co36, eo36⟩ := Kd.R_slice HO207.out; subst eo36))
                      (try simp only [Act.put, List.setIfInBounds_toArray, List.set_cons_zero, List.set_cons_succ])
                      go_cut [97] (fun v97 wc => ∃ (kq : Nat) (x97_30 : Bool), v97 = .bool x97_30 ∧ Aside0 (quitrentlaw08_CodecBack.j2 kq l2 a3 t202 x97_30 = some r) ∧ Aside0 (kq ≤ kj19) ∧ Aside0 (Kd.R (Kd.int .i64) 2 wc w.heap.size (fun _ => True) (.slice Ao36 t205.length co36) t205) ∧ Aside0 (wc.heap[gb195]? = some (.cells #[.int .i64 a1_0, (.slice A1_1 l1_1.length c1_1)] 24 (0, 0))) ∧ Aside0 (wc.heap[gb209]? = some (.cells #[.int .i64 t204, (.slice Ao36 t205.length co36)] 24 (0, 0))) ∧ Aside0 (Below w.heap.size w wc))
                      case first =>
                        have H := HC31.out
                        clear HC31
                        by_cases c37 : t204 = a1_0
                        · rw [if_pos c37] at H
                          have c37b0 : (t204 == a1_0) = true := beq_iff_eq.mpr c37
                          have c37b1 : (t204 != a1_0) = false := bne_eq_false_iff_eq.mpr c37
                          clear c37
                          (first | rw [c37b0] | (simp only [i64_w, i32_w]; rw [c37b0]) | skip)
                          replace H := Option.bind_eq_some_iff.mp H
                          obtain ⟨t210, A380, H⟩ := H
                          replace H : (if t210 = true then (quitrentlaw08_CodecBack.j2 kj19 l2 a3 t202 (t208 != 0)) else (quitrentlaw08_CodecBack.j2 kj19 l2 a3 t202 true)) = some r := H
                          have A38 := Aside0.mk A380
                          clear A380
                          by_cases c39 : t210 = true
                          · subst c39
                            have H1 : (quitrentlaw08_CodecBack.j2 kj19 l2 a3 t202 (t208 != 0)) = some r := by rw [if_pos rfl] at H; exact H
                            clear H
                            have H := H1
                            clear H1
                            have H' := Aside0.mk H
                            clear H
                            have hnb40 := NB209_195.out
                            have hnc40 := NB195_209.out
                            have hcz41_0 : w33.cell? ⟨gb209, 0, none⟩ = some (.int .i64 0) := (blk_cell BK209.out 0).trans rfl
                            have hcz41_1 : w33.cell? ⟨gb209, 1, none⟩ = some (.slice none 0 0) := (blk_cell BK209.out 1).trans rfl
                            have hfz41_0 := blk_frozen BK209.out 0
                            have hfz41_1 := blk_frozen BK209.out 1
                            have hcz42_0 : w33.cell? ⟨gb195, 0, none⟩ = some (.int .i64 a1_0) := (blk_cell BK195.out 0).trans rfl
                            have hcz42_1 : w33.cell? ⟨gb195, 1, none⟩ = some (.slice A1_1 l1_1.length c1_1) := (blk_cell BK195.out 1).trans rfl
                            have hfz42_0 := blk_frozen BK195.out 0
                            have hfz42_1 := blk_frozen BK195.out 1
                            go_wp2_with (first | (go_at_call 14; (with_reducible refine (quitrentref08_Longs.calls kj19 _ _ t205 _ _ l1_1 true _ ?side1 ?side2 ?side3 ?side4 A38.out).mono ?_); (case side1 => refine (Kd.R_reads' (e := 2) (base := w.heap.size) (ok := fun k_ => True) (n := t205.length) (c := co36) ?_).2.2; exact (by (with_reducible repeat (first | apply Kd.R_alloc | apply Kd.R_drewN | apply Kd.R_drew)); exact (Kd.R_mono (Kd.R_far (p := ⟨gb209, 1, none⟩) (Kd.R_far (p := ⟨gb209, 0, none⟩) (Kd.R_types HO207.out BK209.out (by decide)) (fun _ hk => hk.2) (.int .i64 t204)) (fun _ hk => hk.2) (.slice Ao36 t205.length co36)) (fun _ h_ => h_.1)))); (case side2 => exact (Kd.R_reads' HO207.out).2.1); (case side3 => exact Kd.C_below HR1_1.out (by repeat (first | (with_reducible first | exact HB.out | apply below_alloc | apply pw_below_drewN | apply below_drew1 | refine below_set ?_ GE195.out | refine below_set ?_ GE209.out) | exact HB.out))); (case side4 => exact HC1_1.out); rintro e w' ⟨rfl, ⟨nd, rfl⟩⟩))
                            go_meet
                            case rel => exact ⟨_, ((t208 != 0)), (by first | rfl | (simp; done) | (simp [*]; done)), H', ⟨by have := HJ6.out; have := HJ19.out; first | omega | exact Nat.le_refl _⟩, ⟨by (with_reducible repeat (first | apply Kd.R_alloc | apply Kd.R_drewN | apply Kd.R_drew)); exact Kd.R_mono (Kd.R_far (p := ⟨gb209, 1, none⟩) (Kd.R_far (p := ⟨gb209, 0, none⟩) (Kd.R_types HO207.out BK209.out (by decide)) (fun _ hk => hk.2) (.int .i64 t204)) (fun _ hk => hk.2) (.slice Ao36 t205.length co36)) (fun _ hk => trivial)⟩, ⟨by (with_reducible repeat (first | refine blk_drewN ?_ _ | refine blk_drew ?_ | refine blk_alloc ?_ _)); refine blk_far ?_ NB195_209.out _; (with_reducible repeat (first | refine blk_drewN ?_ _ | refine blk_drew ?_ | refine blk_alloc ?_ _)); refine blk_far ?_ NB195_209.out _; (with_reducible repeat (first | refine blk_drewN ?_ _ | refine blk_drew ?_ | refine blk_alloc ?_ _)); exact BK195.out⟩, ⟨by (with_reducible repeat (first | refine blk_drewN ?_ _ | refine blk_drew ?_ | refine blk_alloc ?_ _)); refine blk_put (cs := #[.int .i64 t204, .slice none 0 0]) ?_ 1 _ rfl; (with_reducible repeat (first | refine blk_drewN ?_ _ | refine blk_drew ?_ | refine blk_alloc ?_ _)); refine blk_put (cs := #[.int .i64 0, .slice none 0 0]) ?_ 0 _ rfl; (with_reducible repeat (first | refine blk_drewN ?_ _ | refine blk_drew ?_ | refine blk_alloc ?_ _)); exact BK209.out⟩, ⟨by repeat (first | (with_reducible first | exact HB.out | apply below_alloc | apply pw_below_drewN | apply below_drew1 | refine below_set ?_ GE195.out | refine below_set ?_ GE209.out) | exact HB.out)⟩⟩
                          · replace c39 := Bool.eq_false_iff.mpr c39
                            subst c39
                            have H1 : (quitrentlaw08_CodecBack.j2 kj19 l2 a3 t202 true) = some r := by rw [if_neg (show ¬ (false = true) by decide)] at H; exact H
                            clear H
                            have H := H1
                            clear H1
                            have H' := Aside0.mk H
                            clear H
                            have hnb43 := NB209_195.out
                            have hnc43 := NB195_209.out
                            have hcz44_0 : w33.cell? ⟨gb209, 0, none⟩ = some (.int .i64 0) := (blk_cell BK209.out 0).trans rfl
                            have hcz44_1 : w33.cell? ⟨gb209, 1, none⟩ = some (.slice none 0 0) := (blk_cell BK209.out 1).trans rfl
                            have hfz44_0 := blk_frozen BK209.out 0
                            have hfz44_1 := blk_frozen BK209.out 1
                            have hcz45_0 : w33.cell? ⟨gb195, 0, none⟩ = some (.int .i64 a1_0) := (blk_cell BK195.out 0).trans rfl
                            have hcz45_1 : w33.cell? ⟨gb195, 1, none⟩ = some (.slice A1_1 l1_1.length c1_1) := (blk_cell BK195.out 1).trans rfl
                            have hfz45_0 := blk_frozen BK195.out 0
                            have hfz45_1 := blk_frozen BK195.out 1
                            go_wp2_with (first | (go_at_call 14; (with_reducible refine (quitrentref08_Longs.calls kj19 _ _ t205 _ _ l1_1 false _ ?side1 ?side2 ?side3 ?side4 A38.out).mono ?_); (case side1 => refine (Kd.R_reads' (e := 2) (base := w.heap.size) (ok := fun k_ => True) (n := t205.length) (c := co36) ?_).2.2; exact (by (with_reducible repeat (first | apply Kd.R_alloc | apply Kd.R_drewN | apply Kd.R_drew)); exact (Kd.R_mono (Kd.R_far (p := ⟨gb209, 1, none⟩) (Kd.R_far (p := ⟨gb209, 0, none⟩) (Kd.R_types HO207.out BK209.out (by decide)) (fun _ hk => hk.2) (.int .i64 t204)) (fun _ hk => hk.2) (.slice Ao36 t205.length co36)) (fun _ h_ => h_.1)))); (case side2 => exact (Kd.R_reads' HO207.out).2.1); (case side3 => exact Kd.C_below HR1_1.out (by repeat (first | (with_reducible first | exact HB.out | apply below_alloc | apply pw_below_drewN | apply below_drew1 | refine below_set ?_ GE195.out | refine below_set ?_ GE209.out) | exact HB.out))); (case side4 => exact HC1_1.out); rintro e w' ⟨rfl, ⟨nd, rfl⟩⟩))
                            go_meet
                            case rel => exact ⟨_, (true), (by first | rfl | (simp; done) | (simp [*]; done)), H', ⟨by have := HJ6.out; have := HJ19.out; first | omega | exact Nat.le_refl _⟩, ⟨by (with_reducible repeat (first | apply Kd.R_alloc | apply Kd.R_drewN | apply Kd.R_drew)); exact Kd.R_mono (Kd.R_far (p := ⟨gb209, 1, none⟩) (Kd.R_far (p := ⟨gb209, 0, none⟩) (Kd.R_types HO207.out BK209.out (by decide)) (fun _ hk => hk.2) (.int .i64 t204)) (fun _ hk => hk.2) (.slice Ao36 t205.length co36)) (fun _ hk => trivial)⟩, ⟨by (with_reducible repeat (first | refine blk_drewN ?_ _ | refine blk_drew ?_ | refine blk_alloc ?_ _)); refine blk_far ?_ NB195_209.out _; (with_reducible repeat (first | refine blk_drewN ?_ _ | refine blk_drew ?_ | refine blk_alloc ?_ _)); refine blk_far ?_ NB195_209.out _; (with_reducible repeat (first | refine blk_drewN ?_ _ | refine blk_drew ?_ | refine blk_alloc ?_ _)); exact BK195.out⟩, ⟨by (with_reducible repeat (first | refine blk_drewN ?_ _ | refine blk_drew ?_ | refine blk_alloc ?_ _)); refine blk_put (cs := #[.int .i64 t204, .slice none 0 0]) ?_ 1 _ rfl; (with_reducible repeat (first | refine blk_drewN ?_ _ | refine blk_drew ?_ | refine blk_alloc ?_ _)); refine blk_put (cs := #[.int .i64 0, .slice none 0 0]) ?_ 0 _ rfl; (with_reducible repeat (first | refine blk_drewN ?_ _ | refine blk_drew ?_ | refine blk_alloc ?_ _)); exact BK209.out⟩, ⟨by repeat (first | (with_reducible first | exact HB.out | apply below_alloc | apply pw_below_drewN | apply below_drew1 | refine below_set ?_ GE195.out | refine below_set ?_ GE209.out) | exact HB.out)⟩⟩
                        · rw [if_neg c37] at H
                          have c37b0 : (t204 == a1_0) = false := beq_eq_false_iff_ne.mpr c37
                          have c37b1 : (t204 != a1_0) = true := bne_iff_ne.mpr c37
                          (first | rw [c37b0] | (simp only [i64_w, i32_w]; rw [c37b0]) | skip)
                          have H' := Aside0.mk H
                          clear H
                          have hnb46 := NB209_195.out
                          have hnc46 := NB195_209.out
                          have hcz47_0 : w33.cell? ⟨gb209, 0, none⟩ = some (.int .i64 0) := (blk_cell BK209.out 0).trans rfl
                          have hcz47_1 : w33.cell? ⟨gb209, 1, none⟩ = some (.slice none 0 0) := (blk_cell BK209.out 1).trans rfl
                          have hfz47_0 := blk_frozen BK209.out 0
                          have hfz47_1 := blk_frozen BK209.out 1
                          have hcz48_0 : w33.cell? ⟨gb195, 0, none⟩ = some (.int .i64 a1_0) := (blk_cell BK195.out 0).trans rfl
                          have hcz48_1 : w33.cell? ⟨gb195, 1, none⟩ = some (.slice A1_1 l1_1.length c1_1) := (blk_cell BK195.out 1).trans rfl
                          have hfz48_0 := blk_frozen BK195.out 0
                          have hfz48_1 := blk_frozen BK195.out 1
                          go_wp2
                          go_meet
                          case rel => exact ⟨_, (true), (by first | rfl | (simp; done) | (simp [*]; done)), H', ⟨by have := HJ6.out; have := HJ19.out; first | omega | exact Nat.le_refl _⟩, ⟨by (with_reducible repeat (first | apply Kd.R_alloc | apply Kd.R_drewN | apply Kd.R_drew)); exact Kd.R_mono (Kd.R_far (p := ⟨gb209, 1, none⟩) (Kd.R_far (p := ⟨gb209, 0, none⟩) (Kd.R_types HO207.out BK209.out (by decide)) (fun _ hk => hk.2) (.int .i64 t204)) (fun _ hk => hk.2) (.slice Ao36 t205.length co36)) (fun _ hk => trivial)⟩, ⟨by (with_reducible repeat (first | refine blk_drewN ?_ _ | refine blk_drew ?_ | refine blk_alloc ?_ _)); refine blk_far ?_ NB195_209.out _; (with_reducible repeat (first | refine blk_drewN ?_ _ | refine blk_drew ?_ | refine blk_alloc ?_ _)); refine blk_far ?_ NB195_209.out _; (with_reducible repeat (first | refine blk_drewN ?_ _ | refine blk_drew ?_ | refine blk_alloc ?_ _)); exact BK195.out⟩, ⟨by (with_reducible repeat (first | refine blk_drewN ?_ _ | refine blk_drew ?_ | refine blk_alloc ?_ _)); refine blk_put (cs := #[.int .i64 t204, .slice none 0 0]) ?_ 1 _ rfl; (with_reducible repeat (first | refine blk_drewN ?_ _ | refine blk_drew ?_ | refine blk_alloc ?_ _)); refine blk_put (cs := #[.int .i64 0, .slice none 0 0]) ?_ 0 _ rfl; (with_reducible repeat (first | refine blk_drewN ?_ _ | refine blk_drew ?_ | refine blk_alloc ?_ _)); exact BK209.out⟩, ⟨by repeat (first | (with_reducible first | exact HB.out | apply below_alloc | apply pw_below_drewN | apply below_drew1 | refine below_set ?_ GE195.out | refine below_set ?_ GE209.out) | exact HB.out)⟩⟩
                      case rest =>
                        clear HC31
                        try clear c1
                        try clear c2
                        try clear p2
                        try clear c3
                        try clear c4
                        try clear c6
                        try clear c8
                        try clear c10
                        try clear c10b0
                        try clear c10b1
                        try clear c11
                        try clear c12
                        try clear c13
                        try clear c16
                        try clear c18
                        try clear c18b0
                        try clear c18b1
                        try clear c18b2
                        try clear c22
                        try clear c22b0
                        try clear c22b1
                        try clear c23
                        try clear c23b0
                        try clear c23b1
                        try clear c24
                        try clear c29
                        try clear c29b0
                        try clear c29b1
                        try clear c34
                        try clear c37
                        try clear c37b0
                        try clear c37b1
                        try clear c39
                        try clear c40
                        try clear c43
                        try clear c46
                        try clear hcz11_0
                        try clear hcz11_1
                        try clear hcz14_0
                        try clear hcz14_1
                        try clear hcz15_0
                        try clear hcz15_1
                        try clear hcz27_0
                        try clear hcz27_1
                        try clear hcz35_0
                        try clear hcz35_1
                        try clear hcz41_0
                        try clear hcz41_1
                        try clear hcz42_0
                        try clear hcz42_1
                        try clear hcz44_0
                        try clear hcz44_1
                        try clear hcz45_0
                        try clear hcz45_1
                        try clear hcz47_0
                        try clear hcz47_1
                        try clear hcz48_0
                        try clear hcz48_1
                        try clear hfz11_0
                        try clear hfz11_1
                        try clear hfz14_0
                        try clear hfz14_1
                        try clear hfz15_0
                        try clear hfz15_1
                        try clear hfz27_0
                        try clear hfz27_1
                        try clear hfz35_0
                        try clear hfz35_1
                        try clear hfz41_0
                        try clear hfz41_1
                        try clear hfz42_0
                        try clear hfz42_1
                        try clear hfz44_0
                        try clear hfz44_1
                        try clear hfz45_0
                        try clear hfz45_1
                        try clear hfz47_0
                        try clear hfz47_1
                        try clear hfz48_0
                        try clear hfz48_1
                        try clear p2
                        obtain ⟨kq, x97_30, rfl, HA, HJ30, HO_210001, BK195, BK209, HB⟩ := hcut
                        cases kq with
                        | zero => exact absurd HA.out (by simp [quitrentlaw08_CodecBack.j2])
                        | succ kj30 =>
                          have H := HA.out
                          clear HA
                          simp only [quitrentlaw08_CodecBack.j2] at H
                          by_cases c49 : x97_30 = true
                          · subst c49
                            have H1 : (some false) = some r := by rw [if_pos rfl] at H; exact H
                            clear H
                            have H := H1
                            clear H1
                            obtain rfl := Option.some.inj H
                            go_wp2
                            go_ret
                            exact ⟨by first | rfl | (simp [errW_none, errW_some] <;> rfl) | (simp [*, errW_none, errW_some] <;> rfl), by repeat (first | (with_reducible first | exact HB.out | apply below_alloc | apply pw_below_drewN | apply below_drew1 | refine below_set ?_ GE195.out | refine below_set ?_ GE209.out) | exact HB.out)⟩
                          · replace c49 := Bool.eq_false_iff.mpr c49
                            subst c49
                            have H1 : (if t202.size + 1 ≤ 9223372036854775807 then ((codec_Read.f kj30 (t202 ++ (⟨#[0]⟩ : ByteArray))).bind fun bt211 => (if bt211.2.2 = 2 then (quitrentlaw08_CodecBack.j3 kj30 l2 a3) else (none))) else (none)) = some r := by rw [if_neg (show ¬ (false = true) by decide)] at H; exact H
                            clear H
                            have H := H1
                            clear H1
                            by_cases c50 : t202.size + 1 ≤ 9223372036854775807
                            · rw [if_pos c50] at H
                              have c50b0 := eq_true c50
                              have c50b1 : decide (t202.size + 1 ≤ 9223372036854775807) = true := decide_eq_true c50
                              try have c50b2 : (9223372036854775807 < t202.size + 1) = False := eq_false (Nat.not_lt.2 c50)
                              replace H := Option.bind_eq_some_iff.mp H
                              obtain ⟨⟨t211, t212, t215⟩, A510, H⟩ := H
                              replace H : (if t215 = 2 then (quitrentlaw08_CodecBack.j3 kj30 l2 a3) else (none)) = some r := H
                              have A51 := Aside0.mk A510
                              clear A510
                              by_cases c52 : t215 = 2
                              · rw [if_pos c52] at H
                                have c52b0 : (t215 == 2) = true := beq_iff_eq.mpr c52
                                have c52b1 : (t215 != 2) = false := bne_eq_false_iff_eq.mpr c52
                                clear c52
                                have H' := Aside0.mk H
                                clear H
                                go_wp2_with (first | ((with_reducible refine gate_callee (f := 13) rfl ?_); refine goesL_ (some 101) rfl rfl Try.func13 (by kernel_rfl) rfl #[.string (t202 ++ (⟨#[0]⟩ : ByteArray))] rfl (by (try simp only [List.map_toArray, List.map_cons, List.map_nil]); first | done | rfl | (simp only [List.length_drop, List.length_take]; rfl)) ?_; (with_reducible refine (codec_Read.calls kj30 (t202 ++ (⟨#[0]⟩ : ByteArray)) t211 t212 t215 _ A51.out).mono ?_); rintro e w53 ⟨v213, rfl, ho0, hb⟩; refine ⟨_, rfl, ?_⟩; have n0_ := Aside0.mk (Kd.R_elder' (by (with_reducible repeat (first | apply Kd.R_alloc | apply Kd.R_drewN | apply Kd.R_drew)); exact HO_210001.out) (Kd.R_base ho0) hb); have n1_ := Aside0.mk (Kd.R_lower (Kd.R_new' ho0 (Kd.R_lt (by (with_reducible repeat (first | apply Kd.R_alloc | apply Kd.R_drewN | apply Kd.R_drew)); exact HO_210001.out))) (below_size (by repeat (first | (with_reducible first | exact HB.out | apply below_alloc | apply pw_below_drewN | apply below_drew1 | refine below_set ?_ GE195.out | refine below_set ?_ GE209.out) | exact HB.out)))); have n2_ := Aside0.mk (blk_below (g := gb195) (o := .cells #[.int .i64 a1_0, .slice A1_1 l1_1.length c1_1] 24 (0, 0)) (by (with_reducible repeat (first | refine blk_drewN ?_ _ | refine blk_drew ?_ | refine blk_alloc ?_ _)); exact BK195.out) hb); have n3_ := Aside0.mk (blk_below (g := gb209) (o := .cells #[.int .i64 t204, .slice Ao36 t205.length co36] 24 (0, 0)) (by (with_reducible repeat (first | refine blk_drewN ?_ _ | refine blk_drew ?_ | refine blk_alloc ?_ _)); exact BK209.out) hb); have n4_ := Aside0.mk (below_step (by repeat (first | (with_reducible first | exact HB.out | apply below_alloc | apply pw_below_drewN | apply below_drew1 | refine below_set ?_ GE195.out | refine below_set ?_ GE209.out) | exact HB.out)) hb); clear HO_210001; clear BK195; clear BK209; clear HB; have HO_210001 := n0_; have HO214 := n1_; have BK195 := n2_; have BK209 := n3_; have HB := n4_; clear n0_ n1_ n2_ n3_ n4_; (try clear hb); (try clear hb2); (try clear hk); (try clear hi); (try clear ho0)) | ((with_reducible refine gate_dst (N := 17) rfl ?_); (try (refine gate_guard (by rfl) ?_; dsimp only)); refine box_event ?hg (N := 17) ?hd (cs := #[.int .i64 0, .slice none 0 0]) (t := 24) ?hr ?_; (case hd => rfl); (case hg => rfl); (case hr => first | (go_simp; done) | (go_simp; rfl)); intro gb216 hg w54 hbox hb; have n0_ := Aside0.mk (Kd.R_below (by (with_reducible repeat (first | apply Kd.R_alloc | apply Kd.R_drewN | apply Kd.R_drew)); exact HO_210001.out) hb); have n1_ := Aside0.mk (Kd.R_below (by (with_reducible repeat (first | apply Kd.R_alloc | apply Kd.R_drewN | apply Kd.R_drew)); exact HO214.out) hb); have n2_ := Aside0.mk (blk_below (g := gb195) (o := .cells #[.int .i64 a1_0, .slice A1_1 l1_1.length c1_1] 24 (0, 0)) (by (with_reducible repeat (first | refine blk_drewN ?_ _ | refine blk_drew ?_ | refine blk_alloc ?_ _)); exact BK195.out) hb); have n3_ := Aside0.mk (blk_below (g := gb209) (o := .cells #[.int .i64 t204, .slice Ao36 t205.length co36] 24 (0, 0)) (by (with_reducible repeat (first | refine blk_drewN ?_ _ | refine blk_drew ?_ | refine blk_alloc ?_ _)); exact BK209.out) hb); have n4_ := Aside0.mk (below_step (by repeat (first | (with_reducible first | exact HB.out | apply below_alloc | apply pw_below_drewN | apply below_drew1 | refine below_set ?_ GE195.out | refine below_set ?_ GE209.out) | exact HB.out)) hb); have n5_ := Aside0.mk (hbox); have n6_ := Aside0.mk ((by rw [hg]; exact (below_size (by repeat (first | (with_reducible first | exact HB.out | apply below_alloc | apply pw_below_drewN | apply below_drew1 | refine below_set ?_ GE195.out | refine below_set ?_ GE209.out) | exact HB.out))) : w.heap.size ≤ gb216)); have n7_ := Aside0.mk ((by rw [hg]; exact (below_size (by repeat (first | (with_reducible first | exact HB.out | apply below_alloc | apply pw_below_drewN | apply below_drew1 | refine below_set ?_ GE195.out | refine below_set ?_ GE209.out) | exact HB.out))) : w.heap.size ≤ gb216)); have n8_ := Aside0.mk ((by rw [hg]; exact Nat.ne_of_lt (blk_lt (g := gb195) (o := .cells #[.int .i64 a1_0, .slice A1_1 l1_1.length c1_1] 24 (0, 0)) (by (with_reducible repeat (first | refine blk_drewN ?_ _ | refine blk_drew ?_ | refine blk_alloc ?_ _)); exact BK195.out)) : gb195 ≠ gb216)); have n9_ := Aside0.mk ((by rw [hg]; exact Nat.ne_of_gt (blk_lt (g := gb195) (o := .cells #[.int .i64 a1_0, .slice A1_1 l1_1.length c1_1] 24 (0, 0)) (by (with_reducible repeat (first | refine blk_drewN ?_ _ | refine blk_drew ?_ | refine blk_alloc ?_ _)); exact BK195.out)) : gb216 ≠ gb195)); have n10_ := Aside0.mk ((by rw [hg]; exact Nat.ne_of_lt (blk_lt (g := gb209) (o := .cells #[.int .i64 t204, .slice Ao36 t205.length co36] 24 (0, 0)) (by (with_reducible repeat (first | refine blk_drewN ?_ _ | refine blk_drew ?_ | refine blk_alloc ?_ _)); exact BK209.out)) : gb209 ≠ gb216)); have n11_ := Aside0.mk ((by rw [hg]; exact Nat.ne_of_gt (blk_lt (g := gb209) (o := .cells #[.int .i64 t204, .slice Ao36 t205.length co36] 24 (0, 0)) (by (with_reducible repeat (first | refine blk_drewN ?_ _ | refine blk_drew ?_ | refine blk_alloc ?_ _)); exact BK209.out)) : gb216 ≠ gb209)); clear HO_210001; clear HO214; clear BK195; clear BK209; clear HB; have HO_210001 := n0_; have HO214 := n1_; have BK195 := n2_; have BK209 := n3_; have HB := n4_; have BK216 := n5_; have GW216 := n6_; have GE216 := n7_; have NB195_216 := n8_; have NB216_195 := n9_; have NB209_216 := n10_; have NB216_209 := n11_; clear n0_ n1_ n2_ n3_ n4_ n5_ n6_ n7_ n8_ n9_ n10_ n11_; clear hb hbox hg; have hnb55 := NB216_195.out; have hnc55 := NB195_216.out; have hnb56 := NB216_209.out; have hnc56 := NB209_216.out; have hcz57_0 : w54.cell? ⟨gb216, 0, none⟩ = some (.int .i64 0) := (blk_cell BK216.out 0).trans rfl; have hcz57_1 : w54.cell? ⟨gb216, 1, none⟩ = some (.slice none 0 0) := (blk_cell BK216.out 1).trans rfl; have hfz57_0 := blk_frozen BK216.out 0; have hfz57_1 := blk_frozen BK216.out 1; obtain ⟨Ao58, co58, eo58⟩ := Kd.R_slice HO214.out; subst eo58))
                                go_meet
                                case rel => exact ⟨_, H', ⟨by have := HJ6.out; have := HJ19.out; have := HJ30.out; first | omega | exact Nat.le_refl _⟩, ⟨by (with_reducible repeat (first | refine blk_drewN ?_ _ | refine blk_drew ?_ | refine blk_alloc ?_ _)); refine blk_far ?_ NB195_216.out _; (with_reducible repeat (first | refine blk_drewN ?_ _ | refine blk_drew ?_ | refine blk_alloc ?_ _)); refine blk_far ?_ NB195_216.out _; (with_reducible repeat (first | refine blk_drewN ?_ _ | refine blk_drew ?_ | refine blk_alloc ?_ _)); exact BK195.out⟩, ⟨by repeat (first | (with_reducible first | exact HB.out | apply below_alloc | apply pw_below_drewN | apply below_drew1 | refine below_set ?_ GE195.out | refine below_set ?_ GE209.out | refine below_set ?_ GE216.out) | exact HB.out)⟩⟩
                              · rw [if_neg c52] at H; cases H
                            · rw [if_neg c50] at H; cases H
                    · rw [if_neg c29] at H
                      have c29b0 : (t203 == 0) = false := beq_eq_false_iff_ne.mpr c29
                      have c29b1 : (t203 != 0) = true := bne_iff_ne.mpr c29
                      (first | rw [c29b0] | (simp only [i64_w, i32_w]; rw [c29b0]) | skip)
                      have H' := Aside0.mk H
                      clear H
                      go_wp2
                      go_meet
                      case rel => exact ⟨_, H', ⟨by have := HJ6.out; have := HJ19.out; first | omega | exact Nat.le_refl _⟩, ⟨by (with_reducible repeat (first | refine blk_drewN ?_ _ | refine blk_drew ?_ | refine blk_alloc ?_ _)); exact BK195.out⟩, ⟨by repeat (first | (with_reducible first | exact HB.out | apply below_alloc | apply pw_below_drewN | apply below_drew1 | refine below_set ?_ GE195.out) | exact HB.out)⟩⟩
                  case rest =>
                    clear HC26
                    try clear c1
                    try clear c2
                    try clear p2
                    try clear c3
                    try clear c4
                    try clear c5
                    try clear c6
                    try clear c8
                    try clear c10
                    try clear c10b0
                    try clear c10b1
                    try clear c11
                    try clear c12
                    try clear c13
                    try clear c16
                    try clear c18
                    try clear c18b0
                    try clear c18b1
                    try clear c18b2
                    try clear c22
                    try clear c22b0
                    try clear c22b1
                    try clear c23
                    try clear c23b0
                    try clear c23b1
                    try clear c24
                    try clear c29
                    try clear c29b0
                    try clear c29b1
                    try clear c34
                    try clear c37
                    try clear c37b0
                    try clear c37b1
                    try clear c39
                    try clear c40
                    try clear c43
                    try clear c46
                    try clear c49
                    try clear c50
                    try clear c50b0
                    try clear c50b1
                    try clear c50b2
                    try clear c52
                    try clear c52b0
                    try clear c52b1
                    try clear c55
                    try clear c56
                    try clear c61
                    try clear c62
                    try clear hcz11_0
                    try clear hcz11_1
                    try clear hcz14_0
                    try clear hcz14_1
                    try clear hcz15_0
                    try clear hcz15_1
                    try clear hcz27_0
                    try clear hcz27_1
                    try clear hcz35_0
                    try clear hcz35_1
                    try clear hcz41_0
                    try clear hcz41_1
                    try clear hcz42_0
                    try clear hcz42_1
                    try clear hcz44_0
                    try clear hcz44_1
                    try clear hcz45_0
                    try clear hcz45_1
                    try clear hcz47_0
                    try clear hcz47_1
                    try clear hcz48_0
                    try clear hcz48_1
                    try clear hcz57_0
                    try clear hcz57_1
                    try clear hcz63_0
                    try clear hcz63_1
                    try clear hfz11_0
                    try clear hfz11_1
                    try clear hfz14_0
                    try clear hfz14_1
                    try clear hfz15_0
                    try clear hfz15_1
                    try clear hfz27_0
                    try clear hfz27_1
                    try clear hfz35_0
                    try clear hfz35_1
                    try clear hfz41_0
                    try clear hfz41_1
                    try clear hfz42_0
                    try clear hfz42_1
                    try clear hfz44_0
                    try clear hfz44_1
                    try clear hfz45_0
                    try clear hfz45_1
                    try clear hfz47_0
                    try clear hfz47_1
                    try clear hfz48_0
                    try clear hfz48_1
                    try clear hfz57_0
                    try clear hfz57_1
                    try clear hfz63_0
                    try clear hfz63_1
                    try clear p2
                    obtain ⟨kq, HA, HJ25, BK195, HB⟩ := hcut
                    cases kq with
                    | zero => exact absurd HA.out (by simp [quitrentlaw08_CodecBack.j3])
                    | succ kj25 =>
                      have H := HA.out
                      clear HA
                      simp only [quitrentlaw08_CodecBack.j3] at H
                      replace H := Option.bind_eq_some_iff.mp H
                      obtain ⟨⟨t217, t218, t221⟩, A650, H⟩ := H
                      replace H : (if t221 = 0 then ((codec_Put.f kj25 t217 t218).bind fun bt223 => (if bt223.1.toList = a3.toList then (if bt223.2 = 0 then (quitrentlaw08_CodecBack.j4 kj25 l2 a3) else (none)) else (none))) else (quitrentlaw08_CodecBack.j4 kj25 l2 a3)) = some r := H
                      have A65 := Aside0.mk A650
                      clear A650
                      have HC66 := Aside0.mk H
                      clear H
                      go_upto_if 112 with (first | ((with_reducible refine gate_callee (f := 13) rfl ?_); refine goesL_ (some 108) rfl rfl Try.func13 (by kernel_rfl) rfl #[.string a3] rfl (by (try simp only [List.map_toArray, List.map_cons, List.map_nil]); first | done | rfl | (simp only [List.length_drop, List.length_take]; rfl)) ?_; (with_reducible refine (codec_Read.calls kj25 a3 t217 t218 t221 _ A65.out).mono ?_); rintro e w67 ⟨v219, rfl, ho0, hb⟩; refine ⟨_, rfl, ?_⟩; have n0_ := Aside0.mk (Kd.R_lower ho0 (below_size (by repeat (first | (with_reducible first | exact HB.out | apply below_alloc | apply pw_below_drewN | apply below_drew1 | refine below_set ?_ GE195.out) | exact HB.out)))); have n1_ := Aside0.mk (blk_below (g := gb195) (o := .cells #[.int .i64 a1_0, .slice A1_1 l1_1.length c1_1] 24 (0, 0)) (by (with_reducible repeat (first | refine blk_drewN ?_ _ | refine blk_drew ?_ | refine blk_alloc ?_ _)); exact BK195.out) hb); have n2_ := Aside0.mk (below_step (by repeat (first | (with_reducible first | exact HB.out | apply below_alloc | apply pw_below_drewN | apply below_drew1 | refine below_set ?_ GE195.out) | exact HB.out)) hb); clear BK195; clear HB; have HO220 := n0_; have BK195 := n1_; have HB := n2_; clear n0_ n1_ n2_; (try clear hb); (try clear hb2); (try clear hk); (try clear hi); (try clear ho0)) | ((with_reducible refine gate_dst (N := 19) rfl ?_); (try (refine gate_guard (by rfl) ?_; dsimp only)); refine box_event ?hg (N := 19) ?hd (cs := #[.int .i64 0, .slice none 0 0]) (t := 24) ?hr ?_; (case hd => rfl); (case hg => rfl); (case hr => first | (go_simp; done) | (go_simp; rfl)); intro gb222 hg w68 hbox hb; have n0_ := Aside0.mk (Kd.R_below (by (with_reducible repeat (first | apply Kd.R_alloc | apply Kd.R_drewN | apply Kd.R_drew)); exact HO220.out) hb); have n1_ := Aside0.mk (blk_below (g := gb195) (o := .cells #[.int .i64 a1_0, .slice A1_1 l1_1.length c1_1] 24 (0, 0)) (by (with_reducible repeat (first | refine blk_drewN ?_ _ | refine blk_drew ?_ | refine blk_alloc ?_ _)); exact BK195.out) hb); have n2_ := Aside0.mk (below_step (by repeat (first | (with_reducible first | exact HB.out | apply below_alloc | apply pw_below_drewN | apply below_drew1 | refine below_set ?_ GE195.out) | exact HB.out)) hb); have n3_ := Aside0.mk (hbox); have n4_ := Aside0.mk ((by rw [hg]; exact (below_size (by repeat (first | (with_reducible first | exact HB.out | apply below_alloc | apply pw_below_drewN | apply below_drew1 | refine below_set ?_ GE195.out) | exact HB.out))) : w.heap.size ≤ gb222)); have n5_ := Aside0.mk ((by rw [hg]; exact (below_size (by repeat (first | (with_reducible first | exact HB.out | apply below_alloc | apply pw_below_drewN | apply below_drew1 | refine below_set ?_ GE195.out) | exact HB.out))) : w.heap.size ≤ gb222)); have n6_ := Aside0.mk ((by rw [hg]; exact Nat.ne_of_lt (blk_lt (g := gb195) (o := .cells #[.int .i64 a1_0, .slice A1_1 l1_1.length c1_1] 24 (0, 0)) (by (with_reducible repeat (first | refine blk_drewN ?_ _ | refine blk_drew ?_ | refine blk_alloc ?_ _)); exact BK195.out)) : gb195 ≠ gb222)); have n7_ := Aside0.mk ((by rw [hg]; exact Nat.ne_of_gt (blk_lt (g := gb195) (o := .cells #[.int .i64 a1_0, .slice A1_1 l1_1.length c1_1] 24 (0, 0)) (by (with_reducible repeat (first | refine blk_drewN ?_ _ | refine blk_drew ?_ | refine blk_alloc ?_ _)); exact BK195.out)) : gb222 ≠ gb195)); clear HO220; clear BK195; clear HB; have HO220 := n0_; have BK195 := n1_; have HB := n2_; have BK222 := n3_; have GW222 := n4_; have GE222 := n5_; have NB195_222 := n6_; have NB222_195 := n7_; clear n0_ n1_ n2_ n3_ n4_ n5_ n6_ n7_; clear hb hbox hg; have hnb69 := NB222_195.out; have hnc69 := NB195_222.out; have hcz70_0 : w68.cell? ⟨gb222, 0, none⟩ = some (.int .i64 0) := (blk_cell BK222.out 0).trans rfl; have hcz70_1 : w68.cell? ⟨gb222, 1, none⟩ = some (.slice none 0 0) := (blk_cell BK222.out 1).trans rfl; have hfz70_0 := blk_frozen BK222.out 0; have hfz70_1 := blk_frozen BK222.out 1; obtain ⟨Ao71, co71, eo71⟩ := Kd.R_slice HO220.out; subst eo71))
                      (try simp only [Act.put, List.setIfInBounds_toArray, List.set_cons_zero, List.set_cons_succ])
                      go_cut [] (fun wc => ∃ (kq : Nat), Aside0 (quitrentlaw08_CodecBack.j4 kq l2 a3 = some r) ∧ Aside0 (kq ≤ kj25) ∧ Aside0 (Kd.R (Kd.int .i64) 2 wc w.heap.size (fun _ => True) (.slice Ao71 t218.length co71) t218) ∧ Aside0 (wc.heap[gb195]? = some (.cells #[.int .i64 a1_0, (.slice A1_1 l1_1.length c1_1)] 24 (0, 0))) ∧ Aside0 (wc.heap[gb222]? = some (.cells #[.int .i64 t217, (.slice Ao71 t218.length co71)] 24 (0, 0))) ∧ Aside0 (Below w.heap.size w wc))
                      case first =>
                        have H := HC66.out
                        clear HC66
                        by_cases c72 : t221 = 0
                        · rw [if_pos c72] at H
                          have c72b0 : (t221 == 0) = true := beq_iff_eq.mpr c72
                          have c72b1 : (t221 != 0) = false := bne_eq_false_iff_eq.mpr c72
                          clear c72
                          (first | rw [c72b0] | (simp only [i64_w, i32_w]; rw [c72b0]) | skip)
                          replace H := Option.bind_eq_some_iff.mp H
                          obtain ⟨⟨t223, t224⟩, A730, H⟩ := H
                          replace H : (if t223.toList = a3.toList then (if t224 = 0 then (quitrentlaw08_CodecBack.j4 kj25 l2 a3) else (none)) else (none)) = some r := H
                          have A73 := Aside0.mk A730
                          clear A730
                          by_cases c74 : t223.toList = a3.toList
                          · rw [if_pos c74] at H
                            have c74b0 : (t223.toList == a3.toList) = true := beq_iff_eq.mpr c74
                            have c74b1 : (t223.toList != a3.toList) = false := bne_eq_false_iff_eq.mpr c74
                            clear c74
                            by_cases c75 : t224 = 0
                            · rw [if_pos c75] at H
                              have c75b0 : (t224 == 0) = true := beq_iff_eq.mpr c75
                              have c75b1 : (t224 != 0) = false := bne_eq_false_iff_eq.mpr c75
                              clear c75
                              have H' := Aside0.mk H
                              clear H
                              have hnb76 := NB222_195.out
                              have hnc76 := NB195_222.out
                              have hcz77_0 : w68.cell? ⟨gb222, 0, none⟩ = some (.int .i64 0) := (blk_cell BK222.out 0).trans rfl
                              have hcz77_1 : w68.cell? ⟨gb222, 1, none⟩ = some (.slice none 0 0) := (blk_cell BK222.out 1).trans rfl
                              have hfz77_0 := blk_frozen BK222.out 0
                              have hfz77_1 := blk_frozen BK222.out 1
                              go_wp2_with (first | ((with_reducible refine gate_callee (f := 12) rfl ?_); refine goesL_ (some 115) rfl rfl Try.func12 (by kernel_rfl) rfl #[.agg #[.int .i64 t217, .slice Ao71 t218.length co71]] rfl (by (try simp only [List.map_toArray, List.map_cons, List.map_nil]); first | done | rfl | (simp only [List.length_drop, List.length_take]; rfl)) ?_; (with_reducible refine (codec_Put.calls kj25 t217 _ _ t218 t223 t224 _ ?side1 ?side2 A73.out).mono ?_); (case side1 => refine (Kd.R_reads' (e := 2) (base := w.heap.size) (ok := fun k_ => True) (n := t218.length) (c := co71) ?_).2.2; exact (by (with_reducible repeat (first | apply Kd.R_alloc | apply Kd.R_drewN | apply Kd.R_drew)); exact (Kd.R_mono (Kd.R_far (p := ⟨gb222, 1, none⟩) (Kd.R_far (p := ⟨gb222, 0, none⟩) (Kd.R_types HO220.out BK222.out (by decide)) (fun _ hk => hk.2) (.int .i64 t217)) (fun _ hk => hk.2) (.slice Ao71 t218.length co71)) (fun _ h_ => h_.1)))); (case side2 => exact (Kd.R_reads' HO220.out).2.1); rintro e w78 ⟨rfl, hb⟩; refine ⟨_, rfl, ?_⟩; have n0_ := Aside0.mk (Kd.R_below (by (with_reducible repeat (first | apply Kd.R_alloc | apply Kd.R_drewN | apply Kd.R_drew)); exact (Kd.R_mono (Kd.R_far (p := ⟨gb222, 1, none⟩) (Kd.R_far (p := ⟨gb222, 0, none⟩) (Kd.R_types HO220.out BK222.out (by decide)) (fun _ hk => hk.2) (.int .i64 t217)) (fun _ hk => hk.2) (.slice Ao71 t218.length co71)) (fun _ h_ => h_.1))) hb); have n1_ := Aside0.mk (blk_below (g := gb195) (o := .cells #[.int .i64 a1_0, .slice A1_1 l1_1.length c1_1] 24 (0, 0)) (by (with_reducible repeat (first | refine blk_drewN ?_ _ | refine blk_drew ?_ | refine blk_alloc ?_ _)); refine blk_far ?_ NB195_222.out _; (with_reducible repeat (first | refine blk_drewN ?_ _ | refine blk_drew ?_ | refine blk_alloc ?_ _)); refine blk_far ?_ NB195_222.out _; (with_reducible repeat (first | refine blk_drewN ?_ _ | refine blk_drew ?_ | refine blk_alloc ?_ _)); exact BK195.out) hb); have n2_ := Aside0.mk (blk_below (g := gb222) (o := .cells #[.int .i64 t217, .slice Ao71 t218.length co71] 24 (0, 0)) (by (with_reducible repeat (first | refine blk_drewN ?_ _ | refine blk_drew ?_ | refine blk_alloc ?_ _)); refine blk_put (cs := #[.int .i64 t217, .slice none 0 0]) ?_ 1 _ rfl; (with_reducible repeat (first | refine blk_drewN ?_ _ | refine blk_drew ?_ | refine blk_alloc ?_ _)); refine blk_put (cs := #[.int .i64 0, .slice none 0 0]) ?_ 0 _ rfl; (with_reducible repeat (first | refine blk_drewN ?_ _ | refine blk_drew ?_ | refine blk_alloc ?_ _)); exact BK222.out) hb); have n3_ := Aside0.mk (below_step (by repeat (first | (with_reducible first | exact HB.out | apply below_alloc | apply pw_below_drewN | apply below_drew1 | refine below_set ?_ GE195.out | refine below_set ?_ GE222.out) | exact HB.out)) hb); clear HO220; clear BK195; clear BK222; clear HB; have HO220 := n0_; have BK195 := n1_; have BK222 := n2_; have HB := n3_; clear n0_ n1_ n2_ n3_; (try clear hb); (try clear hb2); (try clear hk); (try clear hi)))
                              go_meet
                              case rel => exact ⟨_, H', ⟨by have := HJ6.out; have := HJ19.out; have := HJ25.out; first | omega | exact Nat.le_refl _⟩, ⟨by (with_reducible repeat (first | apply Kd.R_alloc | apply Kd.R_drewN | apply Kd.R_drew)); exact HO220.out⟩, ⟨by (with_reducible repeat (first | refine blk_drewN ?_ _ | refine blk_drew ?_ | refine blk_alloc ?_ _)); exact BK195.out⟩, ⟨by (with_reducible repeat (first | refine blk_drewN ?_ _ | refine blk_drew ?_ | refine blk_alloc ?_ _)); exact BK222.out⟩, ⟨by repeat (first | (with_reducible first | exact HB.out | apply below_alloc | apply pw_below_drewN | apply below_drew1 | refine below_set ?_ GE195.out | refine below_set ?_ GE222.out) | exact HB.out)⟩⟩
                            · rw [if_neg c75] at H; cases H
                          · rw [if_neg c74] at H; cases H
                        · rw [if_neg c72] at H
                          have c72b0 : (t221 == 0) = false := beq_eq_false_iff_ne.mpr c72
                          have c72b1 : (t221 != 0) = true := bne_iff_ne.mpr c72
                          (first | rw [c72b0] | (simp only [i64_w, i32_w]; rw [c72b0]) | skip)
                          have H' := Aside0.mk H
                          clear H
                          go_wp2
                          go_meet
                          case rel => exact ⟨_, H', ⟨by have := HJ6.out; have := HJ19.out; have := HJ25.out; first | omega | exact Nat.le_refl _⟩, ⟨by (with_reducible repeat (first | apply Kd.R_alloc | apply Kd.R_drewN | apply Kd.R_drew)); exact Kd.R_mono (Kd.R_far (p := ⟨gb222, 1, none⟩) (Kd.R_far (p := ⟨gb222, 0, none⟩) (Kd.R_types HO220.out BK222.out (by decide)) (fun _ hk => hk.2) (.int .i64 t217)) (fun _ hk => hk.2) (.slice Ao71 t218.length co71)) (fun _ hk => trivial)⟩, ⟨by (with_reducible repeat (first | refine blk_drewN ?_ _ | refine blk_drew ?_ | refine blk_alloc ?_ _)); refine blk_far ?_ NB195_222.out _; (with_reducible repeat (first | refine blk_drewN ?_ _ | refine blk_drew ?_ | refine blk_alloc ?_ _)); refine blk_far ?_ NB195_222.out _; (with_reducible repeat (first | refine blk_drewN ?_ _ | refine blk_drew ?_ | refine blk_alloc ?_ _)); exact BK195.out⟩, ⟨by (with_reducible repeat (first | refine blk_drewN ?_ _ | refine blk_drew ?_ | refine blk_alloc ?_ _)); refine blk_put (cs := #[.int .i64 t217, .slice none 0 0]) ?_ 1 _ rfl; (with_reducible repeat (first | refine blk_drewN ?_ _ | refine blk_drew ?_ | refine blk_alloc ?_ _)); refine blk_put (cs := #[.int .i64 0, .slice none 0 0]) ?_ 0 _ rfl; (with_reducible repeat (first | refine blk_drewN ?_ _ | refine blk_drew ?_ | refine blk_alloc ?_ _)); exact BK222.out⟩, ⟨by repeat (first | (with_reducible first | exact HB.out | apply below_alloc | apply pw_below_drewN | apply below_drew1 | refine below_set ?_ GE195.out | refine below_set ?_ GE222.out) | exact HB.out)⟩⟩
                      case rest =>
                        clear HC66
                        try clear c1
                        try clear c2
                        try clear p2
                        try clear c3
                        try clear c4
                        try clear c5
                        try clear c6
                        try clear c7
                        try clear c8
                        try clear c10
                        try clear c10b0
                        try clear c10b1
                        try clear c11
                        try clear c12
                        try clear c13
                        try clear c16
                        try clear c18
                        try clear c18b0
                        try clear c18b1
                        try clear c18b2
                        try clear c22
                        try clear c22b0
                        try clear c22b1
                        try clear c23
                        try clear c23b0
                        try clear c23b1
                        try clear c24
                        try clear c29
                        try clear c29b0
                        try clear c29b1
                        try clear c34
                        try clear c37
                        try clear c37b0
                        try clear c37b1
                        try clear c39
                        try clear c40
                        try clear c43
                        try clear c46
                        try clear c49
                        try clear c50
                        try clear c50b0
                        try clear c50b1
                        try clear c50b2
                        try clear c52
                        try clear c52b0
                        try clear c52b1
                        try clear c55
                        try clear c56
                        try clear c61
                        try clear c62
                        try clear c69
                        try clear c72
                        try clear c72b0
                        try clear c72b1
                        try clear c74
                        try clear c74b0
                        try clear c74b1
                        try clear c75
                        try clear c75b0
                        try clear c75b1
                        try clear c76
                        try clear c79
                        try clear c82
                        try clear hcz11_0
                        try clear hcz11_1
                        try clear hcz14_0
                        try clear hcz14_1
                        try clear hcz15_0
                        try clear hcz15_1
                        try clear hcz27_0
                        try clear hcz27_1
                        try clear hcz35_0
                        try clear hcz35_1
                        try clear hcz41_0
                        try clear hcz41_1
                        try clear hcz42_0
                        try clear hcz42_1
                        try clear hcz44_0
                        try clear hcz44_1
                        try clear hcz45_0
                        try clear hcz45_1
                        try clear hcz47_0
                        try clear hcz47_1
                        try clear hcz48_0
                        try clear hcz48_1
                        try clear hcz57_0
                        try clear hcz57_1
                        try clear hcz63_0
                        try clear hcz63_1
                        try clear hcz70_0
                        try clear hcz70_1
                        try clear hcz77_0
                        try clear hcz77_1
                        try clear hcz80_0
                        try clear hcz80_1
                        try clear hcz83_0
                        try clear hcz83_1
                        try clear hfz11_0
                        try clear hfz11_1
                        try clear hfz14_0
                        try clear hfz14_1
                        try clear hfz15_0
                        try clear hfz15_1
                        try clear hfz27_0
                        try clear hfz27_1
                        try clear hfz35_0
                        try clear hfz35_1
                        try clear hfz41_0
                        try clear hfz41_1
                        try clear hfz42_0
                        try clear hfz42_1
                        try clear hfz44_0
                        try clear hfz44_1
                        try clear hfz45_0
                        try clear hfz45_1
                        try clear hfz47_0
                        try clear hfz47_1
                        try clear hfz48_0
                        try clear hfz48_1
                        try clear hfz57_0
                        try clear hfz57_1
                        try clear hfz63_0
                        try clear hfz63_1
                        try clear hfz70_0
                        try clear hfz70_1
                        try clear hfz77_0
                        try clear hfz77_1
                        try clear hfz80_0
                        try clear hfz80_1
                        try clear hfz83_0
                        try clear hfz83_1
                        try clear p2
                        obtain ⟨kq, HA, HJ65, HO_223001, BK195, BK222, HB⟩ := hcut
                        cases kq with
                        | zero => exact absurd HA.out (by simp [quitrentlaw08_CodecBack.j4])
                        | succ kj65 =>
                          have H := HA.out
                          clear HA
                          simp only [quitrentlaw08_CodecBack.j4] at H
                          replace H := Option.bind_eq_some_iff.mp H
                          obtain ⟨⟨t225, t226⟩, A850, H⟩ := H
                          replace H : (if t226 = 0 then ((codec_Parts.f kj65 t225).bind fun bt227 => ((quitrentref06_Same.f kj65 bt227.1 l2).bind fun t231 => (if t231 = true then (if bt227.2 = 0 then (quitrentlaw08_CodecBack.j5 kj65 a3) else (none)) else (none)))) else (quitrentlaw08_CodecBack.j5 kj65 a3)) = some r := H
                          have A85 := Aside0.mk A850
                          clear A850
                          have HC86 := Aside0.mk H
                          clear H
                          go_upto_if 131 with (first | ((with_reducible refine gate_callee (f := 15) rfl ?_); refine goesL_ (some 127) rfl rfl Try.func15 (by kernel_rfl) rfl #[.slice A2 l2.length c2] rfl (by (try simp only [List.map_toArray, List.map_cons, List.map_nil]); first | done | rfl | (simp only [List.length_drop, List.length_take]; rfl)) ?_; (with_reducible refine (codec_List.calls kj65 _ _ l2 t225 t226 _ ?side1 ?side2 A85.out).mono ?_); (case side1 => repeat (first | exact (Kd.C_below HR2.out HB.out) | (with_reducible refine Kd.C_alloc ?_ _) | (with_reducible refine Kd.C_drewN ?_ _) | (with_reducible refine Kd.C_drew ?_))); (case side2 => exact HC2.out); rintro e w87 ⟨rfl, hb⟩; refine ⟨_, rfl, ?_⟩; have n0_ := Aside0.mk (Kd.R_below (by (with_reducible repeat (first | apply Kd.R_alloc | apply Kd.R_drewN | apply Kd.R_drew)); exact HO_223001.out) hb); have n1_ := Aside0.mk (blk_below (g := gb195) (o := .cells #[.int .i64 a1_0, .slice A1_1 l1_1.length c1_1] 24 (0, 0)) (by (with_reducible repeat (first | refine blk_drewN ?_ _ | refine blk_drew ?_ | refine blk_alloc ?_ _)); exact BK195.out) hb); have n2_ := Aside0.mk (blk_below (g := gb222) (o := .cells #[.int .i64 t217, .slice Ao71 t218.length co71] 24 (0, 0)) (by (with_reducible repeat (first | refine blk_drewN ?_ _ | refine blk_drew ?_ | refine blk_alloc ?_ _)); exact BK222.out) hb); have n3_ := Aside0.mk (below_step (by repeat (first | (with_reducible first | exact HB.out | apply below_alloc | apply pw_below_drewN | apply below_drew1 | refine below_set ?_ GE195.out | refine below_set ?_ GE222.out) | exact HB.out)) hb); clear HO_223001; clear BK195; clear BK222; clear HB; have HO_223001 := n0_; have BK195 := n1_; have BK222 := n2_; have HB := n3_; clear n0_ n1_ n2_ n3_; (try clear hb); (try clear hb2); (try clear hk); (try clear hi)))
                          (try simp only [Act.put, List.setIfInBounds_toArray, List.set_cons_zero, List.set_cons_succ])
                          go_cut [] (fun wc => ∃ (kq : Nat), Aside0 (quitrentlaw08_CodecBack.j5 kq a3 = some r) ∧ Aside0 (kq ≤ kj65) ∧ Aside0 (Kd.R (Kd.int .i64) 2 wc w.heap.size (fun _ => True) (.slice Ao71 t218.length co71) t218) ∧ Aside0 (wc.heap[gb195]? = some (.cells #[.int .i64 a1_0, (.slice A1_1 l1_1.length c1_1)] 24 (0, 0))) ∧ Aside0 (wc.heap[gb222]? = some (.cells #[.int .i64 t217, (.slice Ao71 t218.length co71)] 24 (0, 0))) ∧ Aside0 (Below w.heap.size w wc))
                          case first =>
                            have H := HC86.out
                            clear HC86
                            by_cases c88 : t226 = 0
                            · rw [if_pos c88] at H
                              have c88b0 : (t226 == 0) = true := beq_iff_eq.mpr c88
                              have c88b1 : (t226 != 0) = false := bne_eq_false_iff_eq.mpr c88
                              clear c88
                              (first | rw [c88b0] | (simp only [i64_w, i32_w]; rw [c88b0]) | skip)
                              replace H := Option.bind_eq_some_iff.mp H
                              obtain ⟨⟨t227, t228⟩, A890, H⟩ := H
                              replace H : ((quitrentref06_Same.f kj65 t227 l2).bind fun t231 => (if t231 = true then (if t228 = 0 then (quitrentlaw08_CodecBack.j5 kj65 a3) else (none)) else (none))) = some r := H
                              have A89 := Aside0.mk A890
                              clear A890
                              replace H := Option.bind_eq_some_iff.mp H
                              obtain ⟨t231, A900, H⟩ := H
                              replace H : (if t231 = true then (if t228 = 0 then (quitrentlaw08_CodecBack.j5 kj65 a3) else (none)) else (none)) = some r := H
                              have A90 := Aside0.mk A900
                              clear A900
                              by_cases c91 : t231 = true
                              · subst c91
                                have H1 : (if t228 = 0 then (quitrentlaw08_CodecBack.j5 kj65 a3) else (none)) = some r := by rw [if_pos rfl] at H; exact H
                                clear H
                                have H := H1
                                clear H1
                                by_cases c92 : t228 = 0
                                · rw [if_pos c92] at H
                                  have c92b0 : (t228 == 0) = true := beq_iff_eq.mpr c92
                                  have c92b1 : (t228 != 0) = false := bne_eq_false_iff_eq.mpr c92
                                  clear c92
                                  have H' := Aside0.mk H
                                  clear H
                                  go_wp2_with (first | ((with_reducible refine gate_callee (f := 16) rfl ?_); refine goesL_ (some 134) rfl rfl Try.func16 (by kernel_rfl) rfl #[.string t225] rfl (by (try simp only [List.map_toArray, List.map_cons, List.map_nil]); first | done | rfl | (simp only [List.length_drop, List.length_take]; rfl)) ?_; (with_reducible refine (codec_Parts.calls kj65 t225 t227 t228 _ A89.out).mono ?_); rintro e w93 ⟨v229, rfl, ho0, hb⟩; refine ⟨_, rfl, ?_⟩; have n0_ := Aside0.mk (Kd.R_below (by (with_reducible repeat (first | apply Kd.R_alloc | apply Kd.R_drewN | apply Kd.R_drew)); exact HO_223001.out) hb); have n1_ := Aside0.mk (Kd.R_lower ho0 (below_size (by repeat (first | (with_reducible first | exact HB.out | apply below_alloc | apply pw_below_drewN | apply below_drew1 | refine below_set ?_ GE195.out | refine below_set ?_ GE222.out) | exact HB.out)))); have n2_ := Aside0.mk (blk_below (g := gb195) (o := .cells #[.int .i64 a1_0, .slice A1_1 l1_1.length c1_1] 24 (0, 0)) (by (with_reducible repeat (first | refine blk_drewN ?_ _ | refine blk_drew ?_ | refine blk_alloc ?_ _)); exact BK195.out) hb); have n3_ := Aside0.mk (blk_below (g := gb222) (o := .cells #[.int .i64 t217, .slice Ao71 t218.length co71] 24 (0, 0)) (by (with_reducible repeat (first | refine blk_drewN ?_ _ | refine blk_drew ?_ | refine blk_alloc ?_ _)); exact BK222.out) hb); have n4_ := Aside0.mk (below_step (by repeat (first | (with_reducible first | exact HB.out | apply below_alloc | apply pw_below_drewN | apply below_drew1 | refine below_set ?_ GE195.out | refine below_set ?_ GE222.out) | exact HB.out)) hb); clear HO_223001; clear BK195; clear BK222; clear HB; have HO_223001 := n0_; have HO230 := n1_; have BK195 := n2_; have BK222 := n3_; have HB := n4_; clear n0_ n1_ n2_ n3_ n4_; (try clear hb); (try clear hb2); (try clear hk); (try clear hi); (try clear ho0); obtain ⟨Ao94, co94, eo94⟩ := Kd.R_slice HO230.out; subst eo94) | ((with_reducible refine gate_callee (f := 17) rfl ?_); refine goesL_ (some 139) rfl rfl Try.func17 (by kernel_rfl) rfl #[.slice Ao94 t227.length co94, .slice A2 l2.length c2] rfl (by (try simp only [List.map_toArray, List.map_cons, List.map_nil]); first | done | rfl | (simp only [List.length_drop, List.length_take]; rfl)) ?_; (with_reducible refine (quitrentref06_Same.calls kj65 _ _ t227 _ _ l2 true _ ?side1 ?side2 ?side3 ?side4 A90.out).mono ?_); (case side1 => repeat (first | exact (Kd.R_reads' HO230.out).2.2 | (with_reducible refine Kd.C_alloc ?_ _) | (with_reducible refine Kd.C_drewN ?_ _) | (with_reducible refine Kd.C_drew ?_))); (case side2 => exact (Kd.R_reads' HO230.out).2.1); (case side3 => repeat (first | exact (Kd.C_below HR2.out HB.out) | (with_reducible refine Kd.C_alloc ?_ _) | (with_reducible refine Kd.C_drewN ?_ _) | (with_reducible refine Kd.C_drew ?_))); (case side4 => exact HC2.out); rintro e w' ⟨rfl, ⟨nd, rfl⟩⟩; refine ⟨_, rfl, ?_⟩))
                                  go_meet
                                  case rel => exact ⟨_, H', ⟨by have := HJ6.out; have := HJ19.out; have := HJ25.out; have := HJ65.out; first | omega | exact Nat.le_refl _⟩, ⟨by (with_reducible repeat (first | apply Kd.R_alloc | apply Kd.R_drewN | apply Kd.R_drew)); exact HO_223001.out⟩, ⟨by (with_reducible repeat (first | refine blk_drewN ?_ _ | refine blk_drew ?_ | refine blk_alloc ?_ _)); exact BK195.out⟩, ⟨by (with_reducible repeat (first | refine blk_drewN ?_ _ | refine blk_drew ?_ | refine blk_alloc ?_ _)); exact BK222.out⟩, ⟨by repeat (first | (with_reducible first | exact HB.out | apply below_alloc | apply pw_below_drewN | apply below_drew1 | refine below_set ?_ GE195.out | refine below_set ?_ GE222.out) | exact HB.out)⟩⟩
                                · rw [if_neg c92] at H; cases H
                              · rw [if_neg c91] at H; cases H
                            · rw [if_neg c88] at H
                              have c88b0 : (t226 == 0) = false := beq_eq_false_iff_ne.mpr c88
                              have c88b1 : (t226 != 0) = true := bne_iff_ne.mpr c88
                              (first | rw [c88b0] | (simp only [i64_w, i32_w]; rw [c88b0]) | skip)
                              have H' := Aside0.mk H
                              clear H
                              go_wp2
                              go_meet
                              case rel => exact ⟨_, H', ⟨by have := HJ6.out; have := HJ19.out; have := HJ25.out; have := HJ65.out; first | omega | exact Nat.le_refl _⟩, ⟨by (with_reducible repeat (first | apply Kd.R_alloc | apply Kd.R_drewN | apply Kd.R_drew)); exact HO_223001.out⟩, ⟨by (with_reducible repeat (first | refine blk_drewN ?_ _ | refine blk_drew ?_ | refine blk_alloc ?_ _)); exact BK195.out⟩, ⟨by (with_reducible repeat (first | refine blk_drewN ?_ _ | refine blk_drew ?_ | refine blk_alloc ?_ _)); exact BK222.out⟩, ⟨by repeat (first | (with_reducible first | exact HB.out | apply below_alloc | apply pw_below_drewN | apply below_drew1 | refine below_set ?_ GE195.out | refine below_set ?_ GE222.out) | exact HB.out)⟩⟩
                          case rest =>
                            clear HC86
                            try clear c1
                            try clear c2
                            try clear p2
                            try clear c3
                            try clear c4
                            try clear c5
                            try clear c6
                            try clear c7
                            try clear c8
                            try clear c9
                            try clear c10
                            try clear c10b0
                            try clear c10b1
                            try clear c11
                            try clear c12
                            try clear c13
                            try clear c15
                            try clear c16
                            try clear c17
                            try clear c18
                            try clear c18b0
                            try clear c18b1
                            try clear c18b2
                            try clear c22
                            try clear c22b0
                            try clear c22b1
                            try clear c23
                            try clear c23b0
                            try clear c23b1
                            try clear c24
                            try clear c29
                            try clear c29b0
                            try clear c29b1
                            try clear c34
                            try clear c37
                            try clear c37b0
                            try clear c37b1
                            try clear c39
                            try clear c40
                            try clear c43
                            try clear c46
                            try clear c49
                            try clear c50
                            try clear c50b0
                            try clear c50b1
                            try clear c50b2
                            try clear c52
                            try clear c52b0
                            try clear c52b1
                            try clear c55
                            try clear c56
                            try clear c61
                            try clear c62
                            try clear c69
                            try clear c72
                            try clear c72b0
                            try clear c72b1
                            try clear c74
                            try clear c74b0
                            try clear c74b1
                            try clear c75
                            try clear c75b0
                            try clear c75b1
                            try clear c76
                            try clear c79
                            try clear c82
                            try clear c88
                            try clear c88b0
                            try clear c88b1
                            try clear c91
                            try clear c92
                            try clear c92b0
                            try clear c92b1
                            try clear hcz11_0
                            try clear hcz11_1
                            try clear hcz14_0
                            try clear hcz14_1
                            try clear hcz15_0
                            try clear hcz15_1
                            try clear hcz27_0
                            try clear hcz27_1
                            try clear hcz35_0
                            try clear hcz35_1
                            try clear hcz41_0
                            try clear hcz41_1
                            try clear hcz42_0
                            try clear hcz42_1
                            try clear hcz44_0
                            try clear hcz44_1
                            try clear hcz45_0
                            try clear hcz45_1
                            try clear hcz47_0
                            try clear hcz47_1
                            try clear hcz48_0
                            try clear hcz48_1
                            try clear hcz57_0
                            try clear hcz57_1
                            try clear hcz63_0
                            try clear hcz63_1
                            try clear hcz70_0
                            try clear hcz70_1
                            try clear hcz77_0
                            try clear hcz77_1
                            try clear hcz80_0
                            try clear hcz80_1
                            try clear hcz83_0
                            try clear hcz83_1
                            try clear hfz11_0
                            try clear hfz11_1
                            try clear hfz14_0
                            try clear hfz14_1
                            try clear hfz15_0
                            try clear hfz15_1
                            try clear hfz27_0
                            try clear hfz27_1
                            try clear hfz35_0
                            try clear hfz35_1
                            try clear hfz41_0
                            try clear hfz41_1
                            try clear hfz42_0
                            try clear hfz42_1
                            try clear hfz44_0
                            try clear hfz44_1
                            try clear hfz45_0
                            try clear hfz45_1
                            try clear hfz47_0
                            try clear hfz47_1
                            try clear hfz48_0
                            try clear hfz48_1
                            try clear hfz57_0
                            try clear hfz57_1
                            try clear hfz63_0
                            try clear hfz63_1
                            try clear hfz70_0
                            try clear hfz70_1
                            try clear hfz77_0
                            try clear hfz77_1
                            try clear hfz80_0
                            try clear hfz80_1
                            try clear hfz83_0
                            try clear hfz83_1
                            try clear p2
                            obtain ⟨kq, HA, HJ85, HO_223001, BK195, BK222, HB⟩ := hcut
                            cases kq with
                            | zero => exact absurd HA.out (by simp [quitrentlaw08_CodecBack.j5])
                            | succ kj85 =>
                              have H := HA.out
                              clear HA
                              simp only [quitrentlaw08_CodecBack.j5] at H
                              replace H := Option.bind_eq_some_iff.mp H
                              obtain ⟨⟨t232, t233⟩, A990, H⟩ := H
                              replace H : (if t233 = 0 then ((codec_List.f kj85 t232).bind fun bt236 => (if bt236.1.toList = a3.toList then (if bt236.2 = 0 then (some true) else (none)) else (none))) else (some true)) = some r := H
                              have A99 := Aside0.mk A990
                              clear A990
                              by_cases c100 : t233 = 0
                              · rw [if_pos c100] at H
                                have c100b0 : (t233 == 0) = true := beq_iff_eq.mpr c100
                                have c100b1 : (t233 != 0) = false := bne_eq_false_iff_eq.mpr c100
                                clear c100
                                replace H := Option.bind_eq_some_iff.mp H
                                obtain ⟨⟨t236, t237⟩, A1010, H⟩ := H
                                replace H : (if t236.toList = a3.toList then (if t237 = 0 then (some true) else (none)) else (none)) = some r := H
                                have A101 := Aside0.mk A1010
                                clear A1010
                                by_cases c102 : t236.toList = a3.toList
                                · rw [if_pos c102] at H
                                  have c102b0 : (t236.toList == a3.toList) = true := beq_iff_eq.mpr c102
                                  have c102b1 : (t236.toList != a3.toList) = false := bne_eq_false_iff_eq.mpr c102
                                  clear c102
                                  by_cases c103 : t237 = 0
                                  · rw [if_pos c103] at H
                                    have c103b0 : (t237 == 0) = true := beq_iff_eq.mpr c103
                                    have c103b1 : (t237 != 0) = false := bne_eq_false_iff_eq.mpr c103
                                    clear c103
                                    obtain rfl := Option.some.inj H
                                    go_wp2_with (first | ((with_reducible refine gate_callee (f := 16) rfl ?_); refine goesL_ (some 147) rfl rfl Try.func16 (by kernel_rfl) rfl #[.string a3] rfl (by (try simp only [List.map_toArray, List.map_cons, List.map_nil]); first | done | rfl | (simp only [List.length_drop, List.length_take]; rfl)) ?_; (with_reducible refine (codec_Parts.calls kj85 a3 t232 t233 _ A99.out).mono ?_); rintro e w104 ⟨v234, rfl, ho0, hb⟩; refine ⟨_, rfl, ?_⟩; have n0_ := Aside0.mk (Kd.R_below (by (with_reducible repeat (first | apply Kd.R_alloc | apply Kd.R_drewN | apply Kd.R_drew)); exact HO_223001.out) hb); have n1_ := Aside0.mk (Kd.R_lower ho0 (below_size (by repeat (first | (with_reducible first | exact HB.out | apply below_alloc | apply pw_below_drewN | apply below_drew1 | refine below_set ?_ GE195.out | refine below_set ?_ GE222.out) | exact HB.out)))); have n2_ := Aside0.mk (blk_below (g := gb195) (o := .cells #[.int .i64 a1_0, .slice A1_1 l1_1.length c1_1] 24 (0, 0)) (by (with_reducible repeat (first | refine blk_drewN ?_ _ | refine blk_drew ?_ | refine blk_alloc ?_ _)); exact BK195.out) hb); have n3_ := Aside0.mk (blk_below (g := gb222) (o := .cells #[.int .i64 t217, .slice Ao71 t218.length co71] 24 (0, 0)) (by (with_reducible repeat (first | refine blk_drewN ?_ _ | refine blk_drew ?_ | refine blk_alloc ?_ _)); exact BK222.out) hb); have n4_ := Aside0.mk (below_step (by repeat (first | (with_reducible first | exact HB.out | apply below_alloc | apply pw_below_drewN | apply below_drew1 | refine below_set ?_ GE195.out | refine below_set ?_ GE222.out) | exact HB.out)) hb); clear HO_223001; clear BK195; clear BK222; clear HB; have HO_223001 := n0_; have HO235 := n1_; have BK195 := n2_; have BK222 := n3_; have HB := n4_; clear n0_ n1_ n2_ n3_ n4_; (try clear hb); (try clear hb2); (try clear hk); (try clear hi); (try clear ho0); obtain ⟨Ao105, co105, eo105⟩ := Kd.R_slice HO235.out; subst eo105) | ((with_reducible refine gate_callee (f := 15) rfl ?_); refine goesL_ (some 154) rfl rfl Try.func15 (by kernel_rfl) rfl #[.slice Ao105 t232.length co105] rfl (by (try simp only [List.map_toArray, List.map_cons, List.map_nil]); first | done | rfl | (simp only [List.length_drop, List.length_take]; rfl)) ?_; (with_reducible refine (codec_List.calls kj85 _ _ t232 t236 t237 _ ?side1 ?side2 A101.out).mono ?_); (case side1 => repeat (first | exact (Kd.R_reads' HO235.out).2.2 | (with_reducible refine Kd.C_alloc ?_ _) | (with_reducible refine Kd.C_drewN ?_ _) | (with_reducible refine Kd.C_drew ?_))); (case side2 => exact (Kd.R_reads' HO235.out).2.1); rintro e w106 ⟨rfl, hb⟩; refine ⟨_, rfl, ?_⟩; have n0_ := Aside0.mk (Kd.R_below (by (with_reducible repeat (first | apply Kd.R_alloc | apply Kd.R_drewN | apply Kd.R_drew)); exact HO_223001.out) hb); have n1_ := Aside0.mk (Kd.R_below (by (with_reducible repeat (first | apply Kd.R_alloc | apply Kd.R_drewN | apply Kd.R_drew)); exact HO235.out) hb); have n2_ := Aside0.mk (blk_below (g := gb195) (o := .cells #[.int .i64 a1_0, .slice A1_1 l1_1.length c1_1] 24 (0, 0)) (by (with_reducible repeat (first | refine blk_drewN ?_ _ | refine blk_drew ?_ | refine blk_alloc ?_ _)); exact BK195.out) hb); have n3_ := Aside0.mk (blk_below (g := gb222) (o := .cells #[.int .i64 t217, .slice Ao71 t218.length co71] 24 (0, 0)) (by (with_reducible repeat (first | refine blk_drewN ?_ _ | refine blk_drew ?_ | refine blk_alloc ?_ _)); exact BK222.out) hb); have n4_ := Aside0.mk (below_step (by repeat (first | (with_reducible first | exact HB.out | apply below_alloc | apply pw_below_drewN | apply below_drew1 | refine below_set ?_ GE195.out | refine below_set ?_ GE222.out) | exact HB.out)) hb); clear HO_223001; clear HO235; clear BK195; clear BK222; clear HB; have HO_223001 := n0_; have HO235 := n1_; have BK195 := n2_; have BK222 := n3_; have HB := n4_; clear n0_ n1_ n2_ n3_ n4_; (try clear hb); (try clear hb2); (try clear hk); (try clear hi)))
                                    go_ret
                                    exact ⟨by first | rfl | (simp [errW_none, errW_some] <;> rfl) | (simp [*, errW_none, errW_some] <;> rfl), by repeat (first | (with_reducible first | exact HB.out | apply below_alloc | apply pw_below_drewN | apply below_drew1 | refine below_set ?_ GE195.out | refine below_set ?_ GE222.out) | exact HB.out)⟩
                                  · rw [if_neg c103] at H; cases H
                                · rw [if_neg c102] at H; cases H
                              · rw [if_neg c100] at H
                                have c100b0 : (t233 == 0) = false := beq_eq_false_iff_ne.mpr c100
                                have c100b1 : (t233 != 0) = true := bne_iff_ne.mpr c100
                                obtain rfl := Option.some.inj H
                                go_wp2_with (first | ((with_reducible refine gate_callee (f := 16) rfl ?_); refine goesL_ (some 147) rfl rfl Try.func16 (by kernel_rfl) rfl #[.string a3] rfl (by (try simp only [List.map_toArray, List.map_cons, List.map_nil]); first | done | rfl | (simp only [List.length_drop, List.length_take]; rfl)) ?_; (with_reducible refine (codec_Parts.calls kj85 a3 t232 t233 _ A99.out).mono ?_); rintro e w113 ⟨v234, rfl, ho0, hb⟩; refine ⟨_, rfl, ?_⟩; have n0_ := Aside0.mk (Kd.R_below (by (with_reducible repeat (first | apply Kd.R_alloc | apply Kd.R_drewN | apply Kd.R_drew)); exact HO_223001.out) hb); have n1_ := Aside0.mk (Kd.R_lower ho0 (below_size (by repeat (first | (with_reducible first | exact HB.out | apply below_alloc | apply pw_below_drewN | apply below_drew1 | refine below_set ?_ GE195.out | refine below_set ?_ GE222.out) | exact HB.out)))); have n2_ := Aside0.mk (blk_below (g := gb195) (o := .cells #[.int .i64 a1_0, .slice A1_1 l1_1.length c1_1] 24 (0, 0)) (by (with_reducible repeat (first | refine blk_drewN ?_ _ | refine blk_drew ?_ | refine blk_alloc ?_ _)); exact BK195.out) hb); have n3_ := Aside0.mk (blk_below (g := gb222) (o := .cells #[.int .i64 t217, .slice Ao71 t218.length co71] 24 (0, 0)) (by (with_reducible repeat (first | refine blk_drewN ?_ _ | refine blk_drew ?_ | refine blk_alloc ?_ _)); exact BK222.out) hb); have n4_ := Aside0.mk (below_step (by repeat (first | (with_reducible first | exact HB.out | apply below_alloc | apply pw_below_drewN | apply below_drew1 | refine below_set ?_ GE195.out | refine below_set ?_ GE222.out) | exact HB.out)) hb); clear HO_223001; clear BK195; clear BK222; clear HB; have HO_223001 := n0_; have HO235 := n1_; have BK195 := n2_; have BK222 := n3_; have HB := n4_; clear n0_ n1_ n2_ n3_ n4_; (try clear hb); (try clear hb2); (try clear hk); (try clear hi); (try clear ho0)))
                                go_ret
                                exact ⟨by first | rfl | (simp [errW_none, errW_some] <;> rfl) | (simp [*, errW_none, errW_some] <;> rfl), by repeat (first | (with_reducible first | exact HB.out | apply below_alloc | apply pw_below_drewN | apply below_drew1 | refine below_set ?_ GE195.out | refine below_set ?_ GE222.out) | exact HB.out)⟩
          · rw [if_neg c18] at H; cases H
  · rw [if_neg c6] at H; cases H
end Go.Proofs.Ytkfbmplhcigopab.PCod
