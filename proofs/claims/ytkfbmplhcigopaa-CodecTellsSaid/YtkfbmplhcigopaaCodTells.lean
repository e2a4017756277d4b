/- The plain law CodecTells. -/
import Derived.Test.YtkfbmplhcigopaaPCodF12
import Derived.Test.YtkfbmplhcigopaaCodL
set_option linter.unusedSimpArgs false
set_option linter.unusedVariables false
namespace Go.Proofs.Ytkfbmplhcigopaa.PCod
open Go.RowKit Go.Proofs.Ytkfbmplhcigopaa Go.Proofs.YtkfbmplhcigopaaW.PrintWords Go.Proofs.YtkfbmplhcigopaaW.PrintLast Go.Proofs.YtkfbmplhcigopaaW.PrintMore

theorem tells (n kind : Int) (l : List Int) (s : ByteArray) (hn : (Lit.int .i64 n).wf = true) (hl : I64 l) (hs : s.size ≤ 140737488355328) : quitrentlaw08_CodecTells.f 5000 n kind l s = some true := by
  have hn := wf_bd hn
  have bad : quitrentlaw08_CodecTells.j0 5000 n s true kind l = some true := by simp only [quitrentlaw08_CodecTells.j0]; rfl
  unfold quitrentlaw08_CodecTells.f
  rw [awake_f 5000 (by omega), Option.bind_some, if_pos rfl]
  by_cases h1 : (l.length : Int) > 70
  · rw [if_pos h1, bad]
  rw [if_neg h1]
  by_cases h2 : (s.size : Int) > 3000
  · rw [decide_eq_true h2, bad]
  rw [decide_eq_false h2]
  simp only [quitrentlaw08_CodecTells.j0]
  have hlen := readS_len s
  rw [if_neg (by decide), put_f 4999 (by omega) kind l hl, rput_f 4999 (by omega) kind l hl, read_f 4999 (by omega) s hs, rread_f 4999 (by omega) s hs, take_f 4999 (by omega) s hs, rtake_f 4999 (by omega) s hs, number_f 4999 (by omega) n hn.1 hn.2, rnumber_f 4999 (by omega) n hn.1 hn.2]
  simp only [Option.bind_some]
  rw [if_pos trivial, if_pos trivial, if_pos trivial, if_pos trivial, longs_f 4999 _ (by omega) (by omega), Option.bind_some, if_pos rfl, if_pos trivial, if_pos trivial, if_pos trivial]
  simp


end Go.Proofs.Ytkfbmplhcigopaa.PCod
