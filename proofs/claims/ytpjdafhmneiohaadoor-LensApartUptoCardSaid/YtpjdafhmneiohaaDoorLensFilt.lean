/- Words that are not empty. -/
import Derived.Test.YtpjdafhmneiohaaDoorSmall
namespace Go.Proofs.YtpjdafhmneiohaaDoor
set_option linter.unusedSimpArgs false
set_option linter.unusedVariables false
open Go

theorem filt2 {a b c : Str} (ha : a ≠ []) (hb : b ≠ []) (hc : c = []) : [a, b, c].filter (fun s => decide (s ≠ [])) = [a, b] := by simp [ha, hb, hc]
theorem filt2' {a b c : Str} (ha : a ≠ []) (hb : b = []) (hc : c ≠ []) : [a, b, c].filter (fun s => decide (s ≠ [])) = [a, c] := by simp [ha, hb, hc]
theorem filt2'' {a b c : Str} (ha : a = []) (hb : b ≠ []) (hc : c ≠ []) : [a, b, c].filter (fun s => decide (s ≠ [])) = [b, c] := by simp [ha, hb, hc]
theorem filt3 {a b c : Str} (ha : a ≠ []) (hb : b ≠ []) (hc : c ≠ []) : [a, b, c].filter (fun s => decide (s ≠ [])) = [a, b, c] := by simp [ha, hb, hc]
end Go.Proofs.YtpjdafhmneiohaaDoor
