/- tumuluslaw01.behind: an answer is what was lent and more, and nothing that was lent is written over. -/
import Derived.Test.YtlipnncbpbbdnaaEnc
import Derived.Test.YtlipnncbpbbdnaaKeep
namespace Go.Proofs.Ytlipnncbpbbdnaa
open Go.RowKit

theorem behind_ok (base g n cap c B : Nat) (A : Option Addr) (l : List UInt8) (Ag Am : Option Addr) (ng cg nm cm Bg Bm : Nat) (m : List UInt8) (w : World) (hn : n ≤ 1099511627776)
    (hown : w.ownsRow base 5 1 (.slice (some ⟨g, 0, none⟩) (n + 6) cap) (n + 6) (bv l ++ bv (marks 6))) (hr : Rd w B A (bv l)) (hl : l.length = n)
    (hrg : Rd w Bg Ag (bv (l ++ m))) (hlg : (l ++ m).length = ng) (hrm : Rd w Bm Am (bv m)) (hlm : m.length = nm) (hm : nm ≤ 1099511627776) :
    Calls Try.prog 16 #[.slice Ag ng cg, .int .i64 0, .slice (some ⟨g, 0, none⟩) n cap, .slice A n c, .slice Am nm cm, .int .i64 0] w fun e w' => e = .returned (.bool true) ∧ w = w' := by
  have hcv1 := conv_rd (P := Try.prog) w 22 9 5 Try.underlying22 Try.underlying5 Try.underlying9 Bg Ag ng cg _ hrg hlg
  have hcv2 := conv_rd (P := Try.prog) w 22 9 5 Try.underlying22 Try.underlying5 Try.underlying9 B A n c l hr hl
  have hcv3 := conv_rd (P := Try.prog) w 22 9 5 Try.underlying22 Try.underlying5 Try.underlying9 Bm Am nm cm m hrm hlm
  have hb1 : l.length ≤ 1099511627776 := by omega
  have hb2 : m.length ≤ 1099511627776 := by omega
  have hadd := ByteArray.mk_append_mk l m
  have H := Lib.hid (And.intro hown (And.intro hr hl))
  clear hown hr hl hrg hrm hlm hlg
  go_enter Try.func16, Try.ntmps16
  go_wp2_with fail
  refine (kept_any base g n cap c B A l w hn H.out.1 H.out.2.1 H.out.2.2).mono ?_
  rintro e w' ⟨rfl, rfl⟩
  go_wp2_with fail
  go_ret
  exact ⟨rfl, rfl⟩

theorem behind_no (base g n cap c B : Nat) (A : Option Addr) (l : List UInt8) (f : Int) (w : World) (hn : n ≤ 1099511627776) (hf : 0 < f)
    (hown : w.ownsRow base 5 1 (.slice (some ⟨g, 0, none⟩) (n + 6) cap) (n + 6) (bv l ++ bv (marks 6))) (hr : Rd w B A (bv l)) (hl : l.length = n) :
    Calls Try.prog 16 #[.slice none 0 0, .int .i64 f, .slice (some ⟨g, 0, none⟩) n cap, .slice A n c, .slice none 0 0, .int .i64 f] w fun e w' => e = .returned (.bool true) ∧ w = w' := by
  have hcv1 := conv_rd (P := Try.prog) w 22 9 5 Try.underlying22 Try.underlying5 Try.underlying9 0 none 0 0 [] Rd.nil rfl
  have H := Lib.hid (And.intro hown (And.intro hr hl))
  clear hown hr hl
  go_enter Try.func16, Try.ntmps16
  go_wp2_with fail
  refine (kept_any base g n cap c B A l w hn H.out.1 H.out.2.1 H.out.2.2).mono ?_
  rintro e w' ⟨rfl, rfl⟩
  go_wp2_with fail
  go_ret
  exact ⟨rfl, rfl⟩
end Go.Proofs.Ytlipnncbpbbdnaa
