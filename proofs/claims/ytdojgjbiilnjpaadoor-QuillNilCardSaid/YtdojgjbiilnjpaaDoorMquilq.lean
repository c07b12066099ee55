import Derived.Test.YtdojgjbiilnjpaaDoorMquilp
set_option linter.unusedVariables false
set_option linter.unusedSimpArgs false
namespace Go.Proofs.YtdojgjbiilnjpaaDoor.M
open Go.RowKit Go.Proofs.YtdojgjbiilnjpaaDoorW.PrintWords Go.Proofs.YtdojgjbiilnjpaaDoorW.PrintLast Go.Proofs.YtdojgjbiilnjpaaDoorW.PrintMore
theorem QDone.pre {w w1 w2 : World} {g : Nat} {v : Value} {l : List Int} (hb : Below w.heap.size w w1) (h : QDone w1 g v l w2) : QDone w g v l w2 :=
  QDone.trans ((KeepQ.refl w g v.ownBlock).below hb) (Since.refl w v) h
/-- A value's bytes. -/
def qlay (k u i : Int) (s : ByteArray) : List Int := if k % 4 = 0 then nlay u.toNat 0 else if k % 4 = 1 then qint i else if k % 4 = 2 then nlay (if u % 2 = 1 then 1 else 0) 0 else nlay s.size 0 ++ bytesOf s

end Go.Proofs.YtdojgjbiilnjpaaDoor.M
