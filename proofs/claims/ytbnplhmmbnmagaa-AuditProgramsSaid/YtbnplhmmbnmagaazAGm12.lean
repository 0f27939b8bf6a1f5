/- The program's type, as the rows open it. -/
import Derived.Test.YtbnplhmmbnmagaazAGm2
namespace Go.Proofs.Ytbnplhmmbnmagaa.All
open Go.RowKit Go.Proofs.YtbnplhmmbnmagaaW.PrintWords Go.Proofs.YtbnplhmmbnmagaaW.PrintLast Go.Proofs.YtbnplhmmbnmagaaW.PrintMore
structure S28 where
  f0:(List ByteArray)
  f1:(List Int)
  f2:(List (List ByteArray))
  f3:(List (List Int))
  f4:(List S66)
  f5:Int
  f6:Int
def k28:Kd S28:=Kd.iso (Kd.pair (Kd.slice 9 Kd.string) (Kd.pair (Kd.slice 3 (Kd.int .i64)) (Kd.pair (Kd.slice 22 (Kd.slice 9 Kd.string)) (Kd.pair (Kd.slice 23 (Kd.slice 3 (Kd.int .i64))) (Kd.pair (Kd.slice 66 k66) (Kd.pair (Kd.int .i64) (Kd.int .i64))))))) (fun x:S28=>(x.f0,x.f1,x.f2,x.f3,x.f4,x.f5,x.f6))
end Go.Proofs.Ytbnplhmmbnmagaa.All
