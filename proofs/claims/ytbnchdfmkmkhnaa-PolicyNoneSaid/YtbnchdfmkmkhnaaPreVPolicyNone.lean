/- What the reference's Covers computes; for the statement PolicyNone. -/
import Derived.Test.YtbnchdfmkmkhnaaPreRPolicyNone
namespace Go.Proofs.Ytbnchdfmkmkhnaa.PrePolicyNone
open Go.RowKit Go.Proofs.Ytbnchdfmkmkhnaa.PPolicyNone Go.Proofs.YtbnchdfmkmkhnaaW.PrintWords Go.Proofs.YtbnchdfmkmkhnaaW.PrintLast Go.Proofs.YtbnchdfmkmkhnaaW.PrintMore Go.Proofs.Ytbnchdfmkmkhnaa.Pre
end Go.Proofs.Ytbnchdfmkmkhnaa.PrePolicyNone
