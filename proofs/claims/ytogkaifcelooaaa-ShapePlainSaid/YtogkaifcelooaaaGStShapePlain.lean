/- The one pure statement of ShapePlain. -/
import Derived.Test.YtogkaifcelooaaaGx14
import Derived.Test.YtogkaifcelooaaaGOpen
namespace Go.Proofs.Ytogkaifcelooaaa.G
open Go.RowKit Go.Proofs.YtogkaifcelooaaaW.PrintWords Go.Proofs.Ytogkaifcelooaaa.O
def compositorlaw15_ShapePlain.Pure : Prop := ∀ (a0 : S24) (a1 : Int), (good24 a0) → ((Lit.int .u8 a1).wf = true) → compositorlaw15_ShapePlain.f a0.f0 a0.f1 a0.f2 a0.f3 a0.f4 a0.f5 a0.f6 a0.f7 a0.f8 a0.f9 a0.f10 a0.f11 a0.f12 a0.f13 a0.f14 a0.f15 a0.f16 a0.f17 a0.f18 a0.f19 a0.f20 a1 = some true
end Go.Proofs.Ytogkaifcelooaaa.G
