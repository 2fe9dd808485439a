/- What some functions compute, over plain values. -/
import Derived.Test.YthbogefcfhmpgaaGreatK18
set_option linter.unusedVariables false
set_option linter.unusedSimpArgs false
set_option maxRecDepth 100000
set_option maxHeartbeats 8000000
namespace Go.Proofs.YthbogefcfhmpgaaGreat
open Go.RowKit
noncomputable section
instance zpr {n a0}:CI E0 (Zs n a0) true 121 [.sl 5 (a0.map Aj)] aI:=⟨fun {r} hF=>by
 unfold Zs at hF
 refine cw Tryz.func121 ?_
 repeat' first
  |refine AW.step ?_;conv=>whnf
  |refine A4.o hF (fun hF=>?_) fun hF=>?_
  |refine A4.f ?_
  |refine IdxX.A hF fun x hF=>?_
  |refine Af.I hF fun a hF=>?_
  |refine LkX.o N8 AV.bool hF (by first|rfl|kernel_rfl) zso (by repeat' first|exact Sub.nil _|exact Sub.refl _|refine Sub.agg ?_|refine Sub.tup ?_|refine Sub.fn ?_|exact SubL.nil|refine SubL.cons ?_ ?_|refine Sub.sl _ ?_|exact SubE.nil|refine SubE.cons ?_ ?_) (fun v b hF=>?_)
  |refine UpX.o N8 AV.bool hF (by first|rfl|kernel_rfl) zso (by repeat' first|exact Sub.nil _|exact Sub.refl _|refine Sub.agg ?_|refine Sub.tup ?_|refine Sub.fn ?_|exact SubL.nil|refine SubL.cons ?_ ?_|refine Sub.sl _ ?_|exact SubE.nil|refine SubE.cons ?_ ?_) (fun l hF=>?_)
  |exact ⟨_,hF,LeX.a []⟩
  |refine Av.I hF (LeX.a []) fun m v hF=>?_
  |refine AndA ?_
  |exact RetX.oB hF⟩
end
noncomputable section
end
noncomputable section
end
noncomputable section
end
noncomputable section
end
end Go.Proofs.YthbogefcfhmpgaaGreat
