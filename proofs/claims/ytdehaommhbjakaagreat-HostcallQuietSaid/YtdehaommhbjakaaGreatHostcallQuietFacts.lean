/- HostcallQuiet: the closed facts of its row. -/
import Derived.JoinedOf
import Derived.Test.YtdehaommhbjakaaGreatC00
set_option maxRecDepth 100000
namespace Go.Proofs.YtdehaommhbjakaaGreat.hostcallQuiet
open Go
theorem fact0:(Rows.hostcallQuietRow.wf (OpenSpec.ofChange Rows.hostcallQuietSpec))=true:=by kernel_rfl
theorem fact1:(laidOutB Tryz.prog)=true:=by kernel_rfl
theorem fact2:(mapsRowed Tryz.prog)=true:=by kernel_rfl
theorem fact3:(Tryz.f3.params.all (Tryz.prog.readableRec ·))=true:=by kernel_rfl
theorem fact4:(namedTie Tryz.prog Rows.hostcallQuietRow.named Rows.hostcallQuietSpec.vars)=true:=by kernel_rfl
theorem fact5:((Rows.hostcallQuietRow.stops== []))=true:=by kernel_rfl
theorem fact6:((Tryz.prog.stops== []))=true:=by kernel_rfl
theorem fact7:((Rows.hostcallQuietRow.knobs== []))=true:=by kernel_rfl
theorem fact8:((Tryz.prog.stopKnobs== []))=true:=by kernel_rfl
theorem fact9:((Rows.hostcallQuietRow.inPlace==Tryz.prog.inPlace 3))=true:=by kernel_rfl
theorem fact10:((Rows.hostcallQuietRow.unfollowed==Tryz.prog.unfollowed 3))=true:=by kernel_rfl
theorem fact11:((Rows.hostcallQuietRow.recurses==Tryz.prog.recurses 3))=true:=by kernel_rfl
theorem fact12:((Rows.hostcallQuietRow.named==Tryz.prog.varsNamed 3))=true:=by kernel_rfl
theorem fact13:((Rows.hostcallQuietRow.maps==(Tryz.f3.params.toList++Rows.hostcallQuietSpec.plain.varTypes Tryz.prog).any (Tryz.prog.mapsRec ·)))=true:=by kernel_rfl
theorem fact14:((Rows.hostcallQuietRow.ifaces==(Tryz.f3.params.toList++Rows.hostcallQuietSpec.plain.varTypes Tryz.prog).any (Tryz.prog.ifacesRec ·)))=true:=by kernel_rfl
theorem fact15:((Rows.hostcallQuietRow.mapsOut==Tryz.prog.mapsAmong Tryz.f3.resultTypes.toList))=true:=by kernel_rfl
theorem fact16:((Rows.hostcallQuietRow.loops==(Tryz.f3.params.toList++Rows.hostcallQuietSpec.plain.varTypes Tryz.prog).any (Tryz.prog.loopsFrom ·)))=true:=by kernel_rfl
theorem fact17:((Rows.hostcallQuietRow.wideKeys==(Tryz.f3.params.toList++Rows.hostcallQuietSpec.plain.varTypes Tryz.prog++Tryz.f3.resultTypes.toList).any (Tryz.prog.wideKeysFrom ·)))=true:=by kernel_rfl
theorem fact18:(Rows.hostcallQuietSpec.vars.all (Tryz.prog.varReadable ·))=true:=by kernel_rfl
theorem fact19:(Tryz.f3.resultTypes.all (fun t=>Tryz.prog.readableRec t&&decide (t<Tryz.prog.types.size)))=true:=by kernel_rfl
theorem fact20:((Rows.hostcallQuietRow.ifacesOut==Tryz.f3.resultTypes.toList.any (Tryz.prog.ifacesRec ·)))=true:=by kernel_rfl
theorem fact21:((Rows.hostcallQuietRow.loopsOut==Tryz.f3.resultTypes.toList.any (Tryz.prog.loopsFrom ·)))=true:=by kernel_rfl
theorem fact22:((Rows.hostcallQuietRow.plainKeys==Tryz.prog.plainKeys))=true:=by kernel_rfl
theorem fact23:(Rows.hostcallQuietRow.shortTexts.isNone)=true:=by kernel_rfl
theorem fact24:(Tryz.prog.stopsHeard)=true:=by kernel_rfl
theorem fact25:(Tryz.prog.mayEnter)=true:=A4
theorem fact26:((Rows.hostcallQuietRow.lifted==Tryz.prog.liftsFinal))=true:=by rw[BX];kernel_rfl
theorem fact27:((Tryz.prog.make==some Rows.hostcallQuietRow.make))=true:=by rw[Dt];kernel_rfl
theorem fact28:((Rows.hostcallQuietRow.kinds==(if Rows.hostcallQuietRow.domain.isEmpty then []else Tryz.f3.params.toList.map fun t=>match Tryz.prog.underlying t with|some (.int k)=>some k|_=>none)))=true:=by kernel_rfl
theorem fact29:((Rows.hostcallQuietRow.pinned==Rows.hostcallQuietRow.pinnedBy))=true:=by kernel_rfl
theorem fact30:((Rows.hostcallQuietRow.veiled==(Tryz.f3.params.toList++Rows.hostcallQuietSpec.plain.varTypes Tryz.prog++Tryz.f3.resultTypes.toList).any (Tryz.prog.veiledRec ·)))=true:=by kernel_rfl
theorem fact31:(Rows.hostcallQuietRow.veiledFits Tryz.prog Tryz.f3.params.toList (Tryz.f3.params.toList++Rows.hostcallQuietSpec.plain.varTypes Tryz.prog++Tryz.f3.resultTypes.toList))=true:=by kernel_rfl
theorem and_mk {a b:Bool} (ha:a=true) (hb:b=true):(a&&b)=true:=by rw[ha,hb];rfl
theorem closed:joinedFacts Tryz.prog 3 Tryz.f3 Rows.hostcallQuietSpec Rows.hostcallQuietRow=true:=(and_mk (and_mk (and_mk (and_mk (and_mk (and_mk (and_mk (and_mk (and_mk (and_mk (and_mk (and_mk (and_mk (and_mk (and_mk (and_mk (and_mk (and_mk (and_mk (and_mk (and_mk (and_mk (and_mk (and_mk (and_mk (and_mk (and_mk (and_mk (and_mk (and_mk (and_mk fact0 fact1) fact2) fact3) fact4) fact5) fact6) fact7) fact8) fact9) fact10) fact11) fact12) fact13) fact14) fact15) fact16) fact17) fact18) fact19) fact20) fact21) fact22) fact23) fact24) fact25) fact26) fact27) fact28) fact29) fact30) fact31)
end Go.Proofs.YtdehaommhbjakaaGreat.hostcallQuiet
