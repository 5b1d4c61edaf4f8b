/- Which nodes may be: the printed functions of one print, named for another. -/
import Derived.Test.YtmnkabdaapiikaaPx3
namespace Go.Proofs.Ytmnkabdaapiikaa
abbrev node_stands.f := @P.node_stands.f
abbrev node_stands.mono := @P.node_stands.mono
abbrev node_stands.calls := @P.node_stands.calls
abbrev node_Right.f := @P.node_Right.f
abbrev node_Right.mono := @P.node_Right.mono
abbrev node_Right.calls := @P.node_Right.calls
end Go.Proofs.Ytmnkabdaapiikaa
