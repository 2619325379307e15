/- Functions, arguments and results of closed runs. Written by program. -/
import Derived.Test.YtlinkhjnihjbaaaGreatDoorPr
import Derived.Test.YtlinkhjnihjbaaaGreatDoorVe
set_option linter.all false
noncomputable section
namespace Go.Proofs.YtlinkhjnihjbaaaGreatDoor
open Go.Vse
open Go (BinOp IntKind UnOp)
set_option maxRecDepth 100000
def QsT0:F:= .tu [.ag [.b false,.sl 1 [[.i .u32 1]],.sl 1 [[.i .u32 2]]],.i .i64 0]
def QsT1:F:= .tu [.ag [.b false,.sl 1 [[.i .u32 2]],.sl 1 [[.i .u32 3]]],.i .i64 0]
def QsT2:F:= .sl 3 [[.s [83],.b false,.sl 4 [[.s [120],.i .i64 0,.i .i64 0,.s []]]]]
def QsT3:F:= .sl 2 [[QsT2,.nils]]
def QsT4:F:= .sl 3 [[.b false,.nils,QsT3]]
def QsT5:F:= .sl 4 [[.sl 3 [[.i .i64 1,.i .i64 1,.s []]],.b false,.sl 1 [[.i .u32 1]],.sl 1 [[.i .u32 2]]],[.sl 3 [[.i .i64 1,.i .i64 2,.s []]],.b false,.sl 1 [[.i .u32 1]],.sl 1 [[.i .u32 3]]]]
def QsT6:F:= .sl 4 [[.s [83],.b false,.sl 3 [[.s [97],.i .i64 1,.b false]],QsT5]]
def ztv:F:= .ag [QsT6,.nils,QsT4,.nils]
def zcM:EnP:=(183,[.sl 1 [[.i .u32 1]],.sl 1 [[.i .u32 1]]],.tu [.sl 1 [[.i .u32 1]],.sl 1 [],.b true])
def zf4:EnP:=(183,[.sl 1 [[.i .u32 2]],.sl 1 [[.i .u32 1]]],.tu [.sl 1 [[.i .u32 2]],.sl 1 [],.b true])
def zf5:EnP:=(183,[.sl 1 [[.i .u32 3]],.sl 1 [[.i .u32 1]]],.tu [.sl 1 [[.i .u32 3]],.sl 1 [],.b true])
def zsE:EnP:=(183,[.sl 1 [[.i .u32 4]],.sl 1 [[.i .u32 1]]],.tu [.sl 1 [[.i .u32 4]],.sl 1 [],.b true])
def zEv:EnP:=(94,[.i .i64 1,.i .i64 1],.tu [.ag [.b false,.sl 1 [[.i .u32 1]],.sl 1 [[.i .u32 1]]],.i .i64 0])
def zsG:EnP:=(183,[.sl 1 [[.i .u32 5]],.sl 1 [[.i .u32 1]]],.tu [.sl 1 [[.i .u32 5]],.sl 1 [],.b true])
def zsH:EnP:=(183,[.sl 1 [[.i .u32 7]],.sl 1 [[.i .u32 1]]],.tu [.sl 1 [[.i .u32 7]],.sl 1 [],.b true])
def zEw:EnP:=(35,[.i .i64 0],.ag [.b false,.nils,.sl 1 [[.i .u32 1]]])
def zd0:EnP:=(35,[.i .i64 1],.ag [.b false,.sl 1 [[.i .u32 1]],.sl 1 [[.i .u32 1]]])
def QsE66:EnP:=(32,[],.sl 1 [[.s [107,101,121,32,82,40,97,41]],[.s [114,117,108,101,32,82,40,120,44,32,121,41,32,105,109,112,108,105,101,115,32,83,40,120,41]],[.s [114,117,108,101,32,83,40,120,41,32,105,109,112,108,105,101,115,32,82,40,120,44,32,121,41,32,111,114,32,75,40,120,44,32,121,41]],[.s [99,111,117,110,116,32,48,32,116,111,32,50,32,111,102,32,82,40,120,44,32,121,41]],[.s [99,111,117,110,116,32,48,32,116,111,32,49,32,111,102,32,83,40,120,41,44,32,120,32,60,32,51]],[.s [102,97,99,116,111,114,32,51,47,50,32,102,111,114,32,82,40,120,44,32,121,41,44,32,83,40,121,41]],[.s [102,97,99,116,111,114,32,49,47,51,32,102,111,114,32,83,40,120,41,44,32,110,111,116,32,75,40,120,44,32,49,41]],[.s [102,97,99,116,111,114,32,50,32,102,111,114,32,75,40,120,44,32,121,41]],[.s [114,117,108,101,32,82,40,120,44,32,120,41,32,105,109,112,108,105,101,115,32,102,97,108,115,101]],[.s [102,97,99,116,111,114,32,48,32,102,111,114,32,82,40,49,44,32,50,41,44,32,83,40,50,41]],[.s [107,101,121,32,75,40,118,41]],[.s [111,98,115,101,114,118,101,32,82,40,120,44,32,121,41]],[.s [100,101,110,121,32,83,40,49,41]],[.s [111,98,115,101,114,118,101,32,83,40,120,41,32,111,114,32,75,40,120,44,32,121,41]],[.s [100,101,110,121,32,82,40,120,44,32,120,41]],[.s [102,97,99,116,111,114,32,53,47,52,32,102,111,114,32,82,40,120,44,32,121,41,44,32,82,40,121,44,32,122,41]],[.s [114,117,108,101,32,75,40,120,44,32,121,41,44,32,67,40,121,44,32,122,41,32,105,109,112,108,105,101,115,32,83,40,122,41]],[.s [99,111,117,110,116,32,49,32,116,111,32,51,32,111,102,32,67,40,120,44,32,121,41,44,32,120,32,60,61,32,121]]])
def ziK:EnP:=(40,[.ag [.b false,.sl 1 [[.i .u32 1]],.sl 1 [[.i .u32 2]]]],.ag [.b false,.sl 1 [[.i .u32 1]],.sl 1 [[.i .u32 2]]])
def zeO:EnP:=(40,[.ag [.b false,.sl 1 [[.i .u32 1]],.sl 1 [[.i .u32 1]]]],.ag [.b false,.sl 1 [[.i .u32 1]],.sl 1 [[.i .u32 1]]])
def zmC:EnP:=(103,[.ag [.b false,.sl 1 [[.i .u32 1]],.sl 1 [[.i .u32 2]]]],.b true)
def zhH:EnP:=(40,[.ag [.b false,.sl 1 [[.i .u32 1]],.sl 1 [[.i .u32 3]]]],.ag [.b false,.sl 1 [[.i .u32 1]],.sl 1 [[.i .u32 3]]])
def ziL:EnP:=(40,[.ag [.b false,.sl 1 [[.i .u32 2]],.sl 1 [[.i .u32 3]]]],.ag [.b false,.sl 1 [[.i .u32 2]],.sl 1 [[.i .u32 3]]])
def zmD:EnP:=(103,[.ag [.b false,.sl 1 [[.i .u32 1]],.sl 1 [[.i .u32 3]]]],.b true)
def zk7:EnP:=(103,[.ag [.b false,.sl 1 [[.i .u32 2]],.sl 1 [[.i .u32 3]]]],.b true)
def zin:EnP:=(40,[.ag [.b false,.sl 1 [[.i .u32 1]],.sl 1 [[.i .u32 4]]]],.ag [.b false,.sl 1 [[.i .u32 1]],.sl 1 [[.i .u32 4]]])
def zk8:EnP:=(103,[.ag [.b false,.sl 1 [[.i .u32 1]],.sl 1 [[.i .u32 4]]]],.b true)
def zto:EnP:=(273,[.ag [.b false,.sl 1 [[.i .u32 1]],.sl 1 [[.i .u32 1]]],.ag [.b false,.sl 1 [[.i .u32 1]],.sl 1 [[.i .u32 1]]]],.ag [.b false,.nils,.sl 1 [[.i .u32 1]]])
def zfS:EnP:=(40,[.ag [.b false,.nils,.sl 1 [[.i .u32 1]]]],.ag [.b false,.nils,.sl 1 [[.i .u32 1]]])
def zk9:EnP:=(103,[.ag [.b false,.sl 1 [[.i .u32 1]],.sl 1 [[.i .u32 1]]]],.b true)
def zla:EnP:=(103,[.ag [.b false,.nils,.sl 1 [[.i .u32 1]]]],.b true)
def zio:EnP:=(40,[.ag [.b false,.sl 1 [[.i .u32 3]],.sl 1 [[.i .u32 5]]]],.ag [.b false,.sl 1 [[.i .u32 3]],.sl 1 [[.i .u32 5]]])
def zlb:EnP:=(103,[.ag [.b false,.sl 1 [[.i .u32 3]],.sl 1 [[.i .u32 5]]]],.b true)
def ziq:EnP:=(40,[.ag [.b false,.sl 1 [[.i .u32 1]],.sl 1 [[.i .u32 7]]]],.ag [.b false,.sl 1 [[.i .u32 1]],.sl 1 [[.i .u32 7]]])
def ztp:EnP:=(183,[.sl 1 [[.i .u32 6]],.sl 1 [[.i .u32 1]]],.tu [.sl 1 [[.i .u32 6]],.sl 1 [],.b true])
def zlc:EnP:=(103,[.ag [.b false,.sl 1 [[.i .u32 1]],.sl 1 [[.i .u32 7]]]],.b true)
def zlg:EnP:=(187,[.ag [.b false,.sl 1 [[.i .u32 1]],.sl 1 [[.i .u32 2]]]],.b false)
def zlh:EnP:=(187,[.ag [.b false,.sl 1 [[.i .u32 1]],.sl 1 [[.i .u32 3]]]],.b false)
def zlk:EnP:=(187,[.ag [.b false,.sl 1 [[.i .u32 2]],.sl 1 [[.i .u32 3]]]],.b false)
def zll:EnP:=(187,[.ag [.b false,.sl 1 [[.i .u32 1]],.sl 1 [[.i .u32 4]]]],.b false)
def zlm:EnP:=(187,[.ag [.b false,.sl 1 [[.i .u32 1]],.sl 1 [[.i .u32 1]]]],.b true)
def zlo:EnP:=(187,[.ag [.b false,.nils,.sl 1 [[.i .u32 1]]]],.b false)
def zlq:EnP:=(187,[.ag [.b false,.sl 1 [[.i .u32 3]],.sl 1 [[.i .u32 5]]]],.b false)
def zlt:EnP:=(187,[.ag [.b false,.sl 1 [[.i .u32 1]],.sl 1 [[.i .u32 7]]]],.b false)
def zgJ:EnP:=(186,[.sl 1 [[.i .u32 1]]],.i .i64 1)
def zjk:EnP:=(186,[.sl 1 [[.i .u32 2]]],.i .i64 2)
def zfT:EnP:=(186,[.sl 1 [[.i .u32 3]]],.i .i64 2)
def zlw:EnP:=(186,[.sl 1 [[.i .u32 4]]],.i .i64 3)
def zlx:EnP:=(186,[.sl 1 [[.i .u32 5]]],.i .i64 3)
def zly:EnP:=(186,[.sl 1 [[.i .u32 7]]],.i .i64 3)
def zfl:EnP:=(101,[.ag [.s [82],.b false,.sl 3 [[.s [97],.i .i64 1,.b false],[.s [98],.i .i64 1,.b false]]]],.b true)
def zeY:EnP:=(101,[.ag [.s [83],.b false,.sl 3 [[.s [97],.i .i64 1,.b false]]]],.b true)
def zfm:EnP:=(101,[.ag [.s [75],.b false,.sl 3 [[.s [107],.i .i64 1,.b true],[.s [118],.i .i64 1,.b false]]]],.b true)
def zfq:EnP:=(101,[.ag [.s [67],.b true,.sl 3 [[.s [97],.i .i64 1,.b false],[.s [98],.i .i64 1,.b false]]]],.b true)
def zJU:EnP:=(31,[.ag [.sl 4 [[.s [82],.b false,.sl 3 [[.s [97],.i .i64 1,.b false],[.s [98],.i .i64 1,.b false]],.nils]],.nils,.nils,.nils]],.s [114,101,108,97,116,105,111,110,32,82,40,97,32,105,110,116,44,32,98,32,105,110,116,41,10])
def zJV:EnP:=(31,[.ag [.sl 4 [[.s [83],.b false,.sl 3 [[.s [97],.i .i64 1,.b false]],.nils]],.nils,.nils,.nils]],.s [114,101,108,97,116,105,111,110,32,83,40,97,32,105,110,116,41,10])
def zJX:EnP:=(31,[.ag [.sl 4 [[.s [75],.b false,.sl 3 [[.s [107],.i .i64 1,.b true],[.s [118],.i .i64 1,.b false]],.nils]],.nils,.nils,.nils]],.s [114,101,108,97,116,105,111,110,32,75,40,107,32,105,110,116,32,107,101,121,44,32,118,32,105,110,116,41,10])
def zJY:EnP:=(31,[.ag [.sl 4 [[.s [67],.b true,.sl 3 [[.s [97],.i .i64 1,.b false],[.s [98],.i .i64 1,.b false]],.nils]],.nils,.nils,.nils]],.s [99,101,114,116,97,105,110,32,67,40,97,32,105,110,116,44,32,98,32,105,110,116,41,10])
def zJ0:EnP:=(25,[.s [114,101,108,97,116,105,111,110,32,82,40,97,32,105,110,116,44,32,98,32,105,110,116,41,10,114,101,108,97,116,105,111,110,32,83,40,97,32,105,110,116,41,10,114,101,108,97,116,105,111,110,32,75,40,107,32,105,110,116,32,107,101,121,44,32,118,32,105,110,116,41,10,99,101,114,116,97,105,110,32,67,40,97,32,105,110,116,44,32,98,32,105,110,116,41,10]],.tu [.ag [.sl 4 [[.s [82],.b false,.sl 3 [[.s [97],.i .i64 1,.b false],[.s [98],.i .i64 1,.b false]],.nils],[.s [83],.b false,.sl 3 [[.s [97],.i .i64 1,.b false]],.nils],[.s [75],.b false,.sl 3 [[.s [107],.i .i64 1,.b true],[.s [118],.i .i64 1,.b false]],.nils],[.s [67],.b true,.sl 3 [[.s [97],.i .i64 1,.b false],[.s [98],.i .i64 1,.b false]],.nils]],.nils,.nils,.nils],.i .i64 0,.i .i64 0])
def zz8:EnP:=(25,[.s [114,101,108,97,116,105,111,110,32,83,40,97,32,105,110,116,41,10,116,117,112,108,101,32,83,40,49,41,58,32,49,47,50,10,116,117,112,108,101,32,83,40,50,41,58,32,49,47,51,10,111,98,115,101,114,118,101,32,83,40,120,41,10]],.tu [ztv,.i .i64 0,.i .i64 0])
def zjl:EnP:=(210,[.ag [.b false,.sl 1 [[.i .u32 1]],.sl 1 [[.i .u32 2]]]],.ag [.b false,.sl 1 [[.i .u32 1]],.sl 1 [[.i .u32 2]]])
def zjm:EnP:=(210,[.ag [.b false,.sl 1 [[.i .u32 1]],.sl 1 [[.i .u32 3]]]],.ag [.b false,.sl 1 [[.i .u32 2]],.sl 1 [[.i .u32 3]]])
def zlz:EnP:=(112,[.ag [.s [83],.b false,.sl 3 [[.s [97],.i .i64 1,.b false]],QsT5]],.i .i64 0)
def zou:EnP:=(44,[ztv],.i .i64 0)
def zov:EnP:=(257,[.ag [.sl 1 [[.sl 3 [[.b false,.sl 1 [[.i .u32 1]],.sl 1 [[.i .u32 2]]]]],[.sl 3 [[.b false,.sl 1 [[.i .u32 1]],.sl 1 [[.i .u32 3]]]]]]]],.sl 1 [[.i .u32 4]])
def zoz:EnP:=(76,[.ag [.b false,.sl 1 [[.i .u32 1]],.sl 1 [[.i .u32 6]]],.ag [.b false,.sl 1 [[.i .u32 1]],.sl 1 [[.i .u32 3]]]],.ag [.b false,.sl 1 [[.i .u32 1]],.sl 1 [[.i .u32 2]]])
def zoA:EnP:=(76,[.ag [.b false,.sl 1 [[.i .u32 1]],.sl 1 [[.i .u32 2]]],.ag [.b false,.sl 1 [[.i .u32 1]],.sl 1 [[.i .u32 6]]]],.ag [.b false,.sl 1 [[.i .u32 2]],.sl 1 [[.i .u32 3]]])
def zAa:EnP:=(27,[ztv,.ag [.nils,.sl 2 [[.sl 3 [[.s [83],.b false,.sl 4 [[.s [],.i .i64 1,.i .i64 2,.s []]]]],.nils]]]],QsT0)
def zAb:EnP:=(28,[ztv],QsT1)
def zAc:EnP:=(29,[ztv,.i .i64 1],.tu [.sl 1 [[.sl 1 [[.i .i64 0],[.i .i64 (-1)]]]],.i .i64 0])
def zJ1:EnP:=(10,[],.b true)
theorem rE{e:EnP}(m:Nat)(l:List EnP)(ha:zeW pr l)(h:zn4 (zuU m l) pr 400 e.1 e.2.1=some e.2.2):zav pr e:=zdw ha h
def zd6:Nat:=0
def zis:Nat:=12259964326927110866866776217202473468949912977468817408
def zgK:Nat:=12259964326927110866866776217202473468949914111340183552
def QsK3:Nat:=12259964326927110866866776217202473468949914076980445184
def QsK4:Nat:=15177100720513508366558296147058741458143803430094840009779784451085190862037057536
def ztt:Nat:=2535301200456458802993406410752
def zcS:Nat:=294239143846250660804802641889365365537091927525795299328
def QsK7:Nat:=110339678942343997801800998651135304131409317296508764160
def QsK8:Nat:=1645504557321206042154969182557350504982735865633579863348609024
def QsK9:Nat:=5192296858534827628530496329220096
def zxT:Nat:=231584178474634036351699291223417970675722531874082969425166293869692446572544
def QsK11:Nat:=12259964326927110866866776217202473468949912978441895936
end Go.Proofs.YtlinkhjnihjbaaaGreatDoor
