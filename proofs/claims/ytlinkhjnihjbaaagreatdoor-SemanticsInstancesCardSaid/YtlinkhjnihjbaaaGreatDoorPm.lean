/- Sums in the program, by the kernel. Written by program. -/
import Derived.Test.YtlinkhjnihjbaaaGreatDoorPa
import Derived.KernelRfl
set_option linter.all false
set_option maxRecDepth 100000
set_option maxHeartbeats 4000000
namespace Go.Proofs.YtlinkhjnihjbaaaGreatDoor
open Go Go.Vse Go.Vse.Sm
def uB0:zaL (fun p=>le1 (adN (0,1) p)=true->UB (0,1) p) PN:=by repeat (first|exact trivial|exact zab (n:=1000) (zad pr) (by kernel_rfl)|exact fun h=>Bool.noConfusion h|refine fun _=> ?_|refine And.intro ?_ ?_)
def uB1:zaL (fun p=>le1 (adN (1,2) p)=true->UB (1,2) p) PN:=by repeat (first|exact trivial|exact zab (n:=1000) (zad pr) (by kernel_rfl)|exact fun h=>Bool.noConfusion h|refine fun _=> ?_|refine And.intro ?_ ?_)
def uB2:zaL (fun p=>le1 (adN (1,3) p)=true->UB (1,3) p) PN:=by repeat (first|exact trivial|exact zab (n:=1000) (zad pr) (by kernel_rfl)|exact fun h=>Bool.noConfusion h|refine fun _=> ?_|refine And.intro ?_ ?_)
def uB3:zaL (fun p=>le1 (adN (2,3) p)=true->UB (2,3) p) PN:=by repeat (first|exact trivial|exact zab (n:=1000) (zad pr) (by kernel_rfl)|exact fun h=>Bool.noConfusion h|refine fun _=> ?_|refine And.intro ?_ ?_)
def uB4:zaL (fun p=>le1 (adN (1,4) p)=true->UB (1,4) p) PN:=by repeat (first|exact trivial|exact zab (n:=1000) (zad pr) (by kernel_rfl)|exact fun h=>Bool.noConfusion h|refine fun _=> ?_|refine And.intro ?_ ?_)
def uB5:zaL (fun p=>le1 (adN (1,1) p)=true->UB (1,1) p) PN:=by repeat (first|exact trivial|exact zab (n:=1000) (zad pr) (by kernel_rfl)|exact fun h=>Bool.noConfusion h|refine fun _=> ?_|refine And.intro ?_ ?_)
def uB6:zaL (fun p=>le1 (adN (3,5) p)=true->UB (3,5) p) PN:=by repeat (first|exact trivial|exact zab (n:=1000) (zad pr) (by kernel_rfl)|exact fun h=>Bool.noConfusion h|refine fun _=> ?_|refine And.intro ?_ ?_)
def uB7:zaL (fun p=>le1 (adN (1,7) p)=true->UB (1,7) p) PN:=by repeat (first|exact trivial|exact zab (n:=1000) (zad pr) (by kernel_rfl)|exact fun h=>Bool.noConfusion h|refine fun _=> ?_|refine And.intro ?_ ?_)
def uB8:zaL (fun p=>le1 (adN (5,6) p)=true->UB (5,6) p) PN:=by repeat (first|exact trivial|exact zab (n:=1000) (zad pr) (by kernel_rfl)|exact fun h=>Bool.noConfusion h|refine fun _=> ?_|refine And.intro ?_ ?_)
def uB9:zaL (fun p=>le1 (adN (7,6) p)=true->UB (7,6) p) PN:=by repeat (first|exact trivial|exact zab (n:=1000) (zad pr) (by kernel_rfl)|exact fun h=>Bool.noConfusion h|refine fun _=> ?_|refine And.intro ?_ ?_)
def uB10:zaL (fun p=>le1 (adN (3,4) p)=true->UB (3,4) p) PN:=by repeat (first|exact trivial|exact zab (n:=1000) (zad pr) (by kernel_rfl)|exact fun h=>Bool.noConfusion h|refine fun _=> ?_|refine And.intro ?_ ?_)
def uB11:zaL (fun p=>le1 (adN (3,2) p)=true->UB (3,2) p) PN:=by repeat (first|exact trivial|exact zab (n:=1000) (zad pr) (by kernel_rfl)|exact fun h=>Bool.noConfusion h|refine fun _=> ?_|refine And.intro ?_ ?_)
def uB12:zaL (fun p=>le1 (adN (11,10) p)=true->UB (11,10) p) PN:=by repeat (first|exact trivial|exact zab (n:=1000) (zad pr) (by kernel_rfl)|exact fun h=>Bool.noConfusion h|refine fun _=> ?_|refine And.intro ?_ ?_)
def uB13:zaL (fun p=>le1 (adN (9,14) p)=true->UB (9,14) p) PN:=by repeat (first|exact trivial|exact zab (n:=1000) (zad pr) (by kernel_rfl)|exact fun h=>Bool.noConfusion h|refine fun _=> ?_|refine And.intro ?_ ?_)
def uB14:zaL (fun p=>le1 (adN (7,12) p)=true->UB (7,12) p) PN:=by repeat (first|exact trivial|exact zab (n:=1000) (zad pr) (by kernel_rfl)|exact fun h=>Bool.noConfusion h|refine fun _=> ?_|refine And.intro ?_ ?_)
def uB15:zaL (fun p=>le1 (adN (4,3) p)=true->UB (4,3) p) PN:=by repeat (first|exact trivial|exact zab (n:=1000) (zad pr) (by kernel_rfl)|exact fun h=>Bool.noConfusion h|refine fun _=> ?_|refine And.intro ?_ ?_)
def uB16:zaL (fun p=>le1 (adN (14,15) p)=true->UB (14,15) p) PN:=by repeat (first|exact trivial|exact zab (n:=1000) (zad pr) (by kernel_rfl)|exact fun h=>Bool.noConfusion h|refine fun _=> ?_|refine And.intro ?_ ?_)
def uB17:zaL (fun p=>le1 (adN (10,21) p)=true->UB (10,21) p) PN:=by repeat (first|exact trivial|exact zab (n:=1000) (zad pr) (by kernel_rfl)|exact fun h=>Bool.noConfusion h|refine fun _=> ?_|refine And.intro ?_ ?_)
def uB18:zaL (fun p=>le1 (adN (11,12) p)=true->UB (11,12) p) PN:=by repeat (first|exact trivial|exact zab (n:=1000) (zad pr) (by kernel_rfl)|exact fun h=>Bool.noConfusion h|refine fun _=> ?_|refine And.intro ?_ ?_)
def uB19:zaL (fun p=>le1 (adN (5,3) p)=true->UB (5,3) p) PN:=by repeat (first|exact trivial|exact zab (n:=1000) (zad pr) (by kernel_rfl)|exact fun h=>Bool.noConfusion h|refine fun _=> ?_|refine And.intro ?_ ?_)
def uB20:zaL (fun p=>le1 (adN (19,15) p)=true->UB (19,15) p) PN:=by repeat (first|exact trivial|exact zab (n:=1000) (zad pr) (by kernel_rfl)|exact fun h=>Bool.noConfusion h|refine fun _=> ?_|refine And.intro ?_ ?_)
def uB21:zaL (fun p=>le1 (adN (17,21) p)=true->UB (17,21) p) PN:=by repeat (first|exact trivial|exact zab (n:=1000) (zad pr) (by kernel_rfl)|exact fun h=>Bool.noConfusion h|refine fun _=> ?_|refine And.intro ?_ ?_)
def uB22:zaL (fun p=>le1 (adN (5,4) p)=true->UB (5,4) p) PN:=by repeat (first|exact trivial|exact zab (n:=1000) (zad pr) (by kernel_rfl)|exact fun h=>Bool.noConfusion h|refine fun _=> ?_|refine And.intro ?_ ?_)
def uB23:zaL (fun p=>le1 (adN (17,20) p)=true->UB (17,20) p) PN:=by repeat (first|exact trivial|exact zab (n:=1000) (zad pr) (by kernel_rfl)|exact fun h=>Bool.noConfusion h|refine fun _=> ?_|refine And.intro ?_ ?_)
def uB24:zaL (fun p=>le1 (adN (11,28) p)=true->UB (11,28) p) PN:=by repeat (first|exact trivial|exact zab (n:=1000) (zad pr) (by kernel_rfl)|exact fun h=>Bool.noConfusion h|refine fun _=> ?_|refine And.intro ?_ ?_)
def uB25:zaL (fun p=>le1 (adN (2,1) p)=true->UB (2,1) p) PN:=by repeat (first|exact trivial|exact zab (n:=1000) (zad pr) (by kernel_rfl)|exact fun h=>Bool.noConfusion h|refine fun _=> ?_|refine And.intro ?_ ?_)
def uB26:zaL (fun p=>le1 (adN (8,5) p)=true->UB (8,5) p) PN:=by repeat (first|exact trivial|exact zab (n:=1000) (zad pr) (by kernel_rfl)|exact fun h=>Bool.noConfusion h|refine fun _=> ?_|refine And.intro ?_ ?_)
def uB27:zaL (fun p=>le1 (adN (8,7) p)=true->UB (8,7) p) PN:=by repeat (first|exact trivial|exact zab (n:=1000) (zad pr) (by kernel_rfl)|exact fun h=>Bool.noConfusion h|refine fun _=> ?_|refine And.intro ?_ ?_)
def uB28:zaL (fun p=>le1 (adN (6,5) p)=true->UB (6,5) p) PN:=by repeat (first|exact trivial|exact zab (n:=1000) (zad pr) (by kernel_rfl)|exact fun h=>Bool.noConfusion h|refine fun _=> ?_|refine And.intro ?_ ?_)
def uB29:zaL (fun p=>le1 (adN (26,35) p)=true->UB (26,35) p) PN:=by repeat (first|exact trivial|exact zab (n:=1000) (zad pr) (by kernel_rfl)|exact fun h=>Bool.noConfusion h|refine fun _=> ?_|refine And.intro ?_ ?_)
def uB30:zaL (fun p=>le1 (adN (2,7) p)=true->UB (2,7) p) PN:=by repeat (first|exact trivial|exact zab (n:=1000) (zad pr) (by kernel_rfl)|exact fun h=>Bool.noConfusion h|refine fun _=> ?_|refine And.intro ?_ ?_)
def uB:zaL (fun s=>zaL (fun p=>le1 (adN s p)=true->UB s p) PN) DA:=⟨uB0,uB1,uB2,uB3,uB4,uB5,uB6,uB7,uB8,uB9,uB10,uB11,uB12,uB13,uB14,uB15,uB16,uB17,uB18,uB19,uB20,uB21,uB22,uB23,uB24,uB25,uB26,uB27,uB28,uB29,uB30,trivial⟩
end Go.Proofs.YtlinkhjnihjbaaaGreatDoor
