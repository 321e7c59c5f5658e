/- Plain: the shapes of the things that are laid. No condition: no program is in sight. -/
import Derived.Test.YtkdmfjpfanmgmaaLay5
namespace Go.Proofs.Ytkdmfjpfanmgmaa

def shColumn : List Sh := [.text, .num, .flag]
def shRule : List Sh := [.text, .num, .rows [.text], .whole, .whole, .text, .text, .text]
def shTable : List Sh := [.text, .text, .text, .rows shColumn, .rows shRule]
def shSchema : List Sh := [.text, .text]
def shMember : List Sh := [.text, .text]
def shGrant : List Sh := [.text, .text, .num, .text, .text, .flag]
def shObjects : List Sh := [.rows shSchema, .rows shTable]
def shCatalog : List Sh := [.num, .num, .rows shSchema, .rows shTable, .rows [.text], .rows shMember, .rows shGrant]
def shCommand : List Sh := [.num, .text, .text, .text, .text, .text, .rows shColumn, .text, .num, .rows [.text], .whole, .whole, .text, .text, .text, .num, .flag]
def shConfig : List Sh := [.rows [.num], .rows [.num]]
def shRecord : List Sh := [.num, .num, .num, .num, .num, .num, .rows [.num], .rows [.num], .text, .num, .num, .num, .rows [.num], .rows [.num], .text]
def shOp : List Sh := [.num, .num, .num, .num, .text, .text, .text, .text, .text, .rows shColumn, .text, .num, .rows [.text], .whole, .whole, .text, .text, .text, .num, .flag, .num, .num, .num]
def shLease : List Sh := [.num, .num, .num, .num]
def shDone : List Sh := [.num, .num, .num, .num, .num]
def shMachine : List Sh := [.num, .num, .rows shSchema, .rows shTable, .rows [.text], .rows shMember, .rows shGrant, .rows shDone, .rows shLease, .num]
end Go.Proofs.Ytkdmfjpfanmgmaa
