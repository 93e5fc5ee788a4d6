import Derived.Test.YtonhhjihmbcfnaaDoorBase
import Derived.Test.YtonhhjihmbcfnaaDoorSoundM
import Derived.Test.YtonhhjihmbcfnaaDoorBits
import Derived.Test.YtonhhjihmbcfnaaDoorTabs
namespace Go.Proofs.YtonhhjihmbcfnaaDoor
open Go.RowKit
set_option linter.unusedSimpArgs false
set_option linter.unusedVariables false

def Sound.enc (s : Sound) (p0 p1 p2 p3 : Nat) : List Value := [.pointer (some ⟨p0, 0, none⟩), .pointer (some ⟨p1, 0, none⟩), .pointer (some ⟨p2, 0, none⟩), .pointer (some ⟨p3, 0, none⟩), .int .u8 s.m.q0, .int .u8 s.m.q1, .int .u8 s.m.q2, .int .u8 s.m.q3, .int .u8 s.m.level, .int .u8 s.m.next, .bool s.m.waits, .int .u8 s.m.row, .int .u8 s.m.bits, .bool s.m.speaks, .int .u16 s.m.timer, .int .u16 s.m.at_, .int .i64 s.m.left, .bool s.m.irq, .int .i64 s.count, .int .i64 s.manner, .bool s.bars, .bool s.irq, .bool s.even]
end Go.Proofs.YtonhhjihmbcfnaaDoor
