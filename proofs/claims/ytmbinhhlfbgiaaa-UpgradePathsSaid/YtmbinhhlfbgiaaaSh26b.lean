/- the shelf's contracts that are used, at this seat (written by the kit's tools) -/
import Derived.Shelf.Strings.Builder1
import Derived.Shelf.Strings.Builder2
import Derived.Shelf.Small.Bits
import Derived.Shelf.Strings.BuilderF
import Derived.Shelf.Strconv.Itoa0
import Derived.Shelf.Strings.Prefix
import Derived.Shelf.Bits.Mul64
import Derived.Shelf.Strings.Repeat
import Derived.Shelf.Slices.CompactS
import Derived.Shelf.Slices.Cells
import Derived.Shelf.Slices.In.SortNone
import Derived.Shelf.SortM.Plain
import Derived.Test.YtmbinhhlfbgiaaaRows
namespace Go.Proofs
open Go.Shelf
open Go.RowKit Go.Lib Go.Sort
def Try.lays194_ren : Go.Shelf.Ren := ⟨fun | 194 => 63 | n => n, fun | 31 => 47 | 9 => 9 | 3 => 3 | 4 => 4 | 0 => 0 | n => n, fun | n => n⟩
def Try.lays190_ren : Go.Shelf.Ren := ⟨fun | 190 => 43 | 125 => 65 | 258 => 64 | 128 => 97 | 129 => 98 | 302 => 88 | 303 => 89 | 304 => 90 | 305 => 91 | 306 => 92 | 307 => 93 | 308 => 94 | 309 => 95 | 310 => 96 | 333 => 106 | 329 => 107 | 330 => 108 | 334 => 109 | 335 => 110 | 336 => 111 | 344 => 114 | n => n, fun | 31 => 47 | 9 => 9 | 3 => 3 | 46 => 117 | 0 => 0 | 51 => 143 | 53 => 145 | 4 => 4 | 183 => 137 | 182 => 136 | 131 => 106 | 5 => 5 | 218 => 153 | 222 => 157 | 228 => 163 | 229 => 164 | n => n, fun | n => n⟩
def Try.laysSlM6_f43_ren : Go.Shelf.Ren := ⟨fun | 6 => 43 | 8 => 65 | 9 => 64 | 19 => 97 | 20 => 98 | 21 => 88 | 22 => 89 | 23 => 90 | 24 => 91 | 25 => 92 | 26 => 93 | 27 => 94 | 28 => 95 | 29 => 96 | 36 => 106 | 31 => 107 | 32 => 108 | 37 => 109 | 38 => 110 | 39 => 111 | 41 => 114 | n => n, fun | 27 => 47 | 29 => 9 | 3 => 3 | 32 => 117 | 26 => 47 | 0 => 0 | 44 => 143 | 46 => 145 | 4 => 4 | 36 => 137 | 35 => 136 | 41 => 106 | 5 => 5 | 9 => 9 | 53 => 153 | 57 => 157 | 63 => 163 | 64 => 164 | n => n, fun | n => n⟩
end Go.Proofs
