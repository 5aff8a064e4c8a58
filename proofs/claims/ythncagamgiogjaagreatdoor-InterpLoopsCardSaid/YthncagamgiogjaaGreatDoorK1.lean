/- On the way to: InterpLoops returns true; its listed variables read as the text lays them. -/
import Derived.Test.YthncagamgiogjaaGreatDoorRows
import Derived.LaidByTextLater
import Derived.SevenTiedAt
import Derived.LaidOnce
import Derived.KernelRfl
namespace Go.Proofs.YthncagamgiogjaaGreatDoor
open Go
set_option maxRecDepth 100000
noncomputable def tieList:List (String × DataW Unit):=[("internal/strconv.uint64pow10",Rows.laid_internal_strconv_uint64pow10),("math/bits.deBruijn32tab",Rows.laid_math_bits_deBruijn32tab),("math/bits.deBruijn64tab",Rows.laid_math_bits_deBruijn64tab),("strings.asciiSpace",Rows.laid_strings_asciiSpace),("unicode.White_Space",Rows.laid_unicode_White_Space),("strconv.ErrSyntax",Rows.laid_strconv_ErrSyntax),("strconv.ErrRange",Rows.laid_strconv_ErrRange)]
end Go.Proofs.YthncagamgiogjaaGreatDoor
namespace Go.Proofs.YthncagamgiogjaaGreatDoor
open Go
set_option maxRecDepth 100000
theorem tieW:Tryz.prog.worded (varsWordLater true)=true:=by kernel_rfl
theorem tieW':Tryz.prog.worded (varsWordLater !true)=false:=by kernel_rfl
theorem tieRoot:Tryz.prog.worded rootWordLater=true:=by kernel_rfl
end Go.Proofs.YthncagamgiogjaaGreatDoor
namespace Go.Proofs.YthncagamgiogjaaGreatDoor
open Go
set_option maxRecDepth 100000
theorem tieKinds:tieList.map (fun x=>Tryz.prog.kindOfLater x.1)=([.data,.data,.data,.data,.listed,.sentinel,.sentinel]:List LaidKind).map some:=by kernel_rfl
end Go.Proofs.YthncagamgiogjaaGreatDoor
namespace Go.Proofs.YthncagamgiogjaaGreatDoor
open Go
set_option maxRecDepth 100000
theorem noOwnUnsafe:Tryz.pinned.checked.prog.headLifts.contains "ownunsafe" = false:=by kernel_rfl
end Go.Proofs.YthncagamgiogjaaGreatDoor
