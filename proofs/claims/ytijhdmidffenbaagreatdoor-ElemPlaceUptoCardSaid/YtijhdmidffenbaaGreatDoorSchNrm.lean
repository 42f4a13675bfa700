import Derived.Test.YtijhdmidffenbaaGreatDoorViewArm
open Go.Lib (hid)
set_option linter.unusedVariables false
set_option linter.unusedSimpArgs false
namespace Go.Proofs.YtijhdmidffenbaaGreatDoor
open Go.RowKit
def okW (x:Int):Bool:=decide (x / 4294967296=0)&&(!(decide (bits .and .i64 x 2139095040=2139095040) && !decide (bits .and .i64 x 8388607=0)) || decide (x=2143289344))
def chk (t x:Int):Bool :=
 if t=1 then okW x else if t=6 then decide (-2147483648≤x∧x≤2147483647) else if t=9 then decide (x=0∨x=1) else decide (t=7)
set_option maxHeartbeats 400000 in
theorem check_any (t x:Int) (h0:-9223372036854775808≤x) (h1:x≤9223372036854775807) (w:World) :
  Calls Tryz.prog 30 #[.int .i64 t,.int .i64 x] w fun e w'=>e=.returned (.bool (chk t x))∧w=w':=by
 have HR:Hid (okW x=(decide (x / 4294967296=0)&&(!(decide (bits .and .i64 x 2139095040=2139095040) && !decide (bits .and .i64 x 8388607=0)) || decide (x=2143289344)))):=hid rfl;go_enter Tryz.func30,Tryz.ntmps30
 go_wp2
 all_goals (go_ret;go_light;refine ⟨ret_val (bool_val ?_),rfl⟩)
 all_goals (have hr:=HR.out;clear HR;grind [chk,wrap64,wrap32])
end Go.Proofs.YtijhdmidffenbaaGreatDoor
