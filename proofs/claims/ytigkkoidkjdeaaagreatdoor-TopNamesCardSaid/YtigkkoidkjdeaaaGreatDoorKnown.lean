/-
  The calls listed do what their entries say.
-/
import Derived.Test.YtigkkoidkjdeaaaGreatDoorRun0
import Derived.Test.YtigkkoidkjdeaaaGreatDoorRun1
import Derived.Test.YtigkkoidkjdeaaaGreatDoorRun2
import Derived.Test.YtigkkoidkjdeaaaGreatDoorPrims
namespace Go.EvN
open Go Go.Ev Go.Proofs
theorem ok0 : EntOK Tryz.prog e0 := ent_of E_ok P_ok (tabOf_ok all_nil) run0
theorem ok1 : EntOK Tryz.prog e1 := ent_of E_ok P_ok (tabOf_ok all_nil) run1
theorem ok2 : EntOK Tryz.prog e2 := ent_ren ren2 ok1
theorem ok3 : EntOK Tryz.prog e3 := ent_of E_ok P_ok (tabOf_ok (all_cons ok1 (all_cons ok2 all_nil))) run3
theorem ok4 : EntOK Tryz.prog e4 := ent_of E_ok P_ok (tabOf_ok (all_cons ok0 (all_cons ok3 all_nil))) run4
theorem ok5 : EntOK Tryz.prog e5 := ent_ren ren5 ok4
theorem ok6 : EntOK Tryz.prog e6 := ent_of E_ok P_ok (tabOf_ok all_nil) run6
theorem ok7 : EntOK Tryz.prog e7 := ent_of E_ok P_ok (tabOf_ok all_nil) run7
theorem ok8 : EntOK Tryz.prog e8 := ent_of E_ok P_ok (tabOf_ok all_nil) run8
theorem ok9 : EntOK Tryz.prog e9 := ent_of E_ok P_ok (tabOf_ok all_nil) run9
theorem ok10 : EntOK Tryz.prog e10 := ent_of E_ok P_ok (tabOf_ok all_nil) run10
theorem ok11 : EntOK Tryz.prog e11 := ent_of E_ok P_ok (tabOf_ok (all_cons ok6 (all_cons ok7 (all_cons ok8 (all_cons ok9 (all_cons ok10 all_nil)))))) run11
theorem ok12 : EntOK Tryz.prog e12 := ent_ren ren12 ok4
theorem ok13 : EntOK Tryz.prog e13 := ent_ren ren13 ok6
theorem ok14 : EntOK Tryz.prog e14 := ent_ren ren14 ok7
theorem ok15 : EntOK Tryz.prog e15 := ent_ren ren15 ok8
theorem ok16 : EntOK Tryz.prog e16 := ent_ren ren16 ok9
theorem ok17 : EntOK Tryz.prog e17 := ent_ren ren17 ok10
theorem ok18 : EntOK Tryz.prog e18 := ent_of E_ok P_ok (tabOf_ok (all_cons ok13 (all_cons ok14 (all_cons ok15 (all_cons ok16 (all_cons ok17 all_nil)))))) run18
theorem ok19 : EntOK Tryz.prog e19 := ent_ren ren19 ok4
theorem ok20 : EntOK Tryz.prog e20 := ent_ren ren20 ok11
theorem ok21 : EntOK Tryz.prog e21 := ent_ren ren21 ok4
theorem ok22 : EntOK Tryz.prog e22 := ent_ren ren22 ok18
theorem top_ok : ∀ i e, (tabOf [e4, e5, e11, e12, e18, e19, e20, e21, e22]).get i = some e → EntOK Tryz.prog e := tabOf_ok (all_cons ok4 (all_cons ok5 (all_cons ok11 (all_cons ok12 (all_cons ok18 (all_cons ok19 (all_cons ok20 (all_cons ok21 (all_cons ok22 all_nil)))))))))
end Go.EvN
