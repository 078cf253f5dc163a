/-
  The kernel evaluates calls of the program.
-/
import Derived.KernelRfl
import Derived.Test.YtigkkoidkjdeaaaGreatDoorEnts
import Derived.Test.YtigkkoidkjdeaaaGreatDoorEnv
import Derived.Test.YtigkkoidkjdeaaaGreatDoorEvG
set_option maxRecDepth 100000
namespace Go.EvN
open Go Go.Ev
theorem run3 (ob : Obj) : chk e3 (callF E (rcM E (tabOf [e1, e2]) 1000000) false e3.f e3.vs (inH e3 ob)) = some (.gl GLB ob) := by kernel_rfl
theorem run4 (ob : Obj) : chk e4 (callF E (rcM E (tabOf [e0, e3]) 1000000) false e4.f e4.vs (inH e4 ob)) = some (.gl GLB ob) := by kernel_rfl
theorem ren5 : renOK (prs [(0, 0), (1, 1), (1768, 14552), (11609, 24393), (11611, 24395), (9183, 21967), (10185, 22969), (11126, 23910), (11581, 24365), (11461, 24245), (11399, 24183), (11330, 24114), (12021, 24805), (10307, 23091), (11005, 23789), (10430, 23214), (10885, 23669), (10765, 23549), (10703, 23487), (10634, 23418), (11899, 24683), (11867, 24651), (11835, 24619), (11803, 24587), (10063, 22847), (11768, 24552), (9322, 22106), (9926, 22710), (9776, 22560), (9474, 22258), (9626, 22410), (11675, 24459), (11643, 24427), (1757, 14541)]) e4 e5 = true := by kernel_rfl
theorem run6 (ob : Obj) : chk e6 (callF E (rcM E (tabOf []) 1000000) false e6.f e6.vs (inH e6 ob)) = some (.gl GLB ob) := by kernel_rfl
theorem run7 (ob : Obj) : chk e7 (callF E (rcM E (tabOf []) 1000000) false e7.f e7.vs (inH e7 ob)) = some (.gl GLB ob) := by kernel_rfl
theorem run8 (ob : Obj) : chk e8 (callF E (rcM E (tabOf []) 1000000) false e8.f e8.vs (inH e8 ob)) = some (.gl GLB ob) := by kernel_rfl
theorem run9 (ob : Obj) : chk e9 (callF E (rcM E (tabOf []) 1000000) false e9.f e9.vs (inH e9 ob)) = some (.gl GLB ob) := by kernel_rfl
theorem run10 (ob : Obj) : chk e10 (callF E (rcM E (tabOf []) 1000000) false e10.f e10.vs (inH e10 ob)) = some (.gl GLB ob) := by kernel_rfl
theorem run11 (ob : Obj) : chk e11 (callF E (rcM E (tabOf [e6, e7, e8, e9, e10]) 1000000) false e11.f e11.vs (inH e11 ob)) = some (.gl GLB ob) := by kernel_rfl
theorem ren12 : renOK (prs [(0, 0), (1, 1), (1768, 29216), (11609, 39057), (11611, 39059), (9183, 36631), (10185, 37633), (11126, 38574), (11581, 39029), (11461, 38909), (11399, 38847), (11330, 38778), (12021, 39469), (10307, 37755), (11005, 38453), (10430, 37878), (10885, 38333), (10765, 38213), (10703, 38151), (10634, 38082), (11899, 39347), (11867, 39315), (11835, 39283), (11803, 39251), (10063, 37511), (11768, 39216), (9322, 36770), (9926, 37374), (9776, 37224), (9474, 36922), (9626, 37074), (11675, 39123), (11643, 39091), (1757, 29205)]) e4 e12 = true := by kernel_rfl
theorem ren13 : renOK (prs [(0, 0), (24980, 39647), (24973, 39640), (24917, 39581)]) e6 e13 = true := by kernel_rfl
theorem ren14 : renOK (prs [(0, 0), (25108, 39775)]) e7 e14 = true := by kernel_rfl
theorem ren15 : renOK (prs [(0, 0), (25141, 39811)]) e8 e15 = true := by kernel_rfl
theorem ren16 : renOK (prs [(0, 0), (25192, 39868)]) e9 e16 = true := by kernel_rfl
theorem ren17 : renOK (prs [(0, 0), (25214, 39893)]) e10 e17 = true := by kernel_rfl
theorem run18 (ob : Obj) : chk e18 (callF E (rcM E (tabOf [e13, e14, e15, e16, e17]) 1000000) false e18.f e18.vs (inH e18 ob)) = some (.gl GLB ob) := by kernel_rfl
theorem ren19 : renOK (prs [(0, 0), (1, 1), (1768, 43895), (11609, 53736), (11611, 53738), (9183, 51310), (10185, 52312), (11126, 53253), (11581, 53708), (11461, 53588), (11399, 53526), (11330, 53457), (12021, 54148), (10307, 52434), (11005, 53132), (10430, 52557), (10885, 53012), (10765, 52892), (10703, 52830), (10634, 52761), (11899, 54026), (11867, 53994), (11835, 53962), (11803, 53930), (10063, 52190), (11768, 53895), (9322, 51449), (9926, 52053), (9776, 51903), (9474, 51601), (9626, 51753), (11675, 53802), (11643, 53770), (1757, 43884)]) e4 e19 = true := by kernel_rfl
end Go.EvN
