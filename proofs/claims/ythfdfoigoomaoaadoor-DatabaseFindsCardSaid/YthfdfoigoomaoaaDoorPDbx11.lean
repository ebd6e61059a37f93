/- The walks of functions of the translation: each call returns what the plain function beside it says. -/
import Derived.Test.YthfdfoigoomaoaaDoorPDbx0
import Derived.Test.YthfdfoigoomaoaaDoorPDbx1
import Derived.Test.YthfdfoigoomaoaaDoorPDbx4
import Derived.Test.YthfdfoigoomaoaaDoorPDbx8
import Derived.Test.YthfdfoigoomaoaaDoorPDbx9
import Derived.Test.YthfdfoigoomaoaaDoorPDbx10
namespace Go.Proofs.YthfdfoigoomaoaaDoor.PDb
open Go.RowKit Go.Proofs.YthfdfoigoomaoaaDoorW.PrintWords Go.Proofs.YthfdfoigoomaoaaDoorW.PrintLast Go.Proofs.YthfdfoigoomaoaaDoorW.PrintMore Go.Proofs.YthfdfoigoomaoaaDoor.Aid
attribute [local go_sem] max2_int min2_int max_two min_two max_three min_three max_four min_four aid_str_gtr aid_str_leq   -- for this text's walks alone
set_option linter.unusedVariables false
set_option linter.unusedSimpArgs false

/-! ### kerbsuitelaw12_DatabaseFinds: function 4 -/
mutual
def kerbsuitelaw12_DatabaseFinds.j0 : Nat → List Int → ByteArray → ByteArray → Int → Int → Int → Bool → ByteArray → List (S35) → Option (Bool)
 | 0, _, _, _, _, _, _, _, _, _ => none
 | k + 1, x1, x2, x3, x4, x5, x6, x44, x294000, x294001 => if x44 = true then (some true) else ((kerbsuitedata_Database.f k x1 0).bind fun bt296 => ((kerbsuitedata_User.f (Int.tmod (wrap64 (x6)) 3)).bind fun bt301 => (if (Int.tmod x6 2) = 1 then ((kerbsuitedata_Service.f (Int.tmod (wrap64 (Int.tdiv (wrap64 (x6)) 2)) 3)).bind fun bt305 => (kerbsuitelaw12_DatabaseFinds.j1 k x2 x3 x4 x5 x294000 x294001 bt296.1 bt296.2 bt305.1 bt305.2.1 bt305.2.2)) else (kerbsuitelaw12_DatabaseFinds.j1 k x2 x3 x4 x5 x294000 x294001 bt296.1 bt296.2 bt301.1 bt301.2.1 bt301.2.2))))
def kerbsuitelaw12_DatabaseFinds.j1 : Nat → ByteArray → ByteArray → Int → Int → ByteArray → List (S35) → ByteArray → List (S35) → ByteArray → ByteArray → ByteArray → Option (Bool)
 | 0, _, _, _, _, _, _, _, _, _, _, _ => none
 | k + 1, x2, x3, x4, x5, x294000, x294001, x301000, x301001, x305000, x305001, x305002 => kerbsuitelaw12_DatabaseFinds.l0 k x2 x3 x4 x5 0 x294000 x294001 x301000 x301001 x305000 x305001 x305002
def kerbsuitelaw12_DatabaseFinds.l0 : Nat → ByteArray → ByteArray → Int → Int → Int → ByteArray → List (S35) → ByteArray → List (S35) → ByteArray → ByteArray → ByteArray → Option (Bool)
 | 0, _, _, _, _, _, _, _, _, _, _, _, _ => none
 | k + 1, x2, x3, x4, x5, x17, x294000, x294001, x301000, x301001, x305000, x305001, x305002 => if x17 < 4 then ((some (([(⟨x294000, x294001⟩ : S24), (⟨x301000, x301001⟩ : S24)] : List (S24)) : List (S24))).bind fun y308 => (if 0 ≤ (Int.tmod x17 2) then (if (Int.tmod x17 2) < (y308.length : Int) then ((some (([x2, x305000] : List ByteArray) : List ByteArray)).bind fun y313 => (if 0 ≤ (wrap64 (Int.tdiv x17 2)) then (if (wrap64 (Int.tdiv x17 2)) < (y313.length : Int) then ((some (([x3, x305001] : List ByteArray) : List ByteArray)).bind fun y317 => (if (wrap64 (Int.tdiv x17 2)) < (y317.length : Int) then ((some (([x4, wrap64 ((wrap64 (x5)) * 200)] : List Int) : List Int)).bind fun y321 => (if (wrap64 (Int.tdiv x17 2)) < (y321.length : Int) then ((database_Find.f k ((rd_T24 y308 (Int.tmod x17 2)).f0) ((rd_T24 y308 (Int.tmod x17 2)).f1) (rdOf ByteArray.empty y313 (wrap64 (Int.tdiv x17 2))) (rdOf ByteArray.empty y317 (wrap64 (Int.tdiv x17 2)))).bind fun bt325 => ((kerbsuiteref12_Find.f k ((rd_T24 y308 (Int.tmod x17 2)).f0) ((rd_T24 y308 (Int.tmod x17 2)).f1) (rdOf ByteArray.empty y313 (wrap64 (Int.tdiv x17 2))) (rdOf ByteArray.empty y317 (wrap64 (Int.tdiv x17 2)))).bind fun bt327 => (if bt325.1 = bt327.1 then (kerbsuitelaw12_DatabaseFinds.j3 k x2 x3 x4 x5 x17 (rdOf ByteArray.empty y313 (wrap64 (Int.tdiv x17 2))) (rdOf ByteArray.empty y317 (wrap64 (Int.tdiv x17 2))) (rd y321 (wrap64 (Int.tdiv x17 2))) (bt325.2 != bt327.2) x294000 x294001 x301000 x301001 x305000 x305001 x305002 ((rd_T24 y308 (Int.tmod x17 2)).f0) ((rd_T24 y308 (Int.tmod x17 2)).f1)) else (kerbsuitelaw12_DatabaseFinds.j3 k x2 x3 x4 x5 x17 (rdOf ByteArray.empty y313 (wrap64 (Int.tdiv x17 2))) (rdOf ByteArray.empty y317 (wrap64 (Int.tdiv x17 2))) (rd y321 (wrap64 (Int.tdiv x17 2))) true x294000 x294001 x301000 x301001 x305000 x305001 x305002 ((rd_T24 y308 (Int.tmod x17 2)).f0) ((rd_T24 y308 (Int.tmod x17 2)).f1))))) else (none))) else (none))) else (none)) else (none))) else (none)) else (none))) else (some true)
def kerbsuitelaw12_DatabaseFinds.j3 : Nat → ByteArray → ByteArray → Int → Int → Int → ByteArray → ByteArray → Int → Bool → ByteArray → List (S35) → ByteArray → List (S35) → ByteArray → ByteArray → ByteArray → ByteArray → List (S35) → Option (Bool)
 | 0, _, _, _, _, _, _, _, _, _, _, _, _, _, _, _, _, _, _ => none
 | k + 1, x2, x3, x4, x5, x17, x19, x20, x21, x116, x294000, x294001, x301000, x301001, x305000, x305001, x305002, x313000, x313001 => if x116 = true then (some false) else ((database_Client.f k x313000 x313001 x19 x20 x21).bind fun bt329 => ((kerbsuiteref12_Client.f k x313000 x313001 x19 x20 x21).bind fun bt331 => (if bt329.1 = bt331.1 then (kerbsuitelaw12_DatabaseFinds.j4 k x2 x3 x4 x5 x17 x19 x20 x21 (bt329.2 != bt331.2) x294000 x294001 x301000 x301001 x305000 x305001 x305002 x313000 x313001) else (kerbsuitelaw12_DatabaseFinds.j4 k x2 x3 x4 x5 x17 x19 x20 x21 true x294000 x294001 x301000 x301001 x305000 x305001 x305002 x313000 x313001))))
def kerbsuitelaw12_DatabaseFinds.j4 : Nat → ByteArray → ByteArray → Int → Int → Int → ByteArray → ByteArray → Int → Bool → ByteArray → List (S35) → ByteArray → List (S35) → ByteArray → ByteArray → ByteArray → ByteArray → List (S35) → Option (Bool)
 | 0, _, _, _, _, _, _, _, _, _, _, _, _, _, _, _, _, _, _ => none
 | k + 1, x2, x3, x4, x5, x17, x19, x20, x21, x140, x294000, x294001, x301000, x301001, x305000, x305001, x305002, x313000, x313001 => if x140 = true then (some false) else ((database_Service.f k x313000 x313001 x19 x20 x21).bind fun bt333 => ((kerbsuiteref12_Service.f k x313000 x313001 x19 x20 x21).bind fun bt335 => (if bt333.1 = bt335.1 then (if bt333.2 = bt335.2 then (kerbsuitelaw12_DatabaseFinds.l0 k x2 x3 x4 x5 (wrap64 (x17 + 1)) x294000 x294001 x301000 x301001 x305000 x305001 x305002) else (some false)) else (some false))))
end
def kerbsuitelaw12_DatabaseFinds.f (k : Nat) (a0_0 : ByteArray) (l0_1 : List (S35)) (l1 : List Int) (a2 : ByteArray) (a3 : ByteArray) (a4 : Int) (a5 : Int) (a6 : Int) : Option (Bool) := (kerbsuitelaw12_awake.f k).bind fun t294 => (if t294 = true then ((kerbsuitelaw12_long.f k a0_0 l0_1).bind fun t295 => (if t295 = true then (kerbsuitelaw12_DatabaseFinds.j0 k l1 a2 a3 a4 a5 a6 true a0_0 l0_1) else (if (a2.size : Int) > 100 then (kerbsuitelaw12_DatabaseFinds.j0 k l1 a2 a3 a4 a5 a6 true a0_0 l0_1) else (if (a3.size : Int) > 100 then (kerbsuitelaw12_DatabaseFinds.j0 k l1 a2 a3 a4 a5 a6 true a0_0 l0_1) else (kerbsuitelaw12_DatabaseFinds.j0 k l1 a2 a3 a4 a5 a6 (decide ((l1.length : Int) > 300)) a0_0 l0_1))))) else (some false))
theorem kerbsuitelaw12_DatabaseFinds.mono_l : ∀ k, (∀ y0 y1 y2 y3 y4 y5 y6 y7 y8, LeO (kerbsuitelaw12_DatabaseFinds.j0 k y0 y1 y2 y3 y4 y5 y6 y7 y8) (kerbsuitelaw12_DatabaseFinds.j0 (k + 1) y0 y1 y2 y3 y4 y5 y6 y7 y8)) ∧ (∀ y0 y1 y2 y3 y4 y5 y6 y7 y8 y9 y10, LeO (kerbsuitelaw12_DatabaseFinds.j1 k y0 y1 y2 y3 y4 y5 y6 y7 y8 y9 y10) (kerbsuitelaw12_DatabaseFinds.j1 (k + 1) y0 y1 y2 y3 y4 y5 y6 y7 y8 y9 y10)) ∧ (∀ y0 y1 y2 y3 y4 y5 y6 y7 y8 y9 y10 y11, LeO (kerbsuitelaw12_DatabaseFinds.l0 k y0 y1 y2 y3 y4 y5 y6 y7 y8 y9 y10 y11) (kerbsuitelaw12_DatabaseFinds.l0 (k + 1) y0 y1 y2 y3 y4 y5 y6 y7 y8 y9 y10 y11)) ∧ (∀ y0 y1 y2 y3 y4 y5 y6 y7 y8 y9 y10 y11 y12 y13 y14 y15 y16 y17, LeO (kerbsuitelaw12_DatabaseFinds.j3 k y0 y1 y2 y3 y4 y5 y6 y7 y8 y9 y10 y11 y12 y13 y14 y15 y16 y17) (kerbsuitelaw12_DatabaseFinds.j3 (k + 1) y0 y1 y2 y3 y4 y5 y6 y7 y8 y9 y10 y11 y12 y13 y14 y15 y16 y17)) ∧ (∀ y0 y1 y2 y3 y4 y5 y6 y7 y8 y9 y10 y11 y12 y13 y14 y15 y16 y17, LeO (kerbsuitelaw12_DatabaseFinds.j4 k y0 y1 y2 y3 y4 y5 y6 y7 y8 y9 y10 y11 y12 y13 y14 y15 y16 y17) (kerbsuitelaw12_DatabaseFinds.j4 (k + 1) y0 y1 y2 y3 y4 y5 y6 y7 y8 y9 y10 y11 y12 y13 y14 y15 y16 y17))
 | 0 => ⟨fun _ _ _ _ _ _ _ _ _ r h => by simp [kerbsuitelaw12_DatabaseFinds.j0] at h, fun _ _ _ _ _ _ _ _ _ _ _ r h => by simp [kerbsuitelaw12_DatabaseFinds.j1] at h, fun _ _ _ _ _ _ _ _ _ _ _ _ r h => by simp [kerbsuitelaw12_DatabaseFinds.l0] at h, fun _ _ _ _ _ _ _ _ _ _ _ _ _ _ _ _ _ _ r h => by simp [kerbsuitelaw12_DatabaseFinds.j3] at h, fun _ _ _ _ _ _ _ _ _ _ _ _ _ _ _ _ _ _ r h => by simp [kerbsuitelaw12_DatabaseFinds.j4] at h⟩
 | k + 1 => by
  obtain ⟨ih0, ih1, ih2, ih3, ih4⟩ := kerbsuitelaw12_DatabaseFinds.mono_l k
  refine ⟨?_, ?_, ?_, ?_, ?_⟩
  ·intro y0 y1 y2 y3 y4 y5 y6 y7 y8
   unfold kerbsuitelaw12_DatabaseFinds.j0
   repeat' first
   | (with_reducible exact ih0 _ _ _ _ _ _ _ _ _)
   | (with_reducible exact ih1 _ _ _ _ _ _ _ _ _ _ _)
   | (with_reducible exact ih2 _ _ _ _ _ _ _ _ _ _ _ _)
   | (with_reducible exact ih3 _ _ _ _ _ _ _ _ _ _ _ _ _ _ _ _ _ _)
   | (with_reducible exact ih4 _ _ _ _ _ _ _ _ _ _ _ _ _ _ _ _ _ _)
   | (with_reducible exact database_Client.mono _ _ _ _ _ _)
   | (with_reducible exact database_Find.mono _ _ _ _ _)
   | (with_reducible exact database_Service.mono _ _ _ _ _ _)
   | (with_reducible exact kerbsuitedata_Database.mono _ _ _)
   | (with_reducible exact kerbsuitelaw12_awake.mono _)
   | (with_reducible exact kerbsuitelaw12_long.mono _ _ _)
   | (with_reducible exact kerbsuiteref12_Client.mono _ _ _ _ _ _)
   | (with_reducible exact kerbsuiteref12_Find.mono _ _ _ _ _)
   | (with_reducible exact kerbsuiteref12_Service.mono _ _ _ _ _ _)
   | (with_reducible exact LeO.refl _)
   | (with_reducible exact LeO.none _)
   | (with_reducible refine LeO.ite ?_ ?_)
   | (with_reducible refine LeO.bind ?_ (fun _ => ?_))
   | exact ih0 _ _ _ _ _ _ _ _ _
   | exact ih1 _ _ _ _ _ _ _ _ _ _ _
   | exact ih2 _ _ _ _ _ _ _ _ _ _ _ _
   | exact ih3 _ _ _ _ _ _ _ _ _ _ _ _ _ _ _ _ _ _
   | exact ih4 _ _ _ _ _ _ _ _ _ _ _ _ _ _ _ _ _ _
   | exact database_Client.mono _ _ _ _ _ _
   | exact database_Find.mono _ _ _ _ _
   | exact database_Service.mono _ _ _ _ _ _
   | exact kerbsuitedata_Database.mono _ _ _
   | exact kerbsuitelaw12_awake.mono _
   | exact kerbsuitelaw12_long.mono _ _ _
   | exact kerbsuiteref12_Client.mono _ _ _ _ _ _
   | exact kerbsuiteref12_Find.mono _ _ _ _ _
   | exact kerbsuiteref12_Service.mono _ _ _ _ _ _
   | exact LeO.none _
   | refine LeO.ite ?_ ?_
   | refine LeO.bind ?_ (fun _ => ?_)
  ·intro y0 y1 y2 y3 y4 y5 y6 y7 y8 y9 y10
   unfold kerbsuitelaw12_DatabaseFinds.j1
   repeat' first
   | (with_reducible exact ih0 _ _ _ _ _ _ _ _ _)
   | (with_reducible exact ih1 _ _ _ _ _ _ _ _ _ _ _)
   | (with_reducible exact ih2 _ _ _ _ _ _ _ _ _ _ _ _)
   | (with_reducible exact ih3 _ _ _ _ _ _ _ _ _ _ _ _ _ _ _ _ _ _)
   | (with_reducible exact ih4 _ _ _ _ _ _ _ _ _ _ _ _ _ _ _ _ _ _)
   | (with_reducible exact database_Client.mono _ _ _ _ _ _)
   | (with_reducible exact database_Find.mono _ _ _ _ _)
   | (with_reducible exact database_Service.mono _ _ _ _ _ _)
   | (with_reducible exact kerbsuitedata_Database.mono _ _ _)
   | (with_reducible exact kerbsuitelaw12_awake.mono _)
   | (with_reducible exact kerbsuitelaw12_long.mono _ _ _)
   | (with_reducible exact kerbsuiteref12_Client.mono _ _ _ _ _ _)
   | (with_reducible exact kerbsuiteref12_Find.mono _ _ _ _ _)
   | (with_reducible exact kerbsuiteref12_Service.mono _ _ _ _ _ _)
   | (with_reducible exact LeO.refl _)
   | (with_reducible exact LeO.none _)
   | (with_reducible refine LeO.ite ?_ ?_)
   | (with_reducible refine LeO.bind ?_ (fun _ => ?_))
   | exact ih0 _ _ _ _ _ _ _ _ _
   | exact ih1 _ _ _ _ _ _ _ _ _ _ _
   | exact ih2 _ _ _ _ _ _ _ _ _ _ _ _
   | exact ih3 _ _ _ _ _ _ _ _ _ _ _ _ _ _ _ _ _ _
   | exact ih4 _ _ _ _ _ _ _ _ _ _ _ _ _ _ _ _ _ _
   | exact database_Client.mono _ _ _ _ _ _
   | exact database_Find.mono _ _ _ _ _
   | exact database_Service.mono _ _ _ _ _ _
   | exact kerbsuitedata_Database.mono _ _ _
   | exact kerbsuitelaw12_awake.mono _
   | exact kerbsuitelaw12_long.mono _ _ _
   | exact kerbsuiteref12_Client.mono _ _ _ _ _ _
   | exact kerbsuiteref12_Find.mono _ _ _ _ _
   | exact kerbsuiteref12_Service.mono _ _ _ _ _ _
   | exact LeO.none _
   | refine LeO.ite ?_ ?_
   | refine LeO.bind ?_ (fun _ => ?_)
  ·intro y0 y1 y2 y3 y4 y5 y6 y7 y8 y9 y10 y11
   unfold kerbsuitelaw12_DatabaseFinds.l0
   repeat' first
   | (with_reducible exact ih0 _ _ _ _ _ _ _ _ _)
   | (with_reducible exact ih1 _ _ _ _ _ _ _ _ _ _ _)
   | (with_reducible exact ih2 _ _ _ _ _ _ _ _ _ _ _ _)
   | (with_reducible exact ih3 _ _ _ _ _ _ _ _ _ _ _ _ _ _ _ _ _ _)
   | (with_reducible exact ih4 _ _ _ _ _ _ _ _ _ _ _ _ _ _ _ _ _ _)
   | (with_reducible exact database_Client.mono _ _ _ _ _ _)
   | (with_reducible exact database_Find.mono _ _ _ _ _)
   | (with_reducible exact database_Service.mono _ _ _ _ _ _)
   | (with_reducible exact kerbsuitedata_Database.mono _ _ _)
   | (with_reducible exact kerbsuitelaw12_awake.mono _)
   | (with_reducible exact kerbsuitelaw12_long.mono _ _ _)
   | (with_reducible exact kerbsuiteref12_Client.mono _ _ _ _ _ _)
   | (with_reducible exact kerbsuiteref12_Find.mono _ _ _ _ _)
   | (with_reducible exact kerbsuiteref12_Service.mono _ _ _ _ _ _)
   | (with_reducible exact LeO.refl _)
   | (with_reducible exact LeO.none _)
   | (with_reducible refine LeO.ite ?_ ?_)
   | (with_reducible refine LeO.bind ?_ (fun _ => ?_))
   | exact ih0 _ _ _ _ _ _ _ _ _
   | exact ih1 _ _ _ _ _ _ _ _ _ _ _
   | exact ih2 _ _ _ _ _ _ _ _ _ _ _ _
   | exact ih3 _ _ _ _ _ _ _ _ _ _ _ _ _ _ _ _ _ _
   | exact ih4 _ _ _ _ _ _ _ _ _ _ _ _ _ _ _ _ _ _
   | exact database_Client.mono _ _ _ _ _ _
   | exact database_Find.mono _ _ _ _ _
   | exact database_Service.mono _ _ _ _ _ _
   | exact kerbsuitedata_Database.mono _ _ _
   | exact kerbsuitelaw12_awake.mono _
   | exact kerbsuitelaw12_long.mono _ _ _
   | exact kerbsuiteref12_Client.mono _ _ _ _ _ _
   | exact kerbsuiteref12_Find.mono _ _ _ _ _
   | exact kerbsuiteref12_Service.mono _ _ _ _ _ _
   | exact LeO.none _
   | refine LeO.ite ?_ ?_
   | refine LeO.bind ?_ (fun _ => ?_)
  ·intro y0 y1 y2 y3 y4 y5 y6 y7 y8 y9 y10 y11 y12 y13 y14 y15 y16 y17
   unfold kerbsuitelaw12_DatabaseFinds.j3
   repeat' first
   | (with_reducible exact ih0 _ _ _ _ _ _ _ _ _)
   | (with_reducible exact ih1 _ _ _ _ _ _ _ _ _ _ _)
   | (with_reducible exact ih2 _ _ _ _ _ _ _ _ _ _ _ _)
   | (with_reducible exact ih3 _ _ _ _ _ _ _ _ _ _ _ _ _ _ _ _ _ _)
   | (with_reducible exact ih4 _ _ _ _ _ _ _ _ _ _ _ _ _ _ _ _ _ _)
   | (with_reducible exact database_Client.mono _ _ _ _ _ _)
   | (with_reducible exact database_Find.mono _ _ _ _ _)
   | (with_reducible exact database_Service.mono _ _ _ _ _ _)
   | (with_reducible exact kerbsuitedata_Database.mono _ _ _)
   | (with_reducible exact kerbsuitelaw12_awake.mono _)
   | (with_reducible exact kerbsuitelaw12_long.mono _ _ _)
   | (with_reducible exact kerbsuiteref12_Client.mono _ _ _ _ _ _)
   | (with_reducible exact kerbsuiteref12_Find.mono _ _ _ _ _)
   | (with_reducible exact kerbsuiteref12_Service.mono _ _ _ _ _ _)
   | (with_reducible exact LeO.refl _)
   | (with_reducible exact LeO.none _)
   | (with_reducible refine LeO.ite ?_ ?_)
   | (with_reducible refine LeO.bind ?_ (fun _ => ?_))
   | exact ih0 _ _ _ _ _ _ _ _ _
   | exact ih1 _ _ _ _ _ _ _ _ _ _ _
   | exact ih2 _ _ _ _ _ _ _ _ _ _ _ _
   | exact ih3 _ _ _ _ _ _ _ _ _ _ _ _ _ _ _ _ _ _
   | exact ih4 _ _ _ _ _ _ _ _ _ _ _ _ _ _ _ _ _ _
   | exact database_Client.mono _ _ _ _ _ _
   | exact database_Find.mono _ _ _ _ _
   | exact database_Service.mono _ _ _ _ _ _
   | exact kerbsuitedata_Database.mono _ _ _
   | exact kerbsuitelaw12_awake.mono _
   | exact kerbsuitelaw12_long.mono _ _ _
   | exact kerbsuiteref12_Client.mono _ _ _ _ _ _
   | exact kerbsuiteref12_Find.mono _ _ _ _ _
   | exact kerbsuiteref12_Service.mono _ _ _ _ _ _
   | exact LeO.none _
   | refine LeO.ite ?_ ?_
   | refine LeO.bind ?_ (fun _ => ?_)
  intro y0 y1 y2 y3 y4 y5 y6 y7 y8 y9 y10 y11 y12 y13 y14 y15 y16 y17
  unfold kerbsuitelaw12_DatabaseFinds.j4
  repeat' first
  | (with_reducible exact ih0 _ _ _ _ _ _ _ _ _)
  | (with_reducible exact ih1 _ _ _ _ _ _ _ _ _ _ _)
  | (with_reducible exact ih2 _ _ _ _ _ _ _ _ _ _ _ _)
  | (with_reducible exact ih3 _ _ _ _ _ _ _ _ _ _ _ _ _ _ _ _ _ _)
  | (with_reducible exact ih4 _ _ _ _ _ _ _ _ _ _ _ _ _ _ _ _ _ _)
  | (with_reducible exact database_Client.mono _ _ _ _ _ _)
  | (with_reducible exact database_Find.mono _ _ _ _ _)
  | (with_reducible exact database_Service.mono _ _ _ _ _ _)
  | (with_reducible exact kerbsuitedata_Database.mono _ _ _)
  | (with_reducible exact kerbsuitelaw12_awake.mono _)
  | (with_reducible exact kerbsuitelaw12_long.mono _ _ _)
  | (with_reducible exact kerbsuiteref12_Client.mono _ _ _ _ _ _)
  | (with_reducible exact kerbsuiteref12_Find.mono _ _ _ _ _)
  | (with_reducible exact kerbsuiteref12_Service.mono _ _ _ _ _ _)
  | (with_reducible exact LeO.refl _)
  | (with_reducible exact LeO.none _)
  | (with_reducible refine LeO.ite ?_ ?_)
  | (with_reducible refine LeO.bind ?_ (fun _ => ?_))
  | exact ih0 _ _ _ _ _ _ _ _ _
  | exact ih1 _ _ _ _ _ _ _ _ _ _ _
  | exact ih2 _ _ _ _ _ _ _ _ _ _ _ _
  | exact ih3 _ _ _ _ _ _ _ _ _ _ _ _ _ _ _ _ _ _
  | exact ih4 _ _ _ _ _ _ _ _ _ _ _ _ _ _ _ _ _ _
  | exact database_Client.mono _ _ _ _ _ _
  | exact database_Find.mono _ _ _ _ _
  | exact database_Service.mono _ _ _ _ _ _
  | exact kerbsuitedata_Database.mono _ _ _
  | exact kerbsuitelaw12_awake.mono _
  | exact kerbsuitelaw12_long.mono _ _ _
  | exact kerbsuiteref12_Client.mono _ _ _ _ _ _
  | exact kerbsuiteref12_Find.mono _ _ _ _ _
  | exact kerbsuiteref12_Service.mono _ _ _ _ _ _
  | exact LeO.none _
  | refine LeO.ite ?_ ?_
  | refine LeO.bind ?_ (fun _ => ?_)
theorem kerbsuitelaw12_DatabaseFinds.mono : ∀ a0 a1 a2 a3 a4 a5 a6 a7 k, LeO (kerbsuitelaw12_DatabaseFinds.f k a0 a1 a2 a3 a4 a5 a6 a7) (kerbsuitelaw12_DatabaseFinds.f (k + 1) a0 a1 a2 a3 a4 a5 a6 a7) := by
 intro a0 a1 a2 a3 a4 a5 a6 a7 k
 obtain ⟨ih0, ih1, ih2, ih3, ih4⟩ := kerbsuitelaw12_DatabaseFinds.mono_l k
 unfold kerbsuitelaw12_DatabaseFinds.f
 repeat' first
   | (with_reducible exact ih0 _ _ _ _ _ _ _ _ _)
   | (with_reducible exact ih1 _ _ _ _ _ _ _ _ _ _ _)
   | (with_reducible exact ih2 _ _ _ _ _ _ _ _ _ _ _ _)
   | (with_reducible exact ih3 _ _ _ _ _ _ _ _ _ _ _ _ _ _ _ _ _ _)
   | (with_reducible exact ih4 _ _ _ _ _ _ _ _ _ _ _ _ _ _ _ _ _ _)
   | (with_reducible exact database_Client.mono _ _ _ _ _ _)
   | (with_reducible exact database_Find.mono _ _ _ _ _)
   | (with_reducible exact database_Service.mono _ _ _ _ _ _)
   | (with_reducible exact kerbsuitedata_Database.mono _ _ _)
   | (with_reducible exact kerbsuitelaw12_awake.mono _)
   | (with_reducible exact kerbsuitelaw12_long.mono _ _ _)
   | (with_reducible exact kerbsuiteref12_Client.mono _ _ _ _ _ _)
   | (with_reducible exact kerbsuiteref12_Find.mono _ _ _ _ _)
   | (with_reducible exact kerbsuiteref12_Service.mono _ _ _ _ _ _)
   | (with_reducible exact LeO.refl _)
   | (with_reducible exact LeO.none _)
   | (with_reducible refine LeO.ite ?_ ?_)
   | (with_reducible refine LeO.bind ?_ (fun _ => ?_))
   | exact ih0 _ _ _ _ _ _ _ _ _
   | exact ih1 _ _ _ _ _ _ _ _ _ _ _
   | exact ih2 _ _ _ _ _ _ _ _ _ _ _ _
   | exact ih3 _ _ _ _ _ _ _ _ _ _ _ _ _ _ _ _ _ _
   | exact ih4 _ _ _ _ _ _ _ _ _ _ _ _ _ _ _ _ _ _
   | exact database_Client.mono _ _ _ _ _ _
   | exact database_Find.mono _ _ _ _ _
   | exact database_Service.mono _ _ _ _ _ _
   | exact kerbsuitedata_Database.mono _ _ _
   | exact kerbsuitelaw12_awake.mono _
   | exact kerbsuitelaw12_long.mono _ _ _
   | exact kerbsuiteref12_Client.mono _ _ _ _ _ _
   | exact kerbsuiteref12_Find.mono _ _ _ _ _
   | exact kerbsuiteref12_Service.mono _ _ _ _ _ _
   | exact LeO.none _
   | refine LeO.ite ?_ ?_
   | refine LeO.bind ?_ (fun _ => ?_)
def kerbsuitelaw12_DatabaseFinds.T13 : Bool × List (List Nat × List Nat) := (true,[([], []), ([], []), ([1], [1]), ([0, 2], [0, 2]), ([], []), ([4], [4]), ([3, 5], [3, 5]), ([6], [6]), ([], []), ([], []), ([9], [9]), ([8, 10], [8, 10]), ([], []), ([12], [12]), ([11, 13], [11, 13]), ([14], [14]), ([7, 0, 1, 2, 3, 4, 5, 6, 7], [7]), ([15, 16, 0, 1, 2, 3, 4, 5, 6, 7, 8, 9, 10, 11, 12, 13, 14, 15, 16], [15])])
def kerbsuitelaw12_DatabaseFinds.B13 : List Nat := [0, 0, 2, 7, 0, 16, 63, 127, 0, 0, 512, 1792, 0, 4096, 16128, 32512, 255, 131071]
theorem kerbsuitelaw12_DatabaseFinds.tab13 : rtab .any (opsOf Tryd.f4 13) = kerbsuitelaw12_DatabaseFinds.T13 := by kernel_rfl
theorem kerbsuitelaw12_DatabaseFinds.bits13 : waitsOk kerbsuitelaw12_DatabaseFinds.T13.2 kerbsuitelaw12_DatabaseFinds.B13 = true := by kernel_rfl
set_option maxHeartbeats 8000000 in
set_option maxRecDepth 100000 in
theorem kerbsuitelaw12_DatabaseFinds.calls (k : Nat) (a0_0 : ByteArray) (P0_1_ : Nat → Prop) (A0_1 : Option Addr) (c0_1 : Nat) (l0_1 : List (S35)) (A1 : Option Addr) (c1 : Nat) (l1 : List Int) (a2 : ByteArray) (a3 : ByteArray) (a4 : Int) (a5 : Int) (a6 : Int) (r : Bool) (w : World) (hs0_1 : Kd.V k35 35 w w.heap.size (fun k_ => P0_1_ k_) (.slice A0_1 l0_1.length c0_1) l0_1) (hr1 : Kd.C (Kd.int .u8) w A1 l1.length l1) (hc1 : l1.length ≤ c1) (h : kerbsuitelaw12_DatabaseFinds.f k a0_0 l0_1 l1 a2 a3 a4 a5 a6 = some r) :
  Calls Tryd.prog 4 #[.agg #[.string a0_0, .slice A0_1 l0_1.length c0_1], .slice A1 l1.length c1, .string a2, .string a3, .int .i64 a4, .int .u8 a5, .int .u8 a6] w fun e w' => e = .returned (.bool r) ∧ Below w.heap.size w w' := by
 have hu24 := Tryd.underlying24
 have hu41 := Tryd.underlying41
 have HO0_1 := Aside0.mk (show Kd.V k35 35 w w.heap.size (fun k_ => (P0_1_ k_ ∨ w.heap.size ≤ k_)) (.slice A0_1 l0_1.length c0_1) l0_1 from Kd.V_mono hs0_1 (fun k_ hk => .inl hk))
 have HR1 := Aside0.mk hr1
 have HC1 := Aside0.mk hc1
 clear hr1 hc1
 have HB := Aside0.mk (Below.refl w.heap.size w)
 have H : ((kerbsuitelaw12_awake.f k).bind fun t294 => (if t294 = true then ((kerbsuitelaw12_long.f k a0_0 l0_1).bind fun t295 => (if t295 = true then (kerbsuitelaw12_DatabaseFinds.j0 k l1 a2 a3 a4 a5 a6 true a0_0 l0_1) else (if (a2.size : Int) > 100 then (kerbsuitelaw12_DatabaseFinds.j0 k l1 a2 a3 a4 a5 a6 true a0_0 l0_1) else (if (a3.size : Int) > 100 then (kerbsuitelaw12_DatabaseFinds.j0 k l1 a2 a3 a4 a5 a6 true a0_0 l0_1) else (kerbsuitelaw12_DatabaseFinds.j0 k l1 a2 a3 a4 a5 a6 (decide ((l1.length : Int) > 300)) a0_0 l0_1))))) else (some false))) = some r := h
 clear h
 replace H := Option.bind_eq_some_iff.mp H
 obtain ⟨t294, A80, H⟩ := H
 replace H : (if t294 = true then ((kerbsuitelaw12_long.f k a0_0 l0_1).bind fun t295 => (if t295 = true then (kerbsuitelaw12_DatabaseFinds.j0 k l1 a2 a3 a4 a5 a6 true a0_0 l0_1) else (if (a2.size : Int) > 100 then (kerbsuitelaw12_DatabaseFinds.j0 k l1 a2 a3 a4 a5 a6 true a0_0 l0_1) else (if (a3.size : Int) > 100 then (kerbsuitelaw12_DatabaseFinds.j0 k l1 a2 a3 a4 a5 a6 true a0_0 l0_1) else (kerbsuitelaw12_DatabaseFinds.j0 k l1 a2 a3 a4 a5 a6 (decide ((l1.length : Int) > 300)) a0_0 l0_1))))) else (some false)) = some r := H
 have A8 := Aside0.mk A80
 clear A80
 by_cases c9 : t294 = true
 ·subst c9
  have H1 : ((kerbsuitelaw12_long.f k a0_0 l0_1).bind fun t295 => (if t295 = true then (kerbsuitelaw12_DatabaseFinds.j0 k l1 a2 a3 a4 a5 a6 true a0_0 l0_1) else (if (a2.size : Int) > 100 then (kerbsuitelaw12_DatabaseFinds.j0 k l1 a2 a3 a4 a5 a6 true a0_0 l0_1) else (if (a3.size : Int) > 100 then (kerbsuitelaw12_DatabaseFinds.j0 k l1 a2 a3 a4 a5 a6 true a0_0 l0_1) else (kerbsuitelaw12_DatabaseFinds.j0 k l1 a2 a3 a4 a5 a6 (decide ((l1.length : Int) > 300)) a0_0 l0_1))))) = some r := by rw [if_pos rfl] at H; exact H
  clear H
  have H := H1
  clear H1
  have HC10 := Aside0.mk H
  clear H
  go_enter Tryd.func4, Tryd.ntmps4
  go_upto_region 3 with (first | ((with_reducible refine gate_dst (N := 7) rfl ?_); (try (refine gate_guard (by rfl) ?_; dsimp only)); refine box_event ?hg (N := 7) ?hd (cs := #[.string a0_0, .slice A0_1 l0_1.length c0_1]) (t := 24) ?hr ?_; (case hd => rfl); (case hg => rfl); (case hr => first | (go_simp; done) | (go_simp; rfl)); intro gb293 hg w11 hbox hb; have n0_ := Aside0.mk (Kd.V_below (Kd.V_elderB (bk_ HO0_1.out) gb293 (Nat.le_of_eq hg.symm)) hb); have n1_ := Aside0.mk (below_step (bk_ HB.out) hb); have n2_ := Aside0.mk (hbox); have n3_ := Aside0.mk ((by rw [hg]; exact (below_size (bk_ HB.out)) : w.heap.size ≤ gb293)); have n4_ := Aside0.mk ((by rw [hg]; exact (below_size (bk_ HB.out)) : w.heap.size ≤ gb293)); clear HO0_1 HB; have HO0_1 := n0_; have HB := n1_; have BK293 := n2_; have GW293 := n3_; have GE293 := n4_; clear n0_ n1_ n2_ n3_ n4_; clear hb hbox hg) | ((with_reducible refine gate_callee (f := 7) rfl ?_); refine goesL_ (some 26) rfl rfl Tryd.func7 (by kernel_rfl) rfl #[] rfl (by (try simp only [List.map_toArray, List.map_cons, List.map_nil]); first | done | rfl | (simp only [List.length_drop, List.length_take]; rfl)) ?_; (with_reducible refine (kerbsuitelaw12_awake.calls k  true _ A8.out).mono ?_); rintro e w12 ⟨rfl, hb⟩; refine ⟨_, rfl, ?_⟩; have n0_ := Aside0.mk (Kd.V_below (bk_ HO0_1.out) hb); have n1_ := Aside0.mk (blk_below (g := gb293) (o := .cells #[.string a0_0, .slice A0_1 l0_1.length c0_1] 24 (0, 0)) (bk_ BK293.out) hb); have n2_ := Aside0.mk (below_step (by repeat (first | (with_reducible first | exact HB.out | apply bA_ | apply bN_ | apply bD_ | refine bS_ ?_ GE293.out) | exact HB.out)) hb); clear HO0_1 BK293 HB; have HO0_1 := n0_; have BK293 := n1_; have HB := n2_; clear n0_ n1_ n2_; (try clear hb); (try clear hb2); (try clear hk); (try clear hi)))
  (try simp only [Act.put, sA_, sB_, sC_])
  go_cut [44] (fun v44 wc => ∃ (kq : Nat) (x44_9 : Bool), v44 = .bool x44_9 ∧ Aside0 (kerbsuitelaw12_DatabaseFinds.j0 kq l1 a2 a3 a4 a5 a6 x44_9 a0_0 l0_1 = some r) ∧ Aside0 (kq ≤ k) ∧ Aside0 (Kd.V k35 35 wc w.heap.size (fun k_ => (P0_1_ k_ ∨ w.heap.size ≤ k_) ∧ k_ ≠ gb293) (.slice A0_1 l0_1.length c0_1) l0_1) ∧ Aside0 (wc.heap[gb293]? = some (.cells #[.string a0_0, (.slice A0_1 l0_1.length c0_1)] 24 (0, 0))) ∧ Aside0 (Below w.heap.size w wc))
  case first =>
   have H := HC10.out
   clear HC10
   replace H := Option.bind_eq_some_iff.mp H
   obtain ⟨t295, A130, H⟩ := H
   replace H : (if t295 = true then (kerbsuitelaw12_DatabaseFinds.j0 k l1 a2 a3 a4 a5 a6 true a0_0 l0_1) else (if (a2.size : Int) > 100 then (kerbsuitelaw12_DatabaseFinds.j0 k l1 a2 a3 a4 a5 a6 true a0_0 l0_1) else (if (a3.size : Int) > 100 then (kerbsuitelaw12_DatabaseFinds.j0 k l1 a2 a3 a4 a5 a6 true a0_0 l0_1) else (kerbsuitelaw12_DatabaseFinds.j0 k l1 a2 a3 a4 a5 a6 (decide ((l1.length : Int) > 300)) a0_0 l0_1)))) = some r := H
   have A13 := Aside0.mk A130
   clear A130
   by_cases c14 : t295 = true
   ·subst c14
    have H1 : (kerbsuitelaw12_DatabaseFinds.j0 k l1 a2 a3 a4 a5 a6 true a0_0 l0_1) = some r := by rw [if_pos rfl] at H; exact H
    clear H
    have H := H1
    clear H1
    have H' := Aside0.mk H
    clear H
    have hcz15_0 : w12.cell? ⟨gb293, 0, none⟩ = some (.string a0_0) := (blk_cell BK293.out 0).trans rfl
    have hcz15_1 : w12.cell? ⟨gb293, 1, none⟩ = some (.slice A0_1 l0_1.length c0_1) := (blk_cell BK293.out 1).trans rfl
    have hfz15_0 := blk_frozen BK293.out 0
    have hfz15_1 := blk_frozen BK293.out 1
    go_wp2_with (first | ((with_reducible refine gate_callee (f := 8) rfl ?_); refine goesL_ (some 29) rfl rfl Tryd.func8 (by kernel_rfl) rfl #[.agg #[.string a0_0, .slice A0_1 l0_1.length c0_1]] rfl (by (try simp only [List.map_toArray, List.map_cons, List.map_nil]); first | done | rfl | (simp only [List.length_drop, List.length_take]; rfl)) ?_; (with_reducible refine (kerbsuitelaw12_long.calls k a0_0 _ _ l0_1 true _ ?side1 ?side2 A13.out).mono ?_); (case side1 => repeat (first | exact (Kd.V_reads' HO0_1.out).2.2 | (with_reducible refine Kd.C_alloc ?_ _) | (with_reducible refine Kd.C_drewN ?_ _) | (with_reducible refine Kd.C_drew ?_))); (case side2 => exact (Kd.V_reads' HO0_1.out).2.1); rintro e w16 ⟨rfl, hb⟩; refine ⟨_, rfl, ?_⟩; have n0_ := Aside0.mk (Kd.V_below (bk_ HO0_1.out) hb); have n1_ := Aside0.mk (blk_below (g := gb293) (o := .cells #[.string a0_0, .slice A0_1 l0_1.length c0_1] 24 (0, 0)) (bk_ BK293.out) hb); have n2_ := Aside0.mk (below_step (by repeat (first | (with_reducible first | exact HB.out | apply bA_ | apply bN_ | apply bD_ | refine bS_ ?_ GE293.out) | exact HB.out)) hb); clear HO0_1 BK293 HB; have HO0_1 := n0_; have BK293 := n1_; have HB := n2_; clear n0_ n1_ n2_; (try clear hb); (try clear hb2); (try clear hk); (try clear hi)))
    go_meet
    case rel => exact ⟨_, (true), (by first | rfl | (simp; done) | (simp [*]; done)), H', ⟨by first | omega | exact Nat.le_refl _⟩, ⟨by refine bk_ ?_; exact HO0_1.out⟩, ⟨by refine bk_ ?_; exact BK293.out⟩, ⟨by repeat (first | (with_reducible first | exact HB.out | apply bA_ | apply bN_ | apply bD_ | refine bS_ ?_ GE293.out) | exact HB.out)⟩⟩
   replace c14 := Bool.eq_false_iff.mpr c14
   subst c14
   have H1 : (if (a2.size : Int) > 100 then (kerbsuitelaw12_DatabaseFinds.j0 k l1 a2 a3 a4 a5 a6 true a0_0 l0_1) else (if (a3.size : Int) > 100 then (kerbsuitelaw12_DatabaseFinds.j0 k l1 a2 a3 a4 a5 a6 true a0_0 l0_1) else (kerbsuitelaw12_DatabaseFinds.j0 k l1 a2 a3 a4 a5 a6 (decide ((l1.length : Int) > 300)) a0_0 l0_1))) = some r := by rw [if_neg (show ¬ (false = true) by decide)] at H; exact H
   clear H
   have H := H1
   clear H1
   by_cases c17 : (a2.size : Int) > 100
   ·rw [if_pos c17] at H
    have c17b0 : decide (100 < (a2.size : Int)) = true := decide_eq_true c17
    have c17b1 : decide (100 < a2.size) = true := decide_eq_true (by omega)
    clear c17
    (first | rw [c17b0] | (simp only [i64_w, i32_w]; rw [c17b0]) | skip)
    have H' := Aside0.mk H
    clear H
    have hcz18_0 : w12.cell? ⟨gb293, 0, none⟩ = some (.string a0_0) := (blk_cell BK293.out 0).trans rfl
    have hcz18_1 : w12.cell? ⟨gb293, 1, none⟩ = some (.slice A0_1 l0_1.length c0_1) := (blk_cell BK293.out 1).trans rfl
    have hfz18_0 := blk_frozen BK293.out 0
    have hfz18_1 := blk_frozen BK293.out 1
    go_wp2_with (first | ((with_reducible refine gate_callee (f := 8) rfl ?_); refine goesL_ (some 29) rfl rfl Tryd.func8 (by kernel_rfl) rfl #[.agg #[.string a0_0, .slice A0_1 l0_1.length c0_1]] rfl (by (try simp only [List.map_toArray, List.map_cons, List.map_nil]); first | done | rfl | (simp only [List.length_drop, List.length_take]; rfl)) ?_; (with_reducible refine (kerbsuitelaw12_long.calls k a0_0 _ _ l0_1 false _ ?side1 ?side2 A13.out).mono ?_); (case side1 => repeat (first | exact (Kd.V_reads' HO0_1.out).2.2 | (with_reducible refine Kd.C_alloc ?_ _) | (with_reducible refine Kd.C_drewN ?_ _) | (with_reducible refine Kd.C_drew ?_))); (case side2 => exact (Kd.V_reads' HO0_1.out).2.1); rintro e w19 ⟨rfl, hb⟩; refine ⟨_, rfl, ?_⟩; have n0_ := Aside0.mk (Kd.V_below (bk_ HO0_1.out) hb); have n1_ := Aside0.mk (blk_below (g := gb293) (o := .cells #[.string a0_0, .slice A0_1 l0_1.length c0_1] 24 (0, 0)) (bk_ BK293.out) hb); have n2_ := Aside0.mk (below_step (by repeat (first | (with_reducible first | exact HB.out | apply bA_ | apply bN_ | apply bD_ | refine bS_ ?_ GE293.out) | exact HB.out)) hb); clear HO0_1 BK293 HB; have HO0_1 := n0_; have BK293 := n1_; have HB := n2_; clear n0_ n1_ n2_; (try clear hb); (try clear hb2); (try clear hk); (try clear hi)))
    go_meet
    case rel => exact ⟨_, (true), (by first | rfl | (simp; done) | (simp [*]; done)), H', ⟨by first | omega | exact Nat.le_refl _⟩, ⟨by refine bk_ ?_; exact HO0_1.out⟩, ⟨by refine bk_ ?_; exact BK293.out⟩, ⟨by repeat (first | (with_reducible first | exact HB.out | apply bA_ | apply bN_ | apply bD_ | refine bS_ ?_ GE293.out) | exact HB.out)⟩⟩
   rw [if_neg c17] at H
   have c17b0 : decide (100 < (a2.size : Int)) = false := decide_eq_false c17
   have c17b1 : decide (100 < a2.size) = false := decide_eq_false (by omega)
   clear c17
   (first | rw [c17b0] | (simp only [i64_w, i32_w]; rw [c17b0]) | skip)
   by_cases c20 : (a3.size : Int) > 100
   ·rw [if_pos c20] at H
    have c20b0 : decide (100 < (a3.size : Int)) = true := decide_eq_true c20
    have c20b1 : decide (100 < a3.size) = true := decide_eq_true (by omega)
    clear c20
    have H' := Aside0.mk H
    clear H
    have hcz21_0 : w12.cell? ⟨gb293, 0, none⟩ = some (.string a0_0) := (blk_cell BK293.out 0).trans rfl
    have hcz21_1 : w12.cell? ⟨gb293, 1, none⟩ = some (.slice A0_1 l0_1.length c0_1) := (blk_cell BK293.out 1).trans rfl
    have hfz21_0 := blk_frozen BK293.out 0
    have hfz21_1 := blk_frozen BK293.out 1
    go_wp2_with (first | ((with_reducible refine gate_callee (f := 8) rfl ?_); refine goesL_ (some 29) rfl rfl Tryd.func8 (by kernel_rfl) rfl #[.agg #[.string a0_0, .slice A0_1 l0_1.length c0_1]] rfl (by (try simp only [List.map_toArray, List.map_cons, List.map_nil]); first | done | rfl | (simp only [List.length_drop, List.length_take]; rfl)) ?_; (with_reducible refine (kerbsuitelaw12_long.calls k a0_0 _ _ l0_1 false _ ?side1 ?side2 A13.out).mono ?_); (case side1 => repeat (first | exact (Kd.V_reads' HO0_1.out).2.2 | (with_reducible refine Kd.C_alloc ?_ _) | (with_reducible refine Kd.C_drewN ?_ _) | (with_reducible refine Kd.C_drew ?_))); (case side2 => exact (Kd.V_reads' HO0_1.out).2.1); rintro e w22 ⟨rfl, hb⟩; refine ⟨_, rfl, ?_⟩; have n0_ := Aside0.mk (Kd.V_below (bk_ HO0_1.out) hb); have n1_ := Aside0.mk (blk_below (g := gb293) (o := .cells #[.string a0_0, .slice A0_1 l0_1.length c0_1] 24 (0, 0)) (bk_ BK293.out) hb); have n2_ := Aside0.mk (below_step (by repeat (first | (with_reducible first | exact HB.out | apply bA_ | apply bN_ | apply bD_ | refine bS_ ?_ GE293.out) | exact HB.out)) hb); clear HO0_1 BK293 HB; have HO0_1 := n0_; have BK293 := n1_; have HB := n2_; clear n0_ n1_ n2_; (try clear hb); (try clear hb2); (try clear hk); (try clear hi)))
    go_meet
    case rel => exact ⟨_, (true), (by first | rfl | (simp; done) | (simp [*]; done)), H', ⟨by first | omega | exact Nat.le_refl _⟩, ⟨by refine bk_ ?_; exact HO0_1.out⟩, ⟨by refine bk_ ?_; exact BK293.out⟩, ⟨by repeat (first | (with_reducible first | exact HB.out | apply bA_ | apply bN_ | apply bD_ | refine bS_ ?_ GE293.out) | exact HB.out)⟩⟩
   rw [if_neg c20] at H
   have c20b0 : decide (100 < (a3.size : Int)) = false := decide_eq_false c20
   have c20b1 : decide (100 < a3.size) = false := decide_eq_false (by omega)
   clear c20
   have H' := Aside0.mk H
   clear H
   have hcz23_0 : w12.cell? ⟨gb293, 0, none⟩ = some (.string a0_0) := (blk_cell BK293.out 0).trans rfl
   have hcz23_1 : w12.cell? ⟨gb293, 1, none⟩ = some (.slice A0_1 l0_1.length c0_1) := (blk_cell BK293.out 1).trans rfl
   have hfz23_0 := blk_frozen BK293.out 0
   have hfz23_1 := blk_frozen BK293.out 1
   go_wp2_with (first | ((with_reducible refine gate_callee (f := 8) rfl ?_); refine goesL_ (some 29) rfl rfl Tryd.func8 (by kernel_rfl) rfl #[.agg #[.string a0_0, .slice A0_1 l0_1.length c0_1]] rfl (by (try simp only [List.map_toArray, List.map_cons, List.map_nil]); first | done | rfl | (simp only [List.length_drop, List.length_take]; rfl)) ?_; (with_reducible refine (kerbsuitelaw12_long.calls k a0_0 _ _ l0_1 false _ ?side1 ?side2 A13.out).mono ?_); (case side1 => repeat (first | exact (Kd.V_reads' HO0_1.out).2.2 | (with_reducible refine Kd.C_alloc ?_ _) | (with_reducible refine Kd.C_drewN ?_ _) | (with_reducible refine Kd.C_drew ?_))); (case side2 => exact (Kd.V_reads' HO0_1.out).2.1); rintro e w24 ⟨rfl, hb⟩; refine ⟨_, rfl, ?_⟩; have n0_ := Aside0.mk (Kd.V_below (bk_ HO0_1.out) hb); have n1_ := Aside0.mk (blk_below (g := gb293) (o := .cells #[.string a0_0, .slice A0_1 l0_1.length c0_1] 24 (0, 0)) (bk_ BK293.out) hb); have n2_ := Aside0.mk (below_step (by repeat (first | (with_reducible first | exact HB.out | apply bA_ | apply bN_ | apply bD_ | refine bS_ ?_ GE293.out) | exact HB.out)) hb); clear HO0_1 BK293 HB; have HO0_1 := n0_; have BK293 := n1_; have HB := n2_; clear n0_ n1_ n2_; (try clear hb); (try clear hb2); (try clear hk); (try clear hi)))
   go_meet
   case rel => exact ⟨_, (decide ((l1.length : Int) > 300)), (by first | rfl | (simp; done) | (simp [*]; done)), H', ⟨by first | omega | exact Nat.le_refl _⟩, ⟨by refine bk_ ?_; exact HO0_1.out⟩, ⟨by refine bk_ ?_; exact BK293.out⟩, ⟨by repeat (first | (with_reducible first | exact HB.out | apply bA_ | apply bN_ | apply bD_ | refine bS_ ?_ GE293.out) | exact HB.out)⟩⟩
  case rest =>
   clear HC10
   try clear c1
   try clear c2
   try clear p2
   try clear c4
   try clear c7
   try clear c8
   try clear c9
   try clear c14
   try clear c17
   try clear c17b0
   try clear c17b1
   try clear c20
   try clear c20b0
   try clear c20b1
   try clear hcz15_0
   try clear hcz15_1
   try clear hcz18_0
   try clear hcz18_1
   try clear hcz21_0
   try clear hcz21_1
   try clear hcz23_0
   try clear hcz23_1
   try clear hfz15_0
   try clear hfz15_1
   try clear hfz18_0
   try clear hfz18_1
   try clear hfz21_0
   try clear hfz21_1
   try clear hfz23_0
   try clear hfz23_1
   obtain ⟨kq, x44_9, rfl, HA, HJ9, HO_294001, BK293, HB⟩ := hcut
   cases kq with
   | zero => exact absurd HA.out (by simp [kerbsuitelaw12_DatabaseFinds.j0])
   | succ kj9 =>
    have H := HA.out
    clear HA
    simp only [kerbsuitelaw12_DatabaseFinds.j0] at H
    by_cases c25 : x44_9 = true
    ·subst c25
     have H1 : (some true) = some r := by rw [if_pos rfl] at H; exact H
     clear H
     have H := H1
     clear H1
     obtain rfl := Option.some.inj H
     go_wp2
     go_ret
     exact ⟨by first | rfl | (simp [errW_none, errW_some] <;> rfl) | (simp [*, errW_none, errW_some] <;> rfl), by repeat (first | (with_reducible first | exact HB.out | apply bA_ | apply bN_ | apply bD_ | refine bS_ ?_ GE293.out) | exact HB.out)⟩
    replace c25 := Bool.eq_false_iff.mpr c25
    subst c25
    have H1 : ((kerbsuitedata_Database.f kj9 l1 0).bind fun bt296 => ((kerbsuitedata_User.f (Int.tmod (wrap64 (a6)) 3)).bind fun bt301 => (if (Int.tmod a6 2) = 1 then ((kerbsuitedata_Service.f (Int.tmod (wrap64 (Int.tdiv (wrap64 (a6)) 2)) 3)).bind fun bt305 => (kerbsuitelaw12_DatabaseFinds.j1 kj9 a2 a3 a4 a5 a0_0 l0_1 bt296.1 bt296.2 bt305.1 bt305.2.1 bt305.2.2)) else (kerbsuitelaw12_DatabaseFinds.j1 kj9 a2 a3 a4 a5 a0_0 l0_1 bt296.1 bt296.2 bt301.1 bt301.2.1 bt301.2.2)))) = some r := by rw [if_neg (show ¬ (false = true) by decide)] at H; exact H
    clear H
    have H := H1
    clear H1
    replace H := Option.bind_eq_some_iff.mp H
    obtain ⟨⟨t296, t297⟩, A260, H⟩ := H
    replace H : ((kerbsuitedata_User.f (Int.tmod (wrap64 (a6)) 3)).bind fun bt301 => (if (Int.tmod a6 2) = 1 then ((kerbsuitedata_Service.f (Int.tmod (wrap64 (Int.tdiv (wrap64 (a6)) 2)) 3)).bind fun bt305 => (kerbsuitelaw12_DatabaseFinds.j1 kj9 a2 a3 a4 a5 a0_0 l0_1 t296 t297 bt305.1 bt305.2.1 bt305.2.2)) else (kerbsuitelaw12_DatabaseFinds.j1 kj9 a2 a3 a4 a5 a0_0 l0_1 t296 t297 bt301.1 bt301.2.1 bt301.2.2))) = some r := H
    have A26 := Aside0.mk A260
    clear A260
    replace H := Option.bind_eq_some_iff.mp H
    obtain ⟨⟨t301, t302, t303⟩, A270, H⟩ := H
    replace H : (if (Int.tmod a6 2) = 1 then ((kerbsuitedata_Service.f (Int.tmod (wrap64 (Int.tdiv (wrap64 (a6)) 2)) 3)).bind fun bt305 => (kerbsuitelaw12_DatabaseFinds.j1 kj9 a2 a3 a4 a5 a0_0 l0_1 t296 t297 bt305.1 bt305.2.1 bt305.2.2)) else (kerbsuitelaw12_DatabaseFinds.j1 kj9 a2 a3 a4 a5 a0_0 l0_1 t296 t297 t301 t302 t303)) = some r := H
    have A27 := Aside0.mk A270
    clear A270
    have HC28 := Aside0.mk H
    clear H
    go_upto_if 53 with (first | ((with_reducible refine gate_callee (f := 9) rfl ?_); refine goesL_ (some 46) rfl rfl Tryd.func9 (by kernel_rfl) rfl #[.slice A1 l1.length c1, .int .i64 0] rfl (by (try simp only [List.map_toArray, List.map_cons, List.map_nil]); first | done | rfl | (simp only [List.length_drop, List.length_take]; rfl)) ?_; (with_reducible refine (kerbsuitedata_Database.calls kj9 _ _ l1 0 t296 t297 _ ?side1 ?side2 A26.out).mono ?_); (case side1 => repeat (first | exact (Kd.C_below HR1.out HB.out) | (with_reducible refine Kd.C_alloc ?_ _) | (with_reducible refine Kd.C_drewN ?_ _) | (with_reducible refine Kd.C_drew ?_))); (case side2 => exact HC1.out); rintro e w29 ⟨v298, rfl, ho0, hb⟩; refine ⟨_, rfl, ?_⟩; have n0_ := Aside0.mk (Kd.V_elder' (bk_ HO_294001.out) (Kd.R_base ho0) hb); have n1_ := Aside0.mk (Kd.R_lower (Kd.R_newM (M := fun k_ => (w.heap.size ≤ k_)) ho0 (below_size (by repeat (first | (with_reducible first | exact HB.out | apply bA_ | apply bN_ | apply bD_ | refine bS_ ?_ GE293.out) | exact HB.out))) (fun k_ h_ => h_)) (below_size (by repeat (first | (with_reducible first | exact HB.out | apply bA_ | apply bN_ | apply bD_ | refine bS_ ?_ GE293.out) | exact HB.out)))); have n2_ := Aside0.mk (blk_below (g := gb293) (o := .cells #[.string a0_0, .slice A0_1 l0_1.length c0_1] 24 (0, 0)) (bk_ BK293.out) hb); have n3_ := Aside0.mk (below_step (by repeat (first | (with_reducible first | exact HB.out | apply bA_ | apply bN_ | apply bD_ | refine bS_ ?_ GE293.out) | exact HB.out)) hb); clear HO_294001 BK293 HB; have HO_294001 := n0_; have HO299 := n1_; have BK293 := n2_; have HB := n3_; clear n0_ n1_ n2_ n3_; (try clear hb); (try clear hb2); (try clear hk); (try clear hi); (try clear ho0)) | ((with_reducible refine gate_dst (N := 15) rfl ?_); (try (refine gate_guard (by rfl) ?_; dsimp only)); refine box_event ?hg (N := 15) ?hd (cs := #[.string (⟨#[]⟩ : ByteArray), .slice none 0 0]) (t := 24) ?hr ?_; (case hd => rfl); (case hg => rfl); (case hr => first | (go_simp; done) | (go_simp; rfl)); intro gb300 hg w30 hbox hb; have n0_ := Aside0.mk (Kd.V_below (Kd.V_elderB (bk_ HO_294001.out) gb300 (Nat.le_of_eq hg.symm)) hb); have n1_ := Aside0.mk (Kd.R_below (bk_ HO299.out) hb); have n2_ := Aside0.mk (blk_below (g := gb293) (o := .cells #[.string a0_0, .slice A0_1 l0_1.length c0_1] 24 (0, 0)) (bk_ BK293.out) hb); have n3_ := Aside0.mk (below_step (by repeat (first | (with_reducible first | exact HB.out | apply bA_ | apply bN_ | apply bD_ | refine bS_ ?_ GE293.out) | exact HB.out)) hb); have n4_ := Aside0.mk (hbox); have n5_ := Aside0.mk ((by rw [hg]; exact (below_size (by repeat (first | (with_reducible first | exact HB.out | apply bA_ | apply bN_ | apply bD_ | refine bS_ ?_ GE293.out) | exact HB.out))) : w.heap.size ≤ gb300)); have n6_ := Aside0.mk ((by rw [hg]; exact (below_size (by repeat (first | (with_reducible first | exact HB.out | apply bA_ | apply bN_ | apply bD_ | refine bS_ ?_ GE293.out) | exact HB.out))) : w.heap.size ≤ gb300)); have n7_ := Aside0.mk ((by rw [hg]; exact Nat.ne_of_lt (blk_lt (g := gb293) (o := .cells #[.string a0_0, .slice A0_1 l0_1.length c0_1] 24 (0, 0)) (bk_ BK293.out)) : gb293 ≠ gb300)); have n8_ := Aside0.mk ((by rw [hg]; exact Nat.ne_of_gt (blk_lt (g := gb293) (o := .cells #[.string a0_0, .slice A0_1 l0_1.length c0_1] 24 (0, 0)) (bk_ BK293.out)) : gb300 ≠ gb293)); clear HO_294001 HO299 BK293 HB; have HO_294001 := n0_; have HO299 := n1_; have BK293 := n2_; have HB := n3_; have BK300 := n4_; have GW300 := n5_; have GE300 := n6_; have NB293_300 := n7_; have NB300_293 := n8_; clear n0_ n1_ n2_ n3_ n4_ n5_ n6_ n7_ n8_; clear hb hbox hg; have hnb31 := NB300_293.out; have hnc31 := NB293_300.out; have hcz32_0 : w30.cell? ⟨gb300, 0, none⟩ = some (.string (⟨#[]⟩ : ByteArray)) := (blk_cell BK300.out 0).trans rfl; have hcz32_1 : w30.cell? ⟨gb300, 1, none⟩ = some (.slice none 0 0) := (blk_cell BK300.out 1).trans rfl; have hfz32_0 := blk_frozen BK300.out 0; have hfz32_1 := blk_frozen BK300.out 1; obtain ⟨Ao33, co33, eo33⟩ := Kd.R_slice HO299.out; subst eo33) | ((with_reducible refine gate_callee (f := 16) rfl ?_); refine goesL_ (some 50) rfl rfl Tryd.func16 (by kernel_rfl) rfl #[.int .i64 (Int.tmod (wrap64 (a6)) 3)] rfl (by (try simp only [List.map_toArray, List.map_cons, List.map_nil]); first | done | rfl | (simp only [List.length_drop, List.length_take]; rfl)) ?_; (with_reducible refine (kerbsuitedata_User.calls (Int.tmod (wrap64 (a6)) 3) t301 t302 t303 _ A27.out).mono ?_); rintro e w34 ⟨rfl, hb⟩; refine ⟨_, rfl, ?_⟩; have n0_ := Aside0.mk (Kd.V_below (by refine bk_ ?_; exact (Kd.V_mono (Kd.V_far (p := ⟨gb300, 1, none⟩) (Kd.V_far (p := ⟨gb300, 0, none⟩) (Kd.V_mono HO_294001.out (fun k_ hk => (⟨hk, hk.2⟩ : _ ∧ k_ ≠ gb300))) (fun _ hk => hk.2) (.string t296)) (fun _ hk => hk.2) (.slice Ao33 t297.length co33)) (fun _ h_ => h_.1))) hb); have n1_ := Aside0.mk (Kd.R_below (by refine bk_ ?_; exact (Kd.R_mono (Kd.R_far (p := ⟨gb300, 1, none⟩) (Kd.R_far (p := ⟨gb300, 0, none⟩) (Kd.R_types HO299.out BK300.out (by decide)) (fun _ hk => hk.2) (.string t296)) (fun _ hk => hk.2) (.slice Ao33 t297.length co33)) (fun _ h_ => h_.1))) hb); have n2_ := Aside0.mk (blk_below (g := gb293) (o := .cells #[.string a0_0, .slice A0_1 l0_1.length c0_1] 24 (0, 0)) (by refine bk_ ?_; refine blk_far ?_ NB293_300.out _; refine bk_ ?_; refine blk_far ?_ NB293_300.out _; refine bk_ ?_; exact BK293.out) hb); have n3_ := Aside0.mk (blk_below (g := gb300) (o := .cells #[.string t296, .slice Ao33 t297.length co33] 24 (0, 0)) (by refine bk_ ?_; refine blk_put (cs := #[.string t296, .slice none 0 0]) ?_ 1 _ rfl; refine bk_ ?_; refine blk_put (cs := #[.string (⟨#[]⟩ : ByteArray), .slice none 0 0]) ?_ 0 _ rfl; refine bk_ ?_; exact BK300.out) hb); have n4_ := Aside0.mk (below_step (by repeat (first | (with_reducible first | exact HB.out | apply bA_ | apply bN_ | apply bD_ | refine bS_ ?_ GE293.out | refine bS_ ?_ GE300.out) | exact HB.out)) hb); clear HO_294001 HO299 BK293 BK300 HB; have HO_294001 := n0_; have HO299 := n1_; have BK293 := n2_; have BK300 := n3_; have HB := n4_; clear n0_ n1_ n2_ n3_ n4_; (try clear hb); (try clear hb2); (try clear hk); (try clear hi)) | ((with_reducible refine gate_dst (N := 16) rfl ?_); (try (refine gate_guard (by rfl) ?_; dsimp only)); refine box_event ?hg (N := 16) ?hd (cs := #[.string (⟨#[]⟩ : ByteArray), .string (⟨#[]⟩ : ByteArray), .string (⟨#[]⟩ : ByteArray)]) (t := 41) ?hr ?_; (case hd => rfl); (case hg => rfl); (case hr => first | (go_simp; done) | (go_simp; rfl)); intro gb304 hg w35 hbox hb; have n0_ := Aside0.mk (Kd.V_below (Kd.V_elderB (bk_ HO_294001.out) gb304 (Nat.le_of_eq hg.symm)) hb); have n1_ := Aside0.mk (Kd.R_below (bk_ HO299.out) hb); have n2_ := Aside0.mk (blk_below (g := gb293) (o := .cells #[.string a0_0, .slice A0_1 l0_1.length c0_1] 24 (0, 0)) (bk_ BK293.out) hb); have n3_ := Aside0.mk (blk_below (g := gb300) (o := .cells #[.string t296, .slice Ao33 t297.length co33] 24 (0, 0)) (bk_ BK300.out) hb); have n4_ := Aside0.mk (below_step (by repeat (first | (with_reducible first | exact HB.out | apply bA_ | apply bN_ | apply bD_ | refine bS_ ?_ GE293.out | refine bS_ ?_ GE300.out) | exact HB.out)) hb); have n5_ := Aside0.mk (hbox); have n6_ := Aside0.mk ((by rw [hg]; exact (below_size (by repeat (first | (with_reducible first | exact HB.out | apply bA_ | apply bN_ | apply bD_ | refine bS_ ?_ GE293.out | refine bS_ ?_ GE300.out) | exact HB.out))) : w.heap.size ≤ gb304)); have n7_ := Aside0.mk ((by rw [hg]; exact (below_size (by repeat (first | (with_reducible first | exact HB.out | apply bA_ | apply bN_ | apply bD_ | refine bS_ ?_ GE293.out | refine bS_ ?_ GE300.out) | exact HB.out))) : w.heap.size ≤ gb304)); have n8_ := Aside0.mk ((by rw [hg]; exact Nat.ne_of_lt (blk_lt (g := gb293) (o := .cells #[.string a0_0, .slice A0_1 l0_1.length c0_1] 24 (0, 0)) (bk_ BK293.out)) : gb293 ≠ gb304)); have n9_ := Aside0.mk ((by rw [hg]; exact Nat.ne_of_gt (blk_lt (g := gb293) (o := .cells #[.string a0_0, .slice A0_1 l0_1.length c0_1] 24 (0, 0)) (bk_ BK293.out)) : gb304 ≠ gb293)); have n10_ := Aside0.mk ((by rw [hg]; exact Nat.ne_of_lt (blk_lt (g := gb300) (o := .cells #[.string t296, .slice Ao33 t297.length co33] 24 (0, 0)) (bk_ BK300.out)) : gb300 ≠ gb304)); have n11_ := Aside0.mk ((by rw [hg]; exact Nat.ne_of_gt (blk_lt (g := gb300) (o := .cells #[.string t296, .slice Ao33 t297.length co33] 24 (0, 0)) (bk_ BK300.out)) : gb304 ≠ gb300)); clear HO_294001 HO299 BK293 BK300 HB; have HO_294001 := n0_; have HO299 := n1_; have BK293 := n2_; have BK300 := n3_; have HB := n4_; have BK304 := n5_; have GW304 := n6_; have GE304 := n7_; have NB293_304 := n8_; have NB304_293 := n9_; have NB300_304 := n10_; have NB304_300 := n11_; clear n0_ n1_ n2_ n3_ n4_ n5_ n6_ n7_ n8_ n9_ n10_ n11_; clear hb hbox hg; have hnb36 := NB304_293.out; have hnc36 := NB293_304.out; have hnb37 := NB304_300.out; have hnc37 := NB300_304.out; have hcz38_0 : w35.cell? ⟨gb304, 0, none⟩ = some (.string (⟨#[]⟩ : ByteArray)) := (blk_cell BK304.out 0).trans rfl; have hcz38_1 : w35.cell? ⟨gb304, 1, none⟩ = some (.string (⟨#[]⟩ : ByteArray)) := (blk_cell BK304.out 1).trans rfl; have hcz38_2 : w35.cell? ⟨gb304, 2, none⟩ = some (.string (⟨#[]⟩ : ByteArray)) := (blk_cell BK304.out 2).trans rfl; have hfz38_0 := blk_frozen BK304.out 0; have hfz38_1 := blk_frozen BK304.out 1; have hfz38_2 := blk_frozen BK304.out 2))
    (try simp only [Act.put, sA_, sB_, sC_])
    go_cut [] (fun wc => ∃ (kq : Nat) (x305000_27 : ByteArray) (x305001_27 : ByteArray) (x305002_27 : ByteArray), Aside0 (kerbsuitelaw12_DatabaseFinds.j1 kq a2 a3 a4 a5 a0_0 l0_1 t296 t297 x305000_27 x305001_27 x305002_27 = some r) ∧ Aside0 (kq ≤ kj9) ∧ Aside0 (Kd.V k35 35 wc w.heap.size (fun k_ => (P0_1_ k_ ∨ w.heap.size ≤ k_) ∧ some k_ ≠ ((.slice Ao33 t297.length co33) : Value).ownBlock ∧ k_ ≠ gb293 ∧ k_ ≠ gb300 ∧ k_ ≠ gb304) (.slice A0_1 l0_1.length c0_1) l0_1) ∧ Aside0 (Kd.R k35 35 wc w.heap.size (fun k_ => (w.heap.size ≤ k_)) (.slice Ao33 t297.length co33) t297) ∧ Aside0 (wc.heap[gb293]? = some (.cells #[.string a0_0, (.slice A0_1 l0_1.length c0_1)] 24 (0, 0))) ∧ Aside0 (wc.heap[gb300]? = some (.cells #[.string t296, (.slice Ao33 t297.length co33)] 24 (0, 0))) ∧ Aside0 (wc.heap[gb304]? = some (.cells #[.string x305000_27, .string x305001_27, .string x305002_27] 41 (0, 0))) ∧ Aside0 (Below w.heap.size w wc))
    case first =>
     have H := HC28.out
     clear HC28
     by_cases c39 : (Int.tmod a6 2) = 1
     ·rw [if_pos c39] at H
      have c39b0 : ((Int.tmod a6 2) == 1) = true := beq_iff_eq.mpr c39
      have c39b1 : ((Int.tmod a6 2) != 1) = false := bne_eq_false_iff_eq.mpr c39
      clear c39
      (first | rw [c39b0] | (simp only [i64_w, i32_w]; rw [c39b0]) | skip)
      replace H := Option.bind_eq_some_iff.mp H
      obtain ⟨⟨t305, t306, t307⟩, A400, H⟩ := H
      replace H : (kerbsuitelaw12_DatabaseFinds.j1 kj9 a2 a3 a4 a5 a0_0 l0_1 t296 t297 t305 t306 t307) = some r := H
      have A40 := Aside0.mk A400
      clear A400
      have H' := Aside0.mk H
      clear H
      go_wp2_with (first | ((with_reducible refine gate_callee (f := 17) rfl ?_); refine goesL_ (some 58) rfl rfl Tryd.func17 (by kernel_rfl) rfl #[.int .i64 (Int.tmod (wrap64 (Int.tdiv (wrap64 (a6)) 2)) 3)] rfl (by (try simp only [List.map_toArray, List.map_cons, List.map_nil]); first | done | rfl | (simp only [List.length_drop, List.length_take]; rfl)) ?_; (with_reducible refine (kerbsuitedata_Service.calls (Int.tmod (wrap64 (Int.tdiv (wrap64 (a6)) 2)) 3) t305 t306 t307 _ A40.out).mono ?_); rintro e w41 ⟨rfl, hb⟩; refine ⟨_, rfl, ?_⟩; have n0_ := Aside0.mk (Kd.V_below (by refine bk_ ?_; exact (Kd.V_mono (Kd.V_far (p := ⟨gb304, 2, none⟩) (Kd.V_far (p := ⟨gb304, 1, none⟩) (Kd.V_far (p := ⟨gb304, 0, none⟩) (Kd.V_mono HO_294001.out (fun k_ hk => (⟨hk, hk.2⟩ : _ ∧ k_ ≠ gb304))) (fun _ hk => hk.2) (.string t301)) (fun _ hk => hk.2) (.string t302)) (fun _ hk => hk.2) (.string t303)) (fun _ h_ => h_.1))) hb); have n1_ := Aside0.mk (Kd.R_below (by refine bk_ ?_; exact (Kd.R_mono (Kd.R_far (p := ⟨gb304, 2, none⟩) (Kd.R_far (p := ⟨gb304, 1, none⟩) (Kd.R_far (p := ⟨gb304, 0, none⟩) (Kd.R_types HO299.out BK304.out (by decide)) (fun _ hk => hk.2) (.string t301)) (fun _ hk => hk.2) (.string t302)) (fun _ hk => hk.2) (.string t303)) (fun _ h_ => h_.1))) hb); have n2_ := Aside0.mk (blk_below (g := gb293) (o := .cells #[.string a0_0, .slice A0_1 l0_1.length c0_1] 24 (0, 0)) (by refine bk_ ?_; refine blk_far ?_ NB293_304.out _; refine bk_ ?_; refine blk_far ?_ NB293_304.out _; refine bk_ ?_; refine blk_far ?_ NB293_304.out _; refine bk_ ?_; exact BK293.out) hb); have n3_ := Aside0.mk (blk_below (g := gb300) (o := .cells #[.string t296, .slice Ao33 t297.length co33] 24 (0, 0)) (by refine bk_ ?_; refine blk_far ?_ NB300_304.out _; refine bk_ ?_; refine blk_far ?_ NB300_304.out _; refine bk_ ?_; refine blk_far ?_ NB300_304.out _; refine bk_ ?_; exact BK300.out) hb); have n4_ := Aside0.mk (blk_below (g := gb304) (o := .cells #[.string t301, .string t302, .string t303] 41 (0, 0)) (by refine bk_ ?_; refine blk_put (cs := #[.string t301, .string t302, .string (⟨#[]⟩ : ByteArray)]) ?_ 2 _ rfl; refine bk_ ?_; refine blk_put (cs := #[.string t301, .string (⟨#[]⟩ : ByteArray), .string (⟨#[]⟩ : ByteArray)]) ?_ 1 _ rfl; refine bk_ ?_; refine blk_put (cs := #[.string (⟨#[]⟩ : ByteArray), .string (⟨#[]⟩ : ByteArray), .string (⟨#[]⟩ : ByteArray)]) ?_ 0 _ rfl; refine bk_ ?_; exact BK304.out) hb); have n5_ := Aside0.mk (below_step (by repeat (first | (with_reducible first | exact HB.out | apply bA_ | apply bN_ | apply bD_ | refine bS_ ?_ GE293.out | refine bS_ ?_ GE300.out | refine bS_ ?_ GE304.out) | exact HB.out)) hb); clear HO_294001 HO299 BK293 BK300 BK304 HB; have HO_294001 := n0_; have HO299 := n1_; have BK293 := n2_; have BK300 := n3_; have BK304 := n4_; have HB := n5_; clear n0_ n1_ n2_ n3_ n4_ n5_; (try clear hb); (try clear hb2); (try clear hk); (try clear hi); have hnb42 := NB304_293.out; have hnc42 := NB293_304.out; have hnb43 := NB304_300.out; have hnc43 := NB300_304.out; have hcz44_0 : w41.cell? ⟨gb304, 0, none⟩ = some (.string t301) := (blk_cell BK304.out 0).trans rfl; have hcz44_1 : w41.cell? ⟨gb304, 1, none⟩ = some (.string t302) := (blk_cell BK304.out 1).trans rfl; have hcz44_2 : w41.cell? ⟨gb304, 2, none⟩ = some (.string t303) := (blk_cell BK304.out 2).trans rfl; have hfz44_0 := blk_frozen BK304.out 0; have hfz44_1 := blk_frozen BK304.out 1; have hfz44_2 := blk_frozen BK304.out 2))
      go_meet
      case rel => exact ⟨_, (t305), (t306), (t307), H', ⟨by have := HJ9.out; first | omega | exact Nat.le_refl _⟩, ⟨by refine bk_ ?_; exact Kd.V_mono (Kd.V_far (p := ⟨gb304, 2, none⟩) (Kd.V_far (p := ⟨gb304, 1, none⟩) (Kd.V_far (p := ⟨gb304, 0, none⟩) (Kd.V_mono HO_294001.out (fun k_ hk => (⟨hk, hk.2⟩ : _ ∧ k_ ≠ gb304))) (fun _ hk => hk.2) (.string t305)) (fun _ hk => hk.2) (.string t306)) (fun _ hk => hk.2) (.string t307)) (fun _ hk => ⟨hk.1.1.1.1.1, ⟨hk.1.1.1.2, ⟨hk.1.1.1.1.2, ⟨hk.1.1.2, hk.1.2⟩⟩⟩⟩)⟩, ⟨by refine bk_ ?_; exact Kd.R_mono (Kd.R_far (p := ⟨gb304, 2, none⟩) (Kd.R_far (p := ⟨gb304, 1, none⟩) (Kd.R_far (p := ⟨gb304, 0, none⟩) (Kd.R_types HO299.out BK304.out (by decide)) (fun _ hk => hk.2) (.string t305)) (fun _ hk => hk.2) (.string t306)) (fun _ hk => hk.2) (.string t307)) (fun _ hk => hk.1.1)⟩, ⟨by refine bk_ ?_; refine blk_far ?_ NB293_304.out _; refine bk_ ?_; refine blk_far ?_ NB293_304.out _; refine bk_ ?_; refine blk_far ?_ NB293_304.out _; refine bk_ ?_; exact BK293.out⟩, ⟨by refine bk_ ?_; refine blk_far ?_ NB300_304.out _; refine bk_ ?_; refine blk_far ?_ NB300_304.out _; refine bk_ ?_; refine blk_far ?_ NB300_304.out _; refine bk_ ?_; exact BK300.out⟩, ⟨by refine bk_ ?_; refine blk_put (cs := #[.string t305, .string t306, .string t303]) ?_ 2 _ rfl; refine bk_ ?_; refine blk_put (cs := #[.string t305, .string t302, .string t303]) ?_ 1 _ rfl; refine bk_ ?_; refine blk_put (cs := #[.string t301, .string t302, .string t303]) ?_ 0 _ rfl; refine bk_ ?_; exact BK304.out⟩, ⟨by repeat (first | (with_reducible first | exact HB.out | apply bA_ | apply bN_ | apply bD_ | refine bS_ ?_ GE293.out | refine bS_ ?_ GE300.out | refine bS_ ?_ GE304.out) | exact HB.out)⟩⟩
     rw [if_neg c39] at H
     have c39b0 : ((Int.tmod a6 2) == 1) = false := beq_eq_false_iff_ne.mpr c39
     have c39b1 : ((Int.tmod a6 2) != 1) = true := bne_iff_ne.mpr c39
     (first | rw [c39b0] | (simp only [i64_w, i32_w]; rw [c39b0]) | skip)
     have H' := Aside0.mk H
     clear H
     go_wp2
     go_meet
     case rel => exact ⟨_, (t301), (t302), (t303), H', ⟨by have := HJ9.out; first | omega | exact Nat.le_refl _⟩, ⟨by refine bk_ ?_; exact Kd.V_mono (Kd.V_far (p := ⟨gb304, 2, none⟩) (Kd.V_far (p := ⟨gb304, 1, none⟩) (Kd.V_far (p := ⟨gb304, 0, none⟩) (Kd.V_mono HO_294001.out (fun k_ hk => (⟨hk, hk.2⟩ : _ ∧ k_ ≠ gb304))) (fun _ hk => hk.2) (.string t301)) (fun _ hk => hk.2) (.string t302)) (fun _ hk => hk.2) (.string t303)) (fun _ hk => ⟨hk.1.1.1.1.1, ⟨hk.1.1.1.2, ⟨hk.1.1.1.1.2, ⟨hk.1.1.2, hk.1.2⟩⟩⟩⟩)⟩, ⟨by refine bk_ ?_; exact Kd.R_mono (Kd.R_far (p := ⟨gb304, 2, none⟩) (Kd.R_far (p := ⟨gb304, 1, none⟩) (Kd.R_far (p := ⟨gb304, 0, none⟩) (Kd.R_types HO299.out BK304.out (by decide)) (fun _ hk => hk.2) (.string t301)) (fun _ hk => hk.2) (.string t302)) (fun _ hk => hk.2) (.string t303)) (fun _ hk => hk.1.1)⟩, ⟨by refine bk_ ?_; refine blk_far ?_ NB293_304.out _; refine bk_ ?_; refine blk_far ?_ NB293_304.out _; refine bk_ ?_; refine blk_far ?_ NB293_304.out _; refine bk_ ?_; exact BK293.out⟩, ⟨by refine bk_ ?_; refine blk_far ?_ NB300_304.out _; refine bk_ ?_; refine blk_far ?_ NB300_304.out _; refine bk_ ?_; refine blk_far ?_ NB300_304.out _; refine bk_ ?_; exact BK300.out⟩, ⟨by refine bk_ ?_; refine blk_put (cs := #[.string t301, .string t302, .string (⟨#[]⟩ : ByteArray)]) ?_ 2 _ rfl; refine bk_ ?_; refine blk_put (cs := #[.string t301, .string (⟨#[]⟩ : ByteArray), .string (⟨#[]⟩ : ByteArray)]) ?_ 1 _ rfl; refine bk_ ?_; refine blk_put (cs := #[.string (⟨#[]⟩ : ByteArray), .string (⟨#[]⟩ : ByteArray), .string (⟨#[]⟩ : ByteArray)]) ?_ 0 _ rfl; refine bk_ ?_; exact BK304.out⟩, ⟨by repeat (first | (with_reducible first | exact HB.out | apply bA_ | apply bN_ | apply bD_ | refine bS_ ?_ GE293.out | refine bS_ ?_ GE300.out | refine bS_ ?_ GE304.out) | exact HB.out)⟩⟩
    case rest =>
     clear HC28
     try clear c1
     try clear c2
     try clear p2
     try clear c3
     try clear c4
     try clear p6
     try clear c7
     try clear c8
     try clear c9
     try clear c14
     try clear c16
     try clear c17
     try clear c17b0
     try clear c17b1
     try clear c20
     try clear c20b0
     try clear c20b1
     try clear c25
     try clear c31
     try clear c36
     try clear c37
     try clear c39
     try clear c39b0
     try clear c39b1
     try clear c42
     try clear c43
     try clear hcz15_0
     try clear hcz15_1
     try clear hcz18_0
     try clear hcz18_1
     try clear hcz21_0
     try clear hcz21_1
     try clear hcz23_0
     try clear hcz23_1
     try clear hcz32_0
     try clear hcz32_1
     try clear hcz38_0
     try clear hcz38_1
     try clear hcz38_2
     try clear hcz44_0
     try clear hcz44_1
     try clear hcz44_2
     try clear hfz15_0
     try clear hfz15_1
     try clear hfz18_0
     try clear hfz18_1
     try clear hfz21_0
     try clear hfz21_1
     try clear hfz23_0
     try clear hfz23_1
     try clear hfz32_0
     try clear hfz32_1
     try clear hfz38_0
     try clear hfz38_1
     try clear hfz38_2
     try clear hfz44_0
     try clear hfz44_1
     try clear hfz44_2
     try clear p2
     obtain ⟨kq, x305000_27, x305001_27, x305002_27, HA, HJ27, HO_294001, HO_301001, BK293, BK300, BK304, HB⟩ := hcut
     cases kq with
     | zero => exact absurd HA.out (by simp [kerbsuitelaw12_DatabaseFinds.j1])
     | succ kj27 =>
      have H := HA.out
      clear HA
      simp only [kerbsuitelaw12_DatabaseFinds.j1] at H
      have H' := Aside0.mk H
      clear H
      go_wp2
      go_loopg [17] kj27 (fun kq v17 w' => ∃ (x17_3 : Int), v17 = .int .i64 x17_3 ∧ Aside0 (kerbsuitelaw12_DatabaseFinds.l0 kq a2 a3 a4 a5 x17_3 a0_0 l0_1 t296 t297 x305000_27 x305001_27 x305002_27 = some r) ∧ Aside0 (kq ≤ kj27) ∧ Aside0 (Kd.V k35 35 w' w.heap.size (fun k_ => (P0_1_ k_ ∨ w.heap.size ≤ k_) ∧ k_ ≠ gb293 ∧ k_ ≠ gb300 ∧ k_ ≠ gb304) (.slice A0_1 l0_1.length c0_1) l0_1) ∧ Aside0 (Kd.V k35 35 w' w.heap.size (fun k_ => (P0_1_ k_ ∨ w.heap.size ≤ k_) ∧ k_ ≠ gb293 ∧ k_ ≠ gb300 ∧ k_ ≠ gb304) (.slice Ao33 t297.length co33) t297) ∧ Aside0 (w'.heap[gb293]? = some (.cells #[.string a0_0, (.slice A0_1 l0_1.length c0_1)] 24 (0, 0))) ∧ Aside0 (w'.heap[gb300]? = some (.cells #[.string t296, (.slice Ao33 t297.length co33)] 24 (0, 0))) ∧ Aside0 (w'.heap[gb304]? = some (.cells #[.string x305000_27, .string x305001_27, .string x305002_27] 41 (0, 0))) ∧ Aside0 (Below w.heap.size w w'))
      case atStart => exact ⟨(0), (by first | rfl | (simp; done) | (simp [*]; done)), H', ⟨Nat.le_refl _⟩, ⟨by refine bk_ ?_; exact Kd.V_mono HO_294001.out (fun _ hk => by first | exact ⟨hk.1, ⟨hk.2.2.1, ⟨hk.2.2.2.1, hk.2.2.2.2⟩⟩⟩ | simp only [hk, ne_eq, not_false_eq_true,and_self])⟩, ⟨Kd.V_mono (Kd.R_V (ok := (fun k_ => (w.heap.size ≤ k_) ∧ k_ ≠ gb293 ∧ k_ ≠ gb300 ∧ k_ ≠ gb304)) (by refine bk_ ?_; exact Kd.R_mono (Kd.R_types (Kd.R_types (Kd.R_types HO_301001.out BK293.out (by decide)) BK300.out (by decide)) BK304.out (by decide)) (fun _ hk => ⟨hk.1.1.1, ⟨hk.1.1.2, ⟨hk.1.2, hk.2⟩⟩⟩))) (fun k_ hk => by first | exact ⟨(.inr (hk.1)), hk.2⟩ | exact (.inr (hk)))⟩, ⟨by refine bk_ ?_; exact BK293.out⟩, ⟨by refine bk_ ?_; exact BK300.out⟩, ⟨by refine bk_ ?_; exact BK304.out⟩, ⟨by repeat (first | (with_reducible first | exact HB.out | apply bA_ | apply bN_ | apply bD_ | refine bS_ ?_ GE293.out | refine bS_ ?_ GE300.out | refine bS_ ?_ GE304.out) | exact HB.out)⟩⟩
      case round =>
       clear H'
       try clear c1
       try clear c2
       try clear p2
       try clear c3
       try clear c4
       try clear p6
       try clear c7
       try clear c8
       try clear c9
       try clear c14
       try clear c16
       try clear c17
       try clear c17b0
       try clear c17b1
       try clear c20
       try clear c20b0
       try clear c20b1
       try clear c25
       try clear c31
       try clear c36
       try clear c37
       try clear c39
       try clear c39b0
       try clear c39b1
       try clear c42
       try clear c43
       try clear hcz15_0
       try clear hcz15_1
       try clear hcz18_0
       try clear hcz18_1
       try clear hcz21_0
       try clear hcz21_1
       try clear hcz23_0
       try clear hcz23_1
       try clear hcz32_0
       try clear hcz32_1
       try clear hcz38_0
       try clear hcz38_1
       try clear hcz38_2
       try clear hcz44_0
       try clear hcz44_1
       try clear hcz44_2
       try clear hfz15_0
       try clear hfz15_1
       try clear hfz18_0
       try clear hfz18_1
       try clear hfz21_0
       try clear hfz21_1
       try clear hfz23_0
       try clear hfz23_1
       try clear hfz32_0
       try clear hfz32_1
       try clear hfz38_0
       try clear hfz38_1
       try clear hfz38_2
       try clear hfz44_0
       try clear hfz44_1
       try clear hfz44_2
       try clear p2
       try clear p6
       obtain ⟨x17_3, rfl, HA, HK3, HO_294001, HO_301001, BK293, BK300, BK304, HB⟩ := hrel
       cases gk with
       | zero => exact absurd HA.out (by simp [kerbsuitelaw12_DatabaseFinds.l0])
       | succ k3 =>
        have H := HA.out
        clear HA
        simp only [kerbsuitelaw12_DatabaseFinds.l0] at H
        by_cases c45 : x17_3 < 4
        ·rw [if_pos c45] at H
         have c45b0 : decide (x17_3 < 4) = true := decide_eq_true c45
         clear c45
         obtain ⟨y308, hy308⟩ : ∃ y_ : List (S24), y_ = (([(⟨a0_0, l0_1⟩ : S24), (⟨t296, t297⟩ : S24)] : List (S24))) := ⟨_, rfl⟩
         replace H : (if 0 ≤ (Int.tmod x17_3 2) then (if (Int.tmod x17_3 2) < (y308.length : Int) then ((some (([a2, x305000_27] : List ByteArray) : List ByteArray)).bind fun y313 => (if 0 ≤ (wrap64 (Int.tdiv x17_3 2)) then (if (wrap64 (Int.tdiv x17_3 2)) < (y313.length : Int) then ((some (([a3, x305001_27] : List ByteArray) : List ByteArray)).bind fun y317 => (if (wrap64 (Int.tdiv x17_3 2)) < (y317.length : Int) then ((some (([a4, wrap64 ((wrap64 (a5)) * 200)] : List Int) : List Int)).bind fun y321 => (if (wrap64 (Int.tdiv x17_3 2)) < (y321.length : Int) then ((database_Find.f k3 ((rd_T24 y308 (Int.tmod x17_3 2)).f0) ((rd_T24 y308 (Int.tmod x17_3 2)).f1) (rdOf ByteArray.empty y313 (wrap64 (Int.tdiv x17_3 2))) (rdOf ByteArray.empty y317 (wrap64 (Int.tdiv x17_3 2)))).bind fun bt325 => ((kerbsuiteref12_Find.f k3 ((rd_T24 y308 (Int.tmod x17_3 2)).f0) ((rd_T24 y308 (Int.tmod x17_3 2)).f1) (rdOf ByteArray.empty y313 (wrap64 (Int.tdiv x17_3 2))) (rdOf ByteArray.empty y317 (wrap64 (Int.tdiv x17_3 2)))).bind fun bt327 => (if bt325.1 = bt327.1 then (kerbsuitelaw12_DatabaseFinds.j3 k3 a2 a3 a4 a5 x17_3 (rdOf ByteArray.empty y313 (wrap64 (Int.tdiv x17_3 2))) (rdOf ByteArray.empty y317 (wrap64 (Int.tdiv x17_3 2))) (rd y321 (wrap64 (Int.tdiv x17_3 2))) (bt325.2 != bt327.2) a0_0 l0_1 t296 t297 x305000_27 x305001_27 x305002_27 ((rd_T24 y308 (Int.tmod x17_3 2)).f0) ((rd_T24 y308 (Int.tmod x17_3 2)).f1)) else (kerbsuitelaw12_DatabaseFinds.j3 k3 a2 a3 a4 a5 x17_3 (rdOf ByteArray.empty y313 (wrap64 (Int.tdiv x17_3 2))) (rdOf ByteArray.empty y317 (wrap64 (Int.tdiv x17_3 2))) (rd y321 (wrap64 (Int.tdiv x17_3 2))) true a0_0 l0_1 t296 t297 x305000_27 x305001_27 x305002_27 ((rd_T24 y308 (Int.tmod x17_3 2)).f0) ((rd_T24 y308 (Int.tmod x17_3 2)).f1))))) else (none))) else (none))) else (none)) else (none))) else (none)) else (none)) = some r := by first | (rw [hy308]; with_reducible exact H) | (have H2_ := (Option.bind_some _ _).symm.trans H; rw [hy308]; with_reducible exact H2_) | (have H2_ := (Option.bind_some _ _).symm.trans H; with_reducible exact H2_) | with_reducible exact H | (rw [hy308]; exact H) | exact H
         have Ny308 := Aside0.mk hy308
         clear hy308
         obtain ⟨ji46, hji46⟩ : ∃ j_ : Int, (Int.tmod x17_3 2) = j_ := ⟨_, rfl⟩
         replace H : (if 0 ≤ (ji46) then (if (ji46) < (y308.length : Int) then ((some (([a2, x305000_27] : List ByteArray) : List ByteArray)).bind fun y313 => (if 0 ≤ (wrap64 (Int.tdiv x17_3 2)) then (if (wrap64 (Int.tdiv x17_3 2)) < (y313.length : Int) then ((some (([a3, x305001_27] : List ByteArray) : List ByteArray)).bind fun y317 => (if (wrap64 (Int.tdiv x17_3 2)) < (y317.length : Int) then ((some (([a4, wrap64 ((wrap64 (a5)) * 200)] : List Int) : List Int)).bind fun y321 => (if (wrap64 (Int.tdiv x17_3 2)) < (y321.length : Int) then ((database_Find.f k3 ((rd_T24 y308 (ji46)).f0) ((rd_T24 y308 (ji46)).f1) (rdOf ByteArray.empty y313 (wrap64 (Int.tdiv x17_3 2))) (rdOf ByteArray.empty y317 (wrap64 (Int.tdiv x17_3 2)))).bind fun bt325 => ((kerbsuiteref12_Find.f k3 ((rd_T24 y308 (ji46)).f0) ((rd_T24 y308 (ji46)).f1) (rdOf ByteArray.empty y313 (wrap64 (Int.tdiv x17_3 2))) (rdOf ByteArray.empty y317 (wrap64 (Int.tdiv x17_3 2)))).bind fun bt327 => (if bt325.1 = bt327.1 then (kerbsuitelaw12_DatabaseFinds.j3 k3 a2 a3 a4 a5 x17_3 (rdOf ByteArray.empty y313 (wrap64 (Int.tdiv x17_3 2))) (rdOf ByteArray.empty y317 (wrap64 (Int.tdiv x17_3 2))) (rd y321 (wrap64 (Int.tdiv x17_3 2))) (bt325.2 != bt327.2) a0_0 l0_1 t296 t297 x305000_27 x305001_27 x305002_27 ((rd_T24 y308 (ji46)).f0) ((rd_T24 y308 (ji46)).f1)) else (kerbsuitelaw12_DatabaseFinds.j3 k3 a2 a3 a4 a5 x17_3 (rdOf ByteArray.empty y313 (wrap64 (Int.tdiv x17_3 2))) (rdOf ByteArray.empty y317 (wrap64 (Int.tdiv x17_3 2))) (rd y321 (wrap64 (Int.tdiv x17_3 2))) true a0_0 l0_1 t296 t297 x305000_27 x305001_27 x305002_27 ((rd_T24 y308 (ji46)).f0) ((rd_T24 y308 (ji46)).f1))))) else (none))) else (none))) else (none)) else (none))) else (none)) else (none)) = some r := by first | (rw [hji46] at H; exact H) | (simp only [hji46] at H ⊢; exact H)
         by_cases c47 : 0 ≤ (ji46)
         ·rw [if_pos c47] at H
          have c47b0 : decide (0 ≤ (ji46)) = true := decide_eq_true c47
          clear c47
          by_cases c48 : (ji46) < (y308.length : Int)
          ·rw [if_pos c48] at H
           have c48b0 : decide ((ji46) < (y308.length : Int)) = true := decide_eq_true c48
           clear c48
           obtain ⟨y313, hy313⟩ : ∃ y_ : List ByteArray, y_ = (([a2, x305000_27] : List ByteArray)) := ⟨_, rfl⟩
           replace H : (if 0 ≤ (wrap64 (Int.tdiv x17_3 2)) then (if (wrap64 (Int.tdiv x17_3 2)) < (y313.length : Int) then ((some (([a3, x305001_27] : List ByteArray) : List ByteArray)).bind fun y317 => (if (wrap64 (Int.tdiv x17_3 2)) < (y317.length : Int) then ((some (([a4, wrap64 ((wrap64 (a5)) * 200)] : List Int) : List Int)).bind fun y321 => (if (wrap64 (Int.tdiv x17_3 2)) < (y321.length : Int) then ((database_Find.f k3 ((rd_T24 y308 (ji46)).f0) ((rd_T24 y308 (ji46)).f1) (rdOf ByteArray.empty y313 (wrap64 (Int.tdiv x17_3 2))) (rdOf ByteArray.empty y317 (wrap64 (Int.tdiv x17_3 2)))).bind fun bt325 => ((kerbsuiteref12_Find.f k3 ((rd_T24 y308 (ji46)).f0) ((rd_T24 y308 (ji46)).f1) (rdOf ByteArray.empty y313 (wrap64 (Int.tdiv x17_3 2))) (rdOf ByteArray.empty y317 (wrap64 (Int.tdiv x17_3 2)))).bind fun bt327 => (if bt325.1 = bt327.1 then (kerbsuitelaw12_DatabaseFinds.j3 k3 a2 a3 a4 a5 x17_3 (rdOf ByteArray.empty y313 (wrap64 (Int.tdiv x17_3 2))) (rdOf ByteArray.empty y317 (wrap64 (Int.tdiv x17_3 2))) (rd y321 (wrap64 (Int.tdiv x17_3 2))) (bt325.2 != bt327.2) a0_0 l0_1 t296 t297 x305000_27 x305001_27 x305002_27 ((rd_T24 y308 (ji46)).f0) ((rd_T24 y308 (ji46)).f1)) else (kerbsuitelaw12_DatabaseFinds.j3 k3 a2 a3 a4 a5 x17_3 (rdOf ByteArray.empty y313 (wrap64 (Int.tdiv x17_3 2))) (rdOf ByteArray.empty y317 (wrap64 (Int.tdiv x17_3 2))) (rd y321 (wrap64 (Int.tdiv x17_3 2))) true a0_0 l0_1 t296 t297 x305000_27 x305001_27 x305002_27 ((rd_T24 y308 (ji46)).f0) ((rd_T24 y308 (ji46)).f1))))) else (none))) else (none))) else (none)) else (none)) = some r := by first | (rw [hy313]; with_reducible exact H) | (have H2_ := (Option.bind_some _ _).symm.trans H; rw [hy313]; with_reducible exact H2_) | (have H2_ := (Option.bind_some _ _).symm.trans H; with_reducible exact H2_) | with_reducible exact H | (rw [hy313]; exact H) | exact H
           have Ny313 := Aside0.mk hy313
           clear hy313
           obtain ⟨ji49, hji49⟩ : ∃ j_ : Int, (wrap64 (Int.tdiv x17_3 2)) = j_ := ⟨_, rfl⟩
           replace H : (if 0 ≤ (ji49) then (if (ji49) < (y313.length : Int) then ((some (([a3, x305001_27] : List ByteArray) : List ByteArray)).bind fun y317 => (if (ji49) < (y317.length : Int) then ((some (([a4, wrap64 ((wrap64 (a5)) * 200)] : List Int) : List Int)).bind fun y321 => (if (ji49) < (y321.length : Int) then ((database_Find.f k3 ((rd_T24 y308 (ji46)).f0) ((rd_T24 y308 (ji46)).f1) (rdOf ByteArray.empty y313 (ji49)) (rdOf ByteArray.empty y317 (ji49))).bind fun bt325 => ((kerbsuiteref12_Find.f k3 ((rd_T24 y308 (ji46)).f0) ((rd_T24 y308 (ji46)).f1) (rdOf ByteArray.empty y313 (ji49)) (rdOf ByteArray.empty y317 (ji49))).bind fun bt327 => (if bt325.1 = bt327.1 then (kerbsuitelaw12_DatabaseFinds.j3 k3 a2 a3 a4 a5 x17_3 (rdOf ByteArray.empty y313 (ji49)) (rdOf ByteArray.empty y317 (ji49)) (rd y321 (ji49)) (bt325.2 != bt327.2) a0_0 l0_1 t296 t297 x305000_27 x305001_27 x305002_27 ((rd_T24 y308 (ji46)).f0) ((rd_T24 y308 (ji46)).f1)) else (kerbsuitelaw12_DatabaseFinds.j3 k3 a2 a3 a4 a5 x17_3 (rdOf ByteArray.empty y313 (ji49)) (rdOf ByteArray.empty y317 (ji49)) (rd y321 (ji49)) true a0_0 l0_1 t296 t297 x305000_27 x305001_27 x305002_27 ((rd_T24 y308 (ji46)).f0) ((rd_T24 y308 (ji46)).f1))))) else (none))) else (none))) else (none)) else (none)) = some r := by first | (rw [hji49] at H; exact H) | (simp only [hji49] at H ⊢; exact H)
           have hji49w : (IntKind.i64.wrap (Int.tdiv x17_3 2)) = ji49 := (i64_w _).trans hji49
           by_cases c50 : 0 ≤ (ji49)
           ·rw [if_pos c50] at H
            have c50b0 : decide (0 ≤ (ji49)) = true := decide_eq_true c50
            clear c50
            by_cases c51 : (ji49) < (y313.length : Int)
            ·rw [if_pos c51] at H
             have c51b0 : decide ((ji49) < (y313.length : Int)) = true := decide_eq_true c51
             clear c51
             obtain ⟨y317, hy317⟩ : ∃ y_ : List ByteArray, y_ = (([a3, x305001_27] : List ByteArray)) := ⟨_, rfl⟩
             replace H : (if (ji49) < (y317.length : Int) then ((some (([a4, wrap64 ((wrap64 (a5)) * 200)] : List Int) : List Int)).bind fun y321 => (if (ji49) < (y321.length : Int) then ((database_Find.f k3 ((rd_T24 y308 (ji46)).f0) ((rd_T24 y308 (ji46)).f1) (rdOf ByteArray.empty y313 (ji49)) (rdOf ByteArray.empty y317 (ji49))).bind fun bt325 => ((kerbsuiteref12_Find.f k3 ((rd_T24 y308 (ji46)).f0) ((rd_T24 y308 (ji46)).f1) (rdOf ByteArray.empty y313 (ji49)) (rdOf ByteArray.empty y317 (ji49))).bind fun bt327 => (if bt325.1 = bt327.1 then (kerbsuitelaw12_DatabaseFinds.j3 k3 a2 a3 a4 a5 x17_3 (rdOf ByteArray.empty y313 (ji49)) (rdOf ByteArray.empty y317 (ji49)) (rd y321 (ji49)) (bt325.2 != bt327.2) a0_0 l0_1 t296 t297 x305000_27 x305001_27 x305002_27 ((rd_T24 y308 (ji46)).f0) ((rd_T24 y308 (ji46)).f1)) else (kerbsuitelaw12_DatabaseFinds.j3 k3 a2 a3 a4 a5 x17_3 (rdOf ByteArray.empty y313 (ji49)) (rdOf ByteArray.empty y317 (ji49)) (rd y321 (ji49)) true a0_0 l0_1 t296 t297 x305000_27 x305001_27 x305002_27 ((rd_T24 y308 (ji46)).f0) ((rd_T24 y308 (ji46)).f1))))) else (none))) else (none)) = some r := by first | (rw [hy317]; with_reducible exact H) | (have H2_ := (Option.bind_some _ _).symm.trans H; rw [hy317]; with_reducible exact H2_) | (have H2_ := (Option.bind_some _ _).symm.trans H; with_reducible exact H2_) | with_reducible exact H | (rw [hy317]; exact H) | exact H
             have Ny317 := Aside0.mk hy317
             clear hy317
             by_cases c52 : (ji49) < (y317.length : Int)
             ·rw [if_pos c52] at H
              have c52b0 : decide ((ji49) < (y317.length : Int)) = true := decide_eq_true c52
              clear c52
              obtain ⟨y321, hy321⟩ : ∃ y_ : List Int, y_ = (([a4, wrap64 ((wrap64 (a5)) * 200)] : List Int)) := ⟨_, rfl⟩
              replace H : (if (ji49) < (y321.length : Int) then ((database_Find.f k3 ((rd_T24 y308 (ji46)).f0) ((rd_T24 y308 (ji46)).f1) (rdOf ByteArray.empty y313 (ji49)) (rdOf ByteArray.empty y317 (ji49))).bind fun bt325 => ((kerbsuiteref12_Find.f k3 ((rd_T24 y308 (ji46)).f0) ((rd_T24 y308 (ji46)).f1) (rdOf ByteArray.empty y313 (ji49)) (rdOf ByteArray.empty y317 (ji49))).bind fun bt327 => (if bt325.1 = bt327.1 then (kerbsuitelaw12_DatabaseFinds.j3 k3 a2 a3 a4 a5 x17_3 (rdOf ByteArray.empty y313 (ji49)) (rdOf ByteArray.empty y317 (ji49)) (rd y321 (ji49)) (bt325.2 != bt327.2) a0_0 l0_1 t296 t297 x305000_27 x305001_27 x305002_27 ((rd_T24 y308 (ji46)).f0) ((rd_T24 y308 (ji46)).f1)) else (kerbsuitelaw12_DatabaseFinds.j3 k3 a2 a3 a4 a5 x17_3 (rdOf ByteArray.empty y313 (ji49)) (rdOf ByteArray.empty y317 (ji49)) (rd y321 (ji49)) true a0_0 l0_1 t296 t297 x305000_27 x305001_27 x305002_27 ((rd_T24 y308 (ji46)).f0) ((rd_T24 y308 (ji46)).f1))))) else (none)) = some r := by first | (rw [hy321]; with_reducible exact H) | (have H2_ := (Option.bind_some _ _).symm.trans H; rw [hy321]; with_reducible exact H2_) | (have H2_ := (Option.bind_some _ _).symm.trans H; with_reducible exact H2_) | with_reducible exact H | (rw [hy321]; exact H) | exact H
              have Ny321 := Aside0.mk hy321
              clear hy321
              by_cases c53 : (ji49) < (y321.length : Int)
              ·rw [if_pos c53] at H
               have c53b0 : decide ((ji49) < (y321.length : Int)) = true := decide_eq_true c53
               clear c53
               replace H := Option.bind_eq_some_iff.mp H
               obtain ⟨⟨t325, t326⟩, A540, H⟩ := H
               replace H : ((kerbsuiteref12_Find.f k3 ((rd_T24 y308 (ji46)).f0) ((rd_T24 y308 (ji46)).f1) (rdOf ByteArray.empty y313 (ji49)) (rdOf ByteArray.empty y317 (ji49))).bind fun bt327 => (if t325 = bt327.1 then (kerbsuitelaw12_DatabaseFinds.j3 k3 a2 a3 a4 a5 x17_3 (rdOf ByteArray.empty y313 (ji49)) (rdOf ByteArray.empty y317 (ji49)) (rd y321 (ji49)) (t326 != bt327.2) a0_0 l0_1 t296 t297 x305000_27 x305001_27 x305002_27 ((rd_T24 y308 (ji46)).f0) ((rd_T24 y308 (ji46)).f1)) else (kerbsuitelaw12_DatabaseFinds.j3 k3 a2 a3 a4 a5 x17_3 (rdOf ByteArray.empty y313 (ji49)) (rdOf ByteArray.empty y317 (ji49)) (rd y321 (ji49)) true a0_0 l0_1 t296 t297 x305000_27 x305001_27 x305002_27 ((rd_T24 y308 (ji46)).f0) ((rd_T24 y308 (ji46)).f1)))) = some r := H
               have A54 := Aside0.mk A540
               clear A540
               replace H := Option.bind_eq_some_iff.mp H
               obtain ⟨⟨t327, t328⟩, A550, H⟩ := H
               replace H : (if t325 = t327 then (kerbsuitelaw12_DatabaseFinds.j3 k3 a2 a3 a4 a5 x17_3 (rdOf ByteArray.empty y313 (ji49)) (rdOf ByteArray.empty y317 (ji49)) (rd y321 (ji49)) (t326 != t328) a0_0 l0_1 t296 t297 x305000_27 x305001_27 x305002_27 ((rd_T24 y308 (ji46)).f0) ((rd_T24 y308 (ji46)).f1)) else (kerbsuitelaw12_DatabaseFinds.j3 k3 a2 a3 a4 a5 x17_3 (rdOf ByteArray.empty y313 (ji49)) (rdOf ByteArray.empty y317 (ji49)) (rd y321 (ji49)) true a0_0 l0_1 t296 t297 x305000_27 x305001_27 x305002_27 ((rd_T24 y308 (ji46)).f0) ((rd_T24 y308 (ji46)).f1))) = some r := H
               have A55 := Aside0.mk A550
               clear A550
               have HC56 := Aside0.mk H
               clear H
               have hnb57 := NB293_300.out
               have hnc57 := NB300_293.out
               have hnb58 := NB293_304.out
               have hnc58 := NB304_293.out
               have hcz59_0 : wr.cell? ⟨gb293, 0, none⟩ = some (.string a0_0) := (blk_cell BK293.out 0).trans rfl
               have hcz59_1 : wr.cell? ⟨gb293, 1, none⟩ = some (.slice A0_1 l0_1.length c0_1) := (blk_cell BK293.out 1).trans rfl
               have hfz59_0 := blk_frozen BK293.out 0
               have hfz59_1 := blk_frozen BK293.out 1
               have hnb60 := NB300_304.out
               have hnc60 := NB304_300.out
               have hcz61_0 : wr.cell? ⟨gb300, 0, none⟩ = some (.string t296) := (blk_cell BK300.out 0).trans rfl
               have hcz61_1 : wr.cell? ⟨gb300, 1, none⟩ = some (.slice Ao33 t297.length co33) := (blk_cell BK300.out 1).trans rfl
               have hfz61_0 := blk_frozen BK300.out 0
               have hfz61_1 := blk_frozen BK300.out 1
               try go_wp2_with (first | ((with_reducible refine gate_dst (N := 65) rfl ?_); (try (refine gate_guard (by rfl) ?_; dsimp only)); refine Kd.N_lit k24 _ 24 ?hg (N' := 65) ?hd (xs := ([(⟨a0_0, l0_1⟩ : S24), (⟨t296, t297⟩ : S24)] : List (S24))) (inner := [.string a0_0, .slice A0_1 l0_1.length c0_1, .string t296, .slice Ao33 t297.length co33]) (ok := (fun k_ => (P0_1_ k_ ∨ w.heap.size ≤ k_) ∧ k_ ≠ gb293 ∧ k_ ≠ gb300 ∧ k_ ≠ gb304)) (okp := (fun k_ => (P0_1_ k_ ∨ w.heap.size ≤ k_) ∧ k_ ≠ gb293 ∧ k_ ≠ gb300 ∧ k_ ≠ gb304)) ?hr ?hp (fun _ hk => hk) ((show ∀ k_, wr.heap.size ≤ k_ → (fun k_ => (P0_1_ k_ ∨ w.heap.size ≤ k_) ∧ k_ ≠ gb293 ∧ k_ ≠ gb300 ∧ k_ ≠ gb304) k_ from fun k_ hk => ⟨(.inr (Nat.le_trans (below_size (by repeat (first | (with_reducible first | exact HB.out | apply bA_ | apply bN_ | apply bD_ | refine bS_ ?_ GE293.out | refine bS_ ?_ GE300.out | refine bS_ ?_ GE304.out) | exact HB.out))) hk)), Kd.freshB (g := gb293) (o := .cells #[.string a0_0, .slice A0_1 l0_1.length c0_1] 24 (0, 0)) (bk_ BK293.out) k_ hk, Kd.freshB (g := gb300) (o := .cells #[.string t296, .slice Ao33 t297.length co33] 24 (0, 0)) (bk_ BK300.out) k_ hk, Kd.freshB (g := gb304) (o := .cells #[.string x305000_27, .string x305001_27, .string x305002_27] 41 (0, 0)) (bk_ BK304.out) k_ hk⟩) _ (Nat.le_refl _)) (Below.refl _ _) (Nat.le_refl _) (by simp) ?_; (case hd => rfl); (case hg => rfl); (case hr => first | (go_simp; done) | (go_simp; rfl)); (case hp => exact (Reps.c2 (show Kd.FK k24 _ _ (⟨a0_0, l0_1⟩ : S24) [.string a0_0, .slice A0_1 l0_1.length c0_1] from (k24_mkF _ _ (⟨a0_0, l0_1⟩ : S24) (Kd.V_reads' (Kd.V_mono (ok' := (fun k_ => (P0_1_ k_ ∨ w.heap.size ≤ k_) ∧ k_ ≠ gb293 ∧ k_ ≠ gb300 ∧ k_ ≠ gb304)) (HO_294001.out) (fun k_ hk => ⟨hk.1, ⟨hk.2.1, ⟨hk.2.2.1, hk.2.2.2⟩⟩⟩))).2.1 (Kd.V_F (Kd.V_mono (ok' := (fun k_ => (P0_1_ k_ ∨ w.heap.size ≤ k_) ∧ k_ ≠ gb293 ∧ k_ ≠ gb300 ∧ k_ ≠ gb304)) (HO_294001.out) (fun k_ hk => ⟨hk.1, ⟨hk.2.1, ⟨hk.2.2.1, hk.2.2.2⟩⟩⟩))))) (Reps.c2 (show Kd.FK k24 _ _ (⟨t296, t297⟩ : S24) [.string t296, .slice Ao33 t297.length co33] from (k24_mkF _ _ (⟨t296, t297⟩ : S24) (Kd.V_reads' (Kd.V_mono (ok' := (fun k_ => (P0_1_ k_ ∨ w.heap.size ≤ k_) ∧ k_ ≠ gb293 ∧ k_ ≠ gb300 ∧ k_ ≠ gb304)) (HO_301001.out) (fun k_ hk => ⟨hk.1, ⟨hk.2.1, ⟨hk.2.2.1, hk.2.2.2⟩⟩⟩))).2.1 (Kd.V_F (Kd.V_mono (ok' := (fun k_ => (P0_1_ k_ ∨ w.heap.size ≤ k_) ∧ k_ ≠ gb293 ∧ k_ ≠ gb300 ∧ k_ ≠ gb304)) (HO_301001.out) (fun k_ hk => ⟨hk.1, ⟨hk.2.1, ⟨hk.2.2.1, hk.2.2.2⟩⟩⟩))))) (Reps.none _ _)))); intro v309 w62 ho63 hb hg_ hnew_; clear hg_ hnew_; (first | rw [← Ny308.out] at ho63 | (simp only [Int.reduceToNat] at ho63; rw [← Ny308.out] at ho63)); have n0_ := Aside0.mk (Kd.V_elder' (bk_ HO_294001.out) (Kd.N_base ho63) hb); have n1_ := Aside0.mk (Kd.V_elder' (bk_ HO_301001.out) (Kd.N_base ho63) hb); have n2_ := Aside0.mk (Kd.N_lower ho63 (below_size (by repeat (first | (with_reducible first | exact HB.out | apply bA_ | apply bN_ | apply bD_ | refine bS_ ?_ GE293.out | refine bS_ ?_ GE300.out | refine bS_ ?_ GE304.out) | exact HB.out)))); have n3_ := Aside0.mk (blk_below (g := gb293) (o := .cells #[.string a0_0, .slice A0_1 l0_1.length c0_1] 24 (0, 0)) (bk_ BK293.out) hb); have n4_ := Aside0.mk (blk_below (g := gb300) (o := .cells #[.string t296, .slice Ao33 t297.length co33] 24 (0, 0)) (bk_ BK300.out) hb); have n5_ := Aside0.mk (blk_below (g := gb304) (o := .cells #[.string x305000_27, .string x305001_27, .string x305002_27] 41 (0, 0)) (bk_ BK304.out) hb); have n6_ := Aside0.mk (below_step (by repeat (first | (with_reducible first | exact HB.out | apply bA_ | apply bN_ | apply bD_ | refine bS_ ?_ GE293.out | refine bS_ ?_ GE300.out | refine bS_ ?_ GE304.out) | exact HB.out)) hb); clear HO_294001 HO_301001 BK293 BK300 BK304 HB; have HO_294001 := n0_; have HO_301001 := n1_; have HO310 := n2_; have BK293 := n3_; have BK300 := n4_; have BK304 := n5_; have HB := n6_; clear n0_ n1_ n2_ n3_ n4_ n5_ n6_; clear hb ho63; obtain ⟨Ao64, co64, eo64⟩ := Kd.N_slice HO310.out; subst eo64; have p311 : 0 ≤ ((ji46) : Int) := of_decide_eq_true (by first | (with_reducible assumption) | assumption); have q311 : (ji46) < (y308.length : Int) := of_decide_eq_true (by first | (with_reducible assumption) | assumption); obtain ⟨ad311, A311_1, c311_1, e311, hx311_0, hx311_1, hl311_1, hi311_1⟩ := at_T24 (Kd.N_reads' HO310.out).2.2 (ji46) p311 q311; cases e311; obtain ⟨ce311, hce311, hMe311, hcc311⟩ := Kd.N_get HO310.out z24 (ji46) p311 (by first | exact q311 | exact of_decide_eq_true (by first | (with_reducible assumption) | assumption) | (have e_ := (Kd.N_reads' HO310.out).1; omega)); obtain ⟨ua311_1, uc311_1, rfl, ul311_1, ge311_1⟩ := k24_openF hMe311; have hv311_1 := hcc311 1 _ rfl; rw [add_field _ _ 1 (by omega)] at hv311_1; replace hv311_1 := Option.some.inj (hv311_1.symm.trans hx311_1); injection hv311_1 with hva_ hvn_ hvc_; rw [hva_] at ge311_1; rw [hvc_] at ul311_1; have HL311_1 := Aside0.mk (show Kd.V k35 35 _ w.heap.size _ _ ((rd_T24 y308 (ji46)).f1) from Kd.V_mk ul311_1 ge311_1); clear hva_ hvn_ hvc_ ge311_1 ul311_1; clear hcc311 hce311; have HR311_1 := Aside0.mk hi311_1; have HC311_1 := Aside0.mk hl311_1; clear hi311_1 hl311_1; replace p311 := eq_true p311; replace q311 := eq_true q311) | ((with_reducible refine gate_dst (N := 18) rfl ?_); (try (refine gate_guard (by rfl) ?_; dsimp only)); refine box_event ?hg (N := 18) ?hd (cs := #[.string (⟨#[]⟩ : ByteArray), .slice none 0 0]) (t := 24) ?hr ?_; (case hd => rfl); (case hg => rfl); (case hr => first | (go_simp; done) | (go_simp; rfl)); intro gb312 hg w65 hbox hb; have n0_ := Aside0.mk (Kd.V_below (Kd.V_elderB (bk_ HO_294001.out) gb312 (Nat.le_of_eq hg.symm)) hb); have n1_ := Aside0.mk (Kd.V_below (Kd.V_elderB (bk_ HO_301001.out) gb312 (Nat.le_of_eq hg.symm)) hb); have n2_ := Aside0.mk (Kd.N_below (Kd.N_elderB (bk_ HO310.out) gb312 (Nat.le_of_eq hg.symm)) hb); have n3_ := Aside0.mk (Kd.V_below (Kd.V_elderB (bk_ HL311_1.out) gb312 (Nat.le_of_eq hg.symm)) hb); have n4_ := Aside0.mk (blk_below (g := gb293) (o := .cells #[.string a0_0, .slice A0_1 l0_1.length c0_1] 24 (0, 0)) (bk_ BK293.out) hb); have n5_ := Aside0.mk (blk_below (g := gb300) (o := .cells #[.string t296, .slice Ao33 t297.length co33] 24 (0, 0)) (bk_ BK300.out) hb); have n6_ := Aside0.mk (blk_below (g := gb304) (o := .cells #[.string x305000_27, .string x305001_27, .string x305002_27] 41 (0, 0)) (bk_ BK304.out) hb); have n7_ := Aside0.mk (Kd.C_below (by first | (with_reducible exact HR311_1.out) | (with_reducible exact Kd.C_drewN HR311_1.out _) | (with_reducible exact Kd.C_drew HR311_1.out) | repeat (first | (with_reducible exact HR311_1.out) | (with_reducible refine Kd.C_alloc ?_ _) | (with_reducible refine Kd.C_drewN ?_ _) | (with_reducible refine Kd.C_drew ?_) | exact HR311_1.out)) hb); have n8_ := Aside0.mk (below_step (by repeat (first | (with_reducible first | exact HB.out | apply bA_ | apply bN_ | apply bD_ | refine bS_ ?_ GE293.out | refine bS_ ?_ GE300.out | refine bS_ ?_ GE304.out) | exact HB.out)) hb); have n9_ := Aside0.mk (hbox); have n10_ := Aside0.mk ((by rw [hg]; exact (below_size (by repeat (first | (with_reducible first | exact HB.out | apply bA_ | apply bN_ | apply bD_ | refine bS_ ?_ GE293.out | refine bS_ ?_ GE300.out | refine bS_ ?_ GE304.out) | exact HB.out))) : w.heap.size ≤ gb312)); have n11_ := Aside0.mk ((by rw [hg]; exact (below_size (by repeat (first | (with_reducible first | exact HB.out | apply bA_ | apply bN_ | apply bD_ | refine bS_ ?_ GE293.out | refine bS_ ?_ GE300.out | refine bS_ ?_ GE304.out) | exact HB.out))) : w.heap.size ≤ gb312)); have n12_ := Aside0.mk ((by rw [hg]; exact Nat.ne_of_lt (blk_lt (g := gb293) (o := .cells #[.string a0_0, .slice A0_1 l0_1.length c0_1] 24 (0, 0)) (bk_ BK293.out)) : gb293 ≠ gb312)); have n13_ := Aside0.mk ((by rw [hg]; exact Nat.ne_of_gt (blk_lt (g := gb293) (o := .cells #[.string a0_0, .slice A0_1 l0_1.length c0_1] 24 (0, 0)) (bk_ BK293.out)) : gb312 ≠ gb293)); have n14_ := Aside0.mk ((by rw [hg]; exact Nat.ne_of_lt (blk_lt (g := gb300) (o := .cells #[.string t296, .slice Ao33 t297.length co33] 24 (0, 0)) (bk_ BK300.out)) : gb300 ≠ gb312)); have n15_ := Aside0.mk ((by rw [hg]; exact Nat.ne_of_gt (blk_lt (g := gb300) (o := .cells #[.string t296, .slice Ao33 t297.length co33] 24 (0, 0)) (bk_ BK300.out)) : gb312 ≠ gb300)); have n16_ := Aside0.mk ((by rw [hg]; exact Nat.ne_of_lt (blk_lt (g := gb304) (o := .cells #[.string x305000_27, .string x305001_27, .string x305002_27] 41 (0, 0)) (bk_ BK304.out)) : gb304 ≠ gb312)); have n17_ := Aside0.mk ((by rw [hg]; exact Nat.ne_of_gt (blk_lt (g := gb304) (o := .cells #[.string x305000_27, .string x305001_27, .string x305002_27] 41 (0, 0)) (bk_ BK304.out)) : gb312 ≠ gb304)); clear HO_294001 HO_301001 HO310 HL311_1 BK293 BK300 BK304 HR311_1 HB; have HO_294001 := n0_; have HO_301001 := n1_; have HO310 := n2_; have HL311_1 := n3_; have BK293 := n4_; have BK300 := n5_; have BK304 := n6_; have HR311_1 := n7_; have HB := n8_; have BK312 := n9_; have GW312 := n10_; have GE312 := n11_; have NB293_312 := n12_; have NB312_293 := n13_; have NB300_312 := n14_; have NB312_300 := n15_; have NB304_312 := n16_; have NB312_304 := n17_; clear n0_ n1_ n2_ n3_ n4_ n5_ n6_ n7_ n8_ n9_ n10_ n11_ n12_ n13_ n14_ n15_ n16_ n17_; clear hb hbox hg; have hnb66 := NB312_293.out; have hnc66 := NB293_312.out; have hnb67 := NB312_300.out; have hnc67 := NB300_312.out; have hnb68 := NB312_304.out; have hnc68 := NB304_312.out; have hcz69_0 : w65.cell? ⟨gb312, 0, none⟩ = some (.string (⟨#[]⟩ : ByteArray)) := (blk_cell BK312.out 0).trans rfl; have hcz69_1 : w65.cell? ⟨gb312, 1, none⟩ = some (.slice none 0 0) := (blk_cell BK312.out 1).trans rfl; have hfz69_0 := blk_frozen BK312.out 0; have hfz69_1 := blk_frozen BK312.out 1))
               have pi316 : (0 ≤ ((ji49) : Int)) = True := eq_true (of_decide_eq_true (by first | (with_reducible assumption) | assumption))
               have qi316 : ((ji49) < (y313.length : Int)) = True := eq_true (of_decide_eq_true (by first | (with_reducible assumption) | assumption))
               have pi320 : (0 ≤ ((ji49) : Int)) = True := eq_true (of_decide_eq_true (by first | (with_reducible assumption) | assumption))
               have qi320 : ((ji49) < (y317.length : Int)) = True := eq_true (of_decide_eq_true (by first | (with_reducible assumption) | assumption))
               have n0_ : Aside0 (Kd.V k35 35 ((w65.setCell ⟨gb312, 0, none⟩ (.string ((rd_T24 y308 (ji46)).f0))).setCell ⟨gb312, 1, none⟩ (.slice A311_1 ((rd_T24 y308 (ji46)).f1).length c311_1)) w.heap.size (fun k_ => (P0_1_ k_ ∨ w.heap.size ≤ k_) ∧ some k_ ≠ (.slice (some ad311) y308.length co64 : Value).ownBlock ∧ k_ ≠ gb293 ∧ k_ ≠ gb300 ∧ k_ ≠ gb304 ∧ k_ ≠ gb312) (.slice A0_1 l0_1.length c0_1) l0_1) := ⟨by refine bk_ ?_; exact Kd.V_mono (Kd.V_far (p := ⟨gb312, 1, none⟩) (Kd.V_far (p := ⟨gb312, 0, none⟩) (Kd.V_mono HO_294001.out (fun k_ hk => (⟨hk, hk.2⟩ : _ ∧ k_ ≠ gb312))) (fun _ hk => hk.2) (.string ((rd_T24 y308 (ji46)).f0))) (fun _ hk => hk.2) (.slice A311_1 ((rd_T24 y308 (ji46)).f1).length c311_1)) (fun _ hk => ⟨hk.1.1.1.1, ⟨hk.1.1.2, ⟨hk.1.1.1.2.1, ⟨hk.1.1.1.2.2.1, ⟨hk.1.1.1.2.2.2, hk.1.2⟩⟩⟩⟩⟩)⟩
               have n1_ : Aside0 (Kd.V k35 35 ((w65.setCell ⟨gb312, 0, none⟩ (.string ((rd_T24 y308 (ji46)).f0))).setCell ⟨gb312, 1, none⟩ (.slice A311_1 ((rd_T24 y308 (ji46)).f1).length c311_1)) w.heap.size (fun k_ => (P0_1_ k_ ∨ w.heap.size ≤ k_) ∧ some k_ ≠ (.slice (some ad311) y308.length co64 : Value).ownBlock ∧ k_ ≠ gb293 ∧ k_ ≠ gb300 ∧ k_ ≠ gb304 ∧ k_ ≠ gb312) (.slice Ao33 t297.length co33) t297) := ⟨by refine bk_ ?_; exact Kd.V_mono (Kd.V_far (p := ⟨gb312, 1, none⟩) (Kd.V_far (p := ⟨gb312, 0, none⟩) (Kd.V_mono HO_301001.out (fun k_ hk => (⟨hk, hk.2⟩ : _ ∧ k_ ≠ gb312))) (fun _ hk => hk.2) (.string ((rd_T24 y308 (ji46)).f0))) (fun _ hk => hk.2) (.slice A311_1 ((rd_T24 y308 (ji46)).f1).length c311_1)) (fun _ hk => ⟨hk.1.1.1.1, ⟨hk.1.1.2, ⟨hk.1.1.1.2.1, ⟨hk.1.1.1.2.2.1, ⟨hk.1.1.1.2.2.2, hk.1.2⟩⟩⟩⟩⟩)⟩
               have n2_ : Aside0 (Kd.N k24 24 ((w65.setCell ⟨gb312, 0, none⟩ (.string ((rd_T24 y308 (ji46)).f0))).setCell ⟨gb312, 1, none⟩ (.slice A311_1 ((rd_T24 y308 (ji46)).f1).length c311_1)) w.heap.size (fun k_ => (P0_1_ k_ ∨ w.heap.size ≤ k_) ∧ k_ ≠ gb293 ∧ k_ ≠ gb300 ∧ k_ ≠ gb304 ∧ k_ ≠ gb312) (.slice (some ad311) y308.length co64) y308) := ⟨by refine bk_ ?_; exact Kd.N_mono (Kd.N_far (p := ⟨gb312, 1, none⟩) (Kd.N_far (p := ⟨gb312, 0, none⟩) (Kd.N_mono HO310.out (fun k_ hk => (⟨hk, hk.2⟩ : _ ∧ k_ ≠ gb312))) (fun _ hk => hk.2) (.string ((rd_T24 y308 (ji46)).f0))) (fun _ hk => hk.2) (.slice A311_1 ((rd_T24 y308 (ji46)).f1).length c311_1)) (fun _ hk => ⟨hk.1.1.1, ⟨hk.1.1.2.1, ⟨hk.1.1.2.2.1, ⟨hk.1.1.2.2.2, hk.1.2⟩⟩⟩⟩)⟩
               have n3_ : Aside0 (Kd.V k35 35 ((w65.setCell ⟨gb312, 0, none⟩ (.string ((rd_T24 y308 (ji46)).f0))).setCell ⟨gb312, 1, none⟩ (.slice A311_1 ((rd_T24 y308 (ji46)).f1).length c311_1)) w.heap.size (fun k_ => (P0_1_ k_ ∨ w.heap.size ≤ k_) ∧ some k_ ≠ (.slice (some ad311) y308.length co64 : Value).ownBlock ∧ k_ ≠ gb293 ∧ k_ ≠ gb300 ∧ k_ ≠ gb304 ∧ k_ ≠ gb312) (.slice A311_1 ((rd_T24 y308 (ji46)).f1).length c311_1) ((rd_T24 y308 (ji46)).f1)) := ⟨by refine bk_ ?_; exact Kd.V_mono (Kd.V_far (p := ⟨gb312, 1, none⟩) (Kd.V_far (p := ⟨gb312, 0, none⟩) (Kd.V_mono HL311_1.out (fun k_ hk => (⟨hk, hk.2⟩ : _ ∧ k_ ≠ gb312))) (fun _ hk => hk.2) (.string ((rd_T24 y308 (ji46)).f0))) (fun _ hk => hk.2) (.slice A311_1 ((rd_T24 y308 (ji46)).f1).length c311_1)) (fun _ hk => ⟨hk.1.1.1.1, ⟨hk.1.1.2, ⟨hk.1.1.1.2.1, ⟨hk.1.1.1.2.2.1, ⟨hk.1.1.1.2.2.2, hk.1.2⟩⟩⟩⟩⟩)⟩
               have n4_ : Aside0 (((w65.setCell ⟨gb312, 0, none⟩ (.string ((rd_T24 y308 (ji46)).f0))).setCell ⟨gb312, 1, none⟩ (.slice A311_1 ((rd_T24 y308 (ji46)).f1).length c311_1)).heap[gb293]? = some (.cells #[.string a0_0, .slice A0_1 l0_1.length c0_1] 24 (0, 0))) := ⟨by refine bk_ ?_; refine blk_far ?_ NB293_312.out _; refine bk_ ?_; refine blk_far ?_ NB293_312.out _; refine bk_ ?_; exact BK293.out⟩
               have n5_ : Aside0 (((w65.setCell ⟨gb312, 0, none⟩ (.string ((rd_T24 y308 (ji46)).f0))).setCell ⟨gb312, 1, none⟩ (.slice A311_1 ((rd_T24 y308 (ji46)).f1).length c311_1)).heap[gb300]? = some (.cells #[.string t296, .slice Ao33 t297.length co33] 24 (0, 0))) := ⟨by refine bk_ ?_; refine blk_far ?_ NB300_312.out _; refine bk_ ?_; refine blk_far ?_ NB300_312.out _; refine bk_ ?_; exact BK300.out⟩
               have n6_ : Aside0 (((w65.setCell ⟨gb312, 0, none⟩ (.string ((rd_T24 y308 (ji46)).f0))).setCell ⟨gb312, 1, none⟩ (.slice A311_1 ((rd_T24 y308 (ji46)).f1).length c311_1)).heap[gb304]? = some (.cells #[.string x305000_27, .string x305001_27, .string x305002_27] 41 (0, 0))) := ⟨by refine bk_ ?_; refine blk_far ?_ NB304_312.out _; refine bk_ ?_; refine blk_far ?_ NB304_312.out _; refine bk_ ?_; exact BK304.out⟩
               have n7_ : Aside0 (((w65.setCell ⟨gb312, 0, none⟩ (.string ((rd_T24 y308 (ji46)).f0))).setCell ⟨gb312, 1, none⟩ (.slice A311_1 ((rd_T24 y308 (ji46)).f1).length c311_1)).heap[gb312]? = some (.cells #[.string ((rd_T24 y308 (ji46)).f0), .slice A311_1 ((rd_T24 y308 (ji46)).f1).length c311_1] 24 (0, 0))) := ⟨by refine bk_ ?_; refine blk_put (cs := #[.string ((rd_T24 y308 (ji46)).f0), .slice none 0 0]) ?_ 1 _ rfl; refine bk_ ?_; refine blk_put (cs := #[.string (⟨#[]⟩ : ByteArray), .slice none 0 0]) ?_ 0 _ rfl; refine bk_ ?_; exact BK312.out⟩
               have n8_ : Aside0 (Below w.heap.size w ((w65.setCell ⟨gb312, 0, none⟩ (.string ((rd_T24 y308 (ji46)).f0))).setCell ⟨gb312, 1, none⟩ (.slice A311_1 ((rd_T24 y308 (ji46)).f1).length c311_1))) := ⟨by repeat (first | (with_reducible first | exact HB.out | apply bA_ | apply bN_ | apply bD_ | refine bS_ ?_ GE293.out | refine bS_ ?_ GE300.out | refine bS_ ?_ GE304.out | refine bS_ ?_ GE312.out) | exact HB.out)⟩
               (try clear HO_294001)
               (try clear HO_301001)
               (try clear HO310)
               (try clear HL311_1)
               (try clear BK293)
               (try clear BK300)
               (try clear BK304)
               (try clear BK312)
               (try clear HB)
               generalize ((w65.setCell ⟨gb312, 0, none⟩ (.string ((rd_T24 y308 (ji46)).f0))).setCell ⟨gb312, 1, none⟩ (.slice A311_1 ((rd_T24 y308 (ji46)).f1).length c311_1)) = w70 at n0_ n1_ n2_ n3_ n4_ n5_ n6_ n7_ n8_ ⊢
               have HO_294001 := n0_
               have HO_301001 := n1_
               have HO310 := n2_
               have HL311_1 := n3_
               have BK293 := n4_
               have BK300 := n5_
               have BK304 := n6_
               have BK312 := n7_
               have HB := n8_
               clear n0_ n1_ n2_ n3_ n4_ n5_ n6_ n7_ n8_
               have n0_ := Aside0.mk (Kd.V_drew HO_294001.out)
               have n1_ := Aside0.mk (Kd.V_drew HO_301001.out)
               have n2_ := Aside0.mk (Kd.N_drew HO310.out)
               have n3_ := Aside0.mk (Kd.V_drew HL311_1.out)
               have n4_ := Aside0.mk (blk_drew BK293.out)
               have n5_ := Aside0.mk (blk_drew BK300.out)
               have n6_ := Aside0.mk (blk_drew BK304.out)
               have n7_ := Aside0.mk (blk_drew BK312.out)
               have n8_ := Aside0.mk (bD_ HB.out)
               clear HO_294001 HO_301001 HO310 HL311_1 BK293 BK300 BK304 BK312 HB
               have HO_294001 := n0_
               have HO_301001 := n1_
               have HO310 := n2_
               have HL311_1 := n3_
               have BK293 := n4_
               have BK300 := n5_
               have BK304 := n6_
               have BK312 := n7_
               have HB := n8_
               clear n0_ n1_ n2_ n3_ n4_ n5_ n6_ n7_ n8_
               refine start_ (n := 18) (S := fun w' => True) (ds := []) #[false,false,false,false,false,false,false,false,false,false,false,false,false,false,false,false,false,false] (by kernel_rfl) rfl rfl trivial (fun hHeld => ?_); refine with_tabW kerbsuitelaw12_DatabaseFinds.tab13 kerbsuitelaw12_DatabaseFinds.bits13 (fun HT_ HW_ => ?_)
               generalize w70.drew = w71 at HO_294001 HO_301001 HO310 HL311_1 BK293 BK300 BK304 BK312 HB hHeld ⊢
               refine pure_ (i := 0) (N := some 70) (v := ?_) (a' := ?_) (bo_ 18 1) rfl rfl (any_of HT_.out (by kernel_rfl)) (fun _ _ _ h => h) (Or.inl ⟨by rfl, ?_⟩) ?_ ?_
               rotate_left; (· intro w'; go_simp; with_reducible rfl)
               rotate_left; (· simp only [Act.put,sA_,sB_,sC_,i64_w,i32_w]; rfl)
               refine pure_ (i := 1) (N := some 71) (v := ?_) (a' := ?_) (bo_ 18 3) rfl rfl (any_of HT_.out (by kernel_rfl)) (fun _ _ _ h => h) (Or.inl ⟨by rfl, ?_⟩) ?_ ?_
               rotate_left; (· intro w'; go_simp; with_reducible rfl)
               rotate_left; (· simp only [Act.put,sA_,sB_,sC_,i64_w,i32_w]; rfl)
               refine pure_ (i := 4) (N := some 74) (v := ?_) (a' := ?_) (bo_ 18 19) rfl rfl (any_of HT_.out (by kernel_rfl)) (fun _ _ _ h => h) (Or.inl ⟨by rfl, ?_⟩) ?_ ?_
               rotate_left; (· intro w'; go_simp; with_reducible rfl)
               rotate_left; (· simp only [Act.put,sA_,sB_,sC_,i64_w,i32_w]; rfl)
               refine pure_ (i := 8) (N := some 78) (v := ?_) (a' := ?_) (bo_ 18 275) rfl rfl (any_of HT_.out (by kernel_rfl)) (fun _ _ _ h => h) (Or.inl ⟨by rfl, ?_⟩) ?_ ?_
               rotate_left; (· intro w'; go_simp; with_reducible rfl)
               rotate_left; (· simp only [Act.put,sA_,sB_,sC_,i64_w,i32_w]; rfl)
               refine pure_ (i := 9) (N := some 79) (v := ?_) (a' := ?_) (bo_ 18 787) rfl rfl (any_of HT_.out (by kernel_rfl)) (fun _ _ _ h => h) (Or.inl ⟨by rfl, ?_⟩) ?_ ?_
               rotate_left; (· intro w'; go_simp; with_reducible rfl)
               rotate_left; (· simp only [Act.put,sA_,sB_,sC_,i64_w,i32_w]; rfl)
               refine pure_ (i := 12) (N := some 82) (v := ?_) (a' := ?_) (bo_ 18 4883) rfl rfl (any_of HT_.out (by kernel_rfl)) (fun _ _ _ h => h) (Or.inl ⟨by rfl, ?_⟩) ?_ ?_
               rotate_left; (· intro w'; go_simp; with_reducible rfl)
               rotate_left; (· simp only [Act.put,sA_,sB_,sC_,i64_w,i32_w]; rfl)
               refine inv_at [2, 3, 5, 6, 7, 10, 11, 13, 14, 15, 16, 17] (fun a0_ b a w' => ∃ (v314 : Value) (adz_v314 : Addr) (v318 : Value) (adz_v318 : Addr) (m6_ : Value) (m14_ : Value), a = putSel a0_ b [(2, 72, .string x305000_27), (3, 73, v314), (5, 75, .int .i64 ji49), (6, 76, m6_), (7, 77, .string (rdOf ByteArray.empty y313 (ji49))), (10, 80, .string x305001_27), (11, 81, v318), (13, 83, .int .i64 ji49), (14, 84, m14_), (15, 85, .string (rdOf ByteArray.empty y317 (ji49))), (16, 19, .string (rdOf ByteArray.empty y313 (ji49))), (17, 20, .string (rdOf ByteArray.empty y317 (ji49)))] ∧ (Kd.V k35 35 w' w.heap.size (fun k_ => (P0_1_ k_ ∨ w.heap.size ≤ k_) ∧ some k_ ≠ (.slice (some ad311) y308.length co64 : Value).ownBlock ∧ k_ ≠ gb293 ∧ k_ ≠ gb300 ∧ k_ ≠ gb304 ∧ k_ ≠ gb312) (.slice A311_1 ((rd_T24 y308 (ji46)).f1).length c311_1) ((rd_T24 y308 (ji46)).f1)) ∧ (Kd.N k24 24 w' w.heap.size (fun k_ => (P0_1_ k_ ∨ w.heap.size ≤ k_) ∧ k_ ≠ gb293 ∧ k_ ≠ gb300 ∧ k_ ≠ gb304 ∧ k_ ≠ gb312) (.slice (some ad311) y308.length co64) y308) ∧ (Kd.V k35 35 w' w.heap.size (fun k_ => (P0_1_ k_ ∨ w.heap.size ≤ k_) ∧ some k_ ≠ (.slice (some ad311) y308.length co64 : Value).ownBlock ∧ k_ ≠ gb293 ∧ k_ ≠ gb300 ∧ k_ ≠ gb304 ∧ k_ ≠ gb312) (.slice A0_1 l0_1.length c0_1) l0_1) ∧ (Kd.V k35 35 w' w.heap.size (fun k_ => (P0_1_ k_ ∨ w.heap.size ≤ k_) ∧ some k_ ≠ (.slice (some ad311) y308.length co64 : Value).ownBlock ∧ k_ ≠ gb293 ∧ k_ ≠ gb300 ∧ k_ ≠ gb304 ∧ k_ ≠ gb312) (.slice Ao33 t297.length co33) t297) ∧ (w'.heap[gb293]? = some (.cells #[.string a0_0, .slice A0_1 l0_1.length c0_1] 24 (0, 0))) ∧ (w'.heap[gb300]? = some (.cells #[.string t296, .slice Ao33 t297.length co33] 24 (0, 0))) ∧ (w'.heap[gb304]? = some (.cells #[.string x305000_27, .string x305001_27, .string x305002_27] 41 (0, 0))) ∧ (w'.heap[gb312]? = some (.cells #[.string ((rd_T24 y308 (ji46)).f0), .slice A311_1 ((rd_T24 y308 (ji46)).f1).length c311_1] 24 (0, 0))) ∧ (Below w.heap.size w w') ∧ (b 3 = true → Kd.R Kd.string 9 w' w.heap.size (fun k_ => (w.heap.size ≤ k_)) v314 y313) ∧ (b 3 = true → ∃ c_, (v314 : Value) = .slice (some adz_v314) y313.length c_) ∧ (b 11 = true → Kd.R Kd.string 9 w' w.heap.size (fun k_ => (w.heap.size ≤ k_)) v318 y317) ∧ (b 11 = true → ∃ c_, (v318 : Value) = .slice (some adz_v318) y317.length c_) ∧ (b 6 = true → (m6_ : Value) = .pointer (some (adz_v314.add ((ji49)).toNat))) ∧ (b 14 = true → (m14_ : Value) = .pointer (some (adz_v318.add ((ji49)).toNat)))) HT_.out HW_.out (by kernel_rfl) (by kernel_rfl) ?_ ?_ ?_
               ·exact ⟨.bool false,⟨0, 0, none⟩, .bool false,⟨0, 0, none⟩, .bool false,.bool false,by simp only [putSel, Bool.false_eq_true,if_false], HL311_1.out, HO310.out, HO_294001.out, HO_301001.out, BK293.out, BK300.out, BK304.out, BK312.out, HB.out, fun h_ => absurd h_ (by decide), fun h_ => absurd h_ (by decide), fun h_ => absurd h_ (by decide), fun h_ => absurd h_ (by decide), fun h_ => absurd h_ (by decide), fun h_ => absurd h_ (by decide)⟩
               ·skip
                clear BK293 BK300 BK304 BK312 HB HL311_1 HO310 HO_294001 HO_301001
                refine steps_cons ?_ ?_
                ·rintro b a w' ⟨v314, adz_v314, v318, adz_v318, m6_, m14_, ha, Q_HL311_1, Q_HO310, Q_HO_294001, Q_HO_301001, Q_BK293, Q_BK300, Q_BK304, Q_BK312, Q_HB, Q_HO315, Q_HA_HO315, Q_HO319, Q_HA_HO319, Q_X6_, Q_X14_⟩ hb_ hon hoff
                 refine ⟨_, rfl, fun K hK => ?_⟩
                 have e71 : a.tmps[71]? = some (.pointer (some ⟨gb304, 0, none⟩)) := by rw [ha]; exact (putSel_off rfl).trans rfl
                 replace ha := Aside0.mk ha
                 have HL311_1 := Aside0.mk Q_HL311_1
                 have HO310 := Aside0.mk Q_HO310
                 have HO_294001 := Aside0.mk Q_HO_294001
                 have HO_301001 := Aside0.mk Q_HO_301001
                 have BK293 := Aside0.mk Q_BK293
                 have BK300 := Aside0.mk Q_BK300
                 have BK304 := Aside0.mk Q_BK304
                 have BK312 := Aside0.mk Q_BK312
                 have HB := Aside0.mk Q_HB
                 have hc0_ : w'.cell? ⟨gb304, 0, none⟩ = some (.string x305000_27) := (blk_cell BK304.out 0).trans rfl
                 have hc1_ : w'.cell? ⟨gb304, 1, none⟩ = some (.string x305001_27) := (blk_cell BK304.out 1).trans rfl
                 have hc2_ : w'.cell? ⟨gb304, 2, none⟩ = some (.string x305002_27) := (blk_cell BK304.out 2).trans rfl
                 refine value_ (w1 := w') (v := .string x305000_27) (by rfl) rfl ?_ ?_
                 ·go_simp
                  (try simp only [i64_w])
                  try rfl
                 refine hK.out _ _ ⟨v314, adz_v314, v318, adz_v318, m6_, m14_, (by rw [ha.out]; exact putSel_upk 0 hb_ rfl rfl rfl), Q_HL311_1, Q_HO310, Q_HO_294001, Q_HO_301001, Q_BK293, Q_BK300, Q_BK304, Q_BK312, Q_HB, fun h0_ => absurd ((hoff 3 (by kernel_rfl)).symm.trans h0_) (by decide), fun h0_ => absurd ((hoff 3 (by kernel_rfl)).symm.trans h0_) (by decide), Q_HO319, Q_HA_HO319, fun h0_ => absurd ((hoff 6 (by kernel_rfl)).symm.trans h0_) (by decide), Q_X14_⟩
                refine steps_cons ?_ ?_
                ·rintro b a w' ⟨v314, adz_v314, v318, adz_v318, m6_, m14_, ha, Q_HL311_1, Q_HO310, Q_HO_294001, Q_HO_301001, Q_BK293, Q_BK300, Q_BK304, Q_BK312, Q_HB, Q_HO315, Q_HA_HO315, Q_HO319, Q_HA_HO319, Q_X6_, Q_X14_⟩ hb_ hon hoff
                 refine ⟨_, rfl, fun K hK => ?_⟩
                 have e70 : a.tmps[70]? = some (.string a2) := by rw [ha]; exact (putSel_off rfl).trans rfl
                 have e72 : a.tmps[72]? = some (.string x305000_27) := by rw [ha]; exact putSel_on (e := (2, 72, .string x305000_27)) 0 rfl rfl (hon 2 (by kernel_rfl)) rfl
                 replace ha := Aside0.mk ha
                 have HL311_1 := Aside0.mk Q_HL311_1
                 have HO310 := Aside0.mk Q_HO310
                 have HO_294001 := Aside0.mk Q_HO_294001
                 have HO_301001 := Aside0.mk Q_HO_301001
                 have BK293 := Aside0.mk Q_BK293
                 have BK300 := Aside0.mk Q_BK300
                 have BK304 := Aside0.mk Q_BK304
                 have BK312 := Aside0.mk Q_BK312
                 have HB := Aside0.mk Q_HB
                 refine Kd.R_lit_step Kd.string _ 9 ?hg (N := 73) ?hd (xs := ([a2, x305000_27] : List ByteArray)) (inner := [.string a2, .string x305000_27]) (ok := fun _ => True) (okp := fun _ => True) ?hr ?hp (fun _ hk => hk) trivial (Below.refl _ _) (Nat.le_refl _) (by simp) ?_; (case hd => rfl); (case hg => rfl); (case hr => first | (go_simp; done) | (go_simp; rfl)); (case hp => exact (Reps.one (show Kd.M Kd.string _ _ _ a2 [.string a2] from rfl) (Reps.one (show Kd.M Kd.string _ _ _ x305000_27 [.string x305000_27] from rfl) (Reps.none _ _))))
                 intro v314 w72 ho73 hb hg_ hnew_
                 clear hg_ hnew_
                 (first | rw [← Ny313.out] at ho73 | (simp only [Int.reduceToNat] at ho73; rw [← Ny313.out] at ho73))
                 have n0_ := Aside0.mk (Kd.V_elder' (bk_ HO_294001.out) (Kd.R_base ho73) hb)
                 have n1_ := Aside0.mk (Kd.V_elder' (bk_ HO_301001.out) (Kd.R_base ho73) hb)
                 have n2_ := Aside0.mk (Kd.N_elder' (bk_ HO310.out) (Kd.R_base ho73) hb)
                 have n3_ := Aside0.mk (Kd.V_elder' (bk_ HL311_1.out) (Kd.R_base ho73) hb)
                 have n4_ := Aside0.mk (Kd.R_lower (Kd.R_newM (M := fun k_ => (w.heap.size ≤ k_)) ho73 (below_size (by repeat (first | (with_reducible first | exact HB.out | apply bA_ | apply bN_ | apply bD_ | refine bS_ ?_ GE293.out | refine bS_ ?_ GE300.out | refine bS_ ?_ GE304.out | refine bS_ ?_ GE312.out) | exact HB.out))) (fun k_ h_ => h_)) (below_size (by repeat (first | (with_reducible first | exact HB.out | apply bA_ | apply bN_ | apply bD_ | refine bS_ ?_ GE293.out | refine bS_ ?_ GE300.out | refine bS_ ?_ GE304.out | refine bS_ ?_ GE312.out) | exact HB.out))))
                 have n5_ := Aside0.mk (blk_below (g := gb293) (o := .cells #[.string a0_0, .slice A0_1 l0_1.length c0_1] 24 (0, 0)) (bk_ BK293.out) hb)
                 have n6_ := Aside0.mk (blk_below (g := gb300) (o := .cells #[.string t296, .slice Ao33 t297.length co33] 24 (0, 0)) (bk_ BK300.out) hb)
                 have n7_ := Aside0.mk (blk_below (g := gb304) (o := .cells #[.string x305000_27, .string x305001_27, .string x305002_27] 41 (0, 0)) (bk_ BK304.out) hb)
                 have n8_ := Aside0.mk (blk_below (g := gb312) (o := .cells #[.string ((rd_T24 y308 (ji46)).f0), .slice A311_1 ((rd_T24 y308 (ji46)).f1).length c311_1] 24 (0, 0)) (bk_ BK312.out) hb)
                 have n9_ := Aside0.mk (below_step (by repeat (first | (with_reducible first | exact HB.out | apply bA_ | apply bN_ | apply bD_ | refine bS_ ?_ GE293.out | refine bS_ ?_ GE300.out | refine bS_ ?_ GE304.out | refine bS_ ?_ GE312.out) | exact HB.out)) hb)
                 have z_HO319 := fun (h0_ : b 11 = true) => (show Kd.R Kd.string 9 w72 w.heap.size (fun k_ => (w.heap.size ≤ k_)) v318 y317 from by first | exact (Kd.R_elder' (by refine bk_ ?_; exact (Q_HO319 h0_)) (Kd.R_base ho73) hb) | exact Kd.R_mono (Kd.R_elder' (by refine bk_ ?_; exact (Q_HO319 h0_)) (Kd.R_base ho73) hb) (fun _ h_ => by first | trivial | exact h_ | exact h_.1))
                 clear HO_294001 HO_301001 HO310 HL311_1 BK293 BK300 BK304 BK312 HB
                 have HO_294001 := n0_
                 have HO_301001 := n1_
                 have HO310 := n2_
                 have HL311_1 := n3_
                 have HO315 := n4_
                 have BK293 := n5_
                 have BK300 := n6_
                 have BK304 := n7_
                 have BK312 := n8_
                 have HB := n9_
                 clear n0_ n1_ n2_ n3_ n4_ n5_ n6_ n7_ n8_ n9_
                 clear hb ho73
                 obtain ⟨Ao74, co74, eo74⟩ := Kd.R_slice HO315.out
                 subst eo74
                 obtain ⟨ado74, fo74, _⟩ := Kd.at_string (Kd.R_reads' HO315.out).2.2 0 (by decide) (by rw [Ny313.out]; simp)
                 cases fo74
                 refine hK.out _ _ ⟨.slice (some ado74) y313.length co74, ado74, v318, adz_v318, m6_, m14_, (by rw [ha.out]; exact putSel_upk 1 hb_ rfl rfl rfl), (by refine bk_ ?_; exact Kd.V_mono HL311_1.out (fun _ hk => by first | exact ⟨hk.1.1, ⟨hk.1.2.1, ⟨hk.2, ⟨hk.1.2.2.1, ⟨hk.1.2.2.2.1, ⟨hk.1.2.2.2.2.1, hk.1.2.2.2.2.2⟩⟩⟩⟩⟩⟩ | simp only [hk, ne_eq, not_false_eq_true,and_self])), (by refine bk_ ?_; exact Kd.N_mono HO310.out (fun _ hk => by first | exact ⟨hk.1.1, ⟨hk.2, ⟨hk.1.2.1, ⟨hk.1.2.2.1, ⟨hk.1.2.2.2.1, hk.1.2.2.2.2⟩⟩⟩⟩⟩ | simp only [hk, ne_eq, not_false_eq_true,and_self])), (by refine bk_ ?_; exact Kd.V_mono HO_294001.out (fun _ hk => by first | exact ⟨hk.1.1, ⟨hk.1.2.1, ⟨hk.2, ⟨hk.1.2.2.1, ⟨hk.1.2.2.2.1, ⟨hk.1.2.2.2.2.1, hk.1.2.2.2.2.2⟩⟩⟩⟩⟩⟩ | simp only [hk, ne_eq, not_false_eq_true,and_self])), (by refine bk_ ?_; exact Kd.V_mono HO_301001.out (fun _ hk => by first | exact ⟨hk.1.1, ⟨hk.1.2.1, ⟨hk.2, ⟨hk.1.2.2.1, ⟨hk.1.2.2.2.1, ⟨hk.1.2.2.2.2.1, hk.1.2.2.2.2.2⟩⟩⟩⟩⟩⟩ | simp only [hk, ne_eq, not_false_eq_true,and_self])), (bk_ BK293.out), (bk_ BK300.out), (bk_ BK304.out), (bk_ BK312.out), (by repeat (first | (with_reducible first | exact HB.out | apply bA_ | apply bN_ | apply bD_ | refine bS_ ?_ GE293.out | refine bS_ ?_ GE300.out | refine bS_ ?_ GE304.out | refine bS_ ?_ GE312.out) | exact HB.out)), fun _ => (by refine bk_ ?_; exact Kd.R_mono HO315.out (fun _ hk => hk.1)), fun _ => ⟨_, rfl⟩, z_HO319, Q_HA_HO319, fun h0_ => absurd ((hoff 6 (by kernel_rfl)).symm.trans h0_) (by decide), Q_X14_⟩
                refine steps_cons ?_ ?_
                ·rintro b a w' ⟨v314, adz_v314, v318, adz_v318, m6_, m14_, ha, Q_HL311_1, Q_HO310, Q_HO_294001, Q_HO_301001, Q_BK293, Q_BK300, Q_BK304, Q_BK312, Q_HB, Q_HO315, Q_HA_HO315, Q_HO319, Q_HA_HO319, Q_X6_, Q_X14_⟩ hb_ hon hoff
                 refine ⟨_, rfl, fun K hK => ?_⟩
                 have e74 : a.tmps[74]? = some (.int .i64 x17_3) := by rw [ha]; exact (putSel_off rfl).trans rfl
                 replace ha := Aside0.mk ha
                 have HL311_1 := Aside0.mk Q_HL311_1
                 have HO310 := Aside0.mk Q_HO310
                 have HO_294001 := Aside0.mk Q_HO_294001
                 have HO_301001 := Aside0.mk Q_HO_301001
                 have BK293 := Aside0.mk Q_BK293
                 have BK300 := Aside0.mk Q_BK300
                 have BK304 := Aside0.mk Q_BK304
                 have BK312 := Aside0.mk Q_BK312
                 have HB := Aside0.mk Q_HB
                 refine value_ (w1 := w') (v := .int .i64 ji49) (by rfl) rfl ?_ ?_
                 ·go_simp
                  (try simp only [i64_w])
                  try rfl
                 refine hK.out _ _ ⟨v314, adz_v314, v318, adz_v318, m6_, m14_, (by rw [ha.out]; exact putSel_upk 2 hb_ rfl rfl rfl), Q_HL311_1, Q_HO310, Q_HO_294001, Q_HO_301001, Q_BK293, Q_BK300, Q_BK304, Q_BK312, Q_HB, Q_HO315, Q_HA_HO315, Q_HO319, Q_HA_HO319, fun h0_ => absurd ((hoff 6 (by kernel_rfl)).symm.trans h0_) (by decide), Q_X14_⟩
                refine steps_cons ?_ ?_
                ·rintro b a w' ⟨v314, adz_v314, v318, adz_v318, m6_, m14_, ha, Q_HL311_1, Q_HO310, Q_HO_294001, Q_HO_301001, Q_BK293, Q_BK300, Q_BK304, Q_BK312, Q_HB, Q_HO315, Q_HA_HO315, Q_HO319, Q_HA_HO319, Q_X6_, Q_X14_⟩ hb_ hon hoff
                 refine ⟨_, rfl, fun K hK => ?_⟩
                 have e73 : a.tmps[73]? = some (v314) := by rw [ha]; exact putSel_on (e := (3, 73, v314)) 1 rfl rfl (hon 3 (by kernel_rfl)) rfl
                 have e75 : a.tmps[75]? = some (.int .i64 ji49) := by rw [ha]; exact putSel_on (e := (5, 75, .int .i64 ji49)) 2 rfl rfl (hon 5 (by kernel_rfl)) rfl
                 replace ha := Aside0.mk ha
                 have HL311_1 := Aside0.mk Q_HL311_1
                 have HO310 := Aside0.mk Q_HO310
                 have HO_294001 := Aside0.mk Q_HO_294001
                 have HO_301001 := Aside0.mk Q_HO_301001
                 have BK293 := Aside0.mk Q_BK293
                 have BK300 := Aside0.mk Q_BK300
                 have BK304 := Aside0.mk Q_BK304
                 have BK312 := Aside0.mk Q_BK312
                 have HB := Aside0.mk Q_HB
                 have HO315 := Aside0.mk (Q_HO315 (hon 3 (by kernel_rfl)))
                 have HA_HO315 := Aside0.mk (Q_HA_HO315 (hon 3 (by kernel_rfl)))
                 obtain ⟨c_, hv_⟩ := HA_HO315.out
                 rw [hv_] at e73
                 refine value_ (w1 := w') (v := .pointer (some (adz_v314.add ((ji49)).toNat))) (by rfl) rfl ?_ ?_
                 ·go_simp
                  (try simp only [i64_w])
                  try rfl
                 refine hK.out _ _ ⟨v314, adz_v314, v318, adz_v318, (.pointer (some (adz_v314.add ((ji49)).toNat))), m14_, (by rw [ha.out]; exact putSel_upk 3 hb_ rfl rfl rfl), Q_HL311_1, Q_HO310, Q_HO_294001, Q_HO_301001, Q_BK293, Q_BK300, Q_BK304, Q_BK312, Q_HB, Q_HO315, Q_HA_HO315, Q_HO319, Q_HA_HO319, fun _ => rfl, Q_X14_⟩
                refine steps_cons ?_ ?_
                ·rintro b a w' ⟨v314, adz_v314, v318, adz_v318, m6_, m14_, ha, Q_HL311_1, Q_HO310, Q_HO_294001, Q_HO_301001, Q_BK293, Q_BK300, Q_BK304, Q_BK312, Q_HB, Q_HO315, Q_HA_HO315, Q_HO319, Q_HA_HO319, Q_X6_, Q_X14_⟩ hb_ hon hoff
                 refine ⟨_, rfl, fun K hK => ?_⟩
                 have e76 : a.tmps[76]? = some (m6_) := by rw [ha]; exact putSel_on (e := (6, 76, m6_)) 3 rfl rfl (hon 6 (by kernel_rfl)) rfl
                 rw [Q_X6_ (hon 6 (by kernel_rfl))] at e76
                 replace ha := Aside0.mk ha
                 have HL311_1 := Aside0.mk Q_HL311_1
                 have HO310 := Aside0.mk Q_HO310
                 have HO_294001 := Aside0.mk Q_HO_294001
                 have HO_301001 := Aside0.mk Q_HO_301001
                 have BK293 := Aside0.mk Q_BK293
                 have BK300 := Aside0.mk Q_BK300
                 have BK304 := Aside0.mk Q_BK304
                 have BK312 := Aside0.mk Q_BK312
                 have HB := Aside0.mk Q_HB
                 have HO315 := Aside0.mk (Q_HO315 (hon 3 (by kernel_rfl)))
                 have HA_HO315 := Aside0.mk (Q_HA_HO315 (hon 3 (by kernel_rfl)))
                 obtain ⟨c_, hv_⟩ := HA_HO315.out
                 have hF_ := HO315.out
                 rw [hv_] at hF_
                 obtain ⟨ad_, ea_, hx_⟩ := Kd.at_string (Kd.R_reads' hF_).2.2 (ji49) (of_eq_true pi316) (of_eq_true qi316)
                 cases ea_
                 refine value_ (w1 := w') (v := .string (rdOf ByteArray.empty y313 (ji49))) (by rfl) rfl ?_ ?_
                 ·go_simp
                  (try simp only [i64_w])
                  try rfl
                 refine hK.out _ _ ⟨v314, adz_v314, v318, adz_v318, m6_, m14_, (by rw [ha.out]; exact putSel_upk 4 hb_ rfl rfl rfl), Q_HL311_1, Q_HO310, Q_HO_294001, Q_HO_301001, Q_BK293, Q_BK300, Q_BK304, Q_BK312, Q_HB, Q_HO315, Q_HA_HO315, Q_HO319, Q_HA_HO319, Q_X6_, Q_X14_⟩
                refine steps_cons ?_ ?_
                ·rintro b a w' ⟨v314, adz_v314, v318, adz_v318, m6_, m14_, ha, Q_HL311_1, Q_HO310, Q_HO_294001, Q_HO_301001, Q_BK293, Q_BK300, Q_BK304, Q_BK312, Q_HB, Q_HO315, Q_HA_HO315, Q_HO319, Q_HA_HO319, Q_X6_, Q_X14_⟩ hb_ hon hoff
                 refine ⟨_, rfl, fun K hK => ?_⟩
                 have e79 : a.tmps[79]? = some (.pointer (some ⟨gb304, 1, none⟩)) := by rw [ha]; exact (putSel_off rfl).trans rfl
                 replace ha := Aside0.mk ha
                 have HL311_1 := Aside0.mk Q_HL311_1
                 have HO310 := Aside0.mk Q_HO310
                 have HO_294001 := Aside0.mk Q_HO_294001
                 have HO_301001 := Aside0.mk Q_HO_301001
                 have BK293 := Aside0.mk Q_BK293
                 have BK300 := Aside0.mk Q_BK300
                 have BK304 := Aside0.mk Q_BK304
                 have BK312 := Aside0.mk Q_BK312
                 have HB := Aside0.mk Q_HB
                 have hc0_ : w'.cell? ⟨gb304, 0, none⟩ = some (.string x305000_27) := (blk_cell BK304.out 0).trans rfl
                 have hc1_ : w'.cell? ⟨gb304, 1, none⟩ = some (.string x305001_27) := (blk_cell BK304.out 1).trans rfl
                 have hc2_ : w'.cell? ⟨gb304, 2, none⟩ = some (.string x305002_27) := (blk_cell BK304.out 2).trans rfl
                 refine value_ (w1 := w') (v := .string x305001_27) (by rfl) rfl ?_ ?_
                 ·go_simp
                  (try simp only [i64_w])
                  try rfl
                 refine hK.out _ _ ⟨v314, adz_v314, v318, adz_v318, m6_, m14_, (by rw [ha.out]; exact putSel_upk 5 hb_ rfl rfl rfl), Q_HL311_1, Q_HO310, Q_HO_294001, Q_HO_301001, Q_BK293, Q_BK300, Q_BK304, Q_BK312, Q_HB, Q_HO315, Q_HA_HO315, fun h0_ => absurd ((hoff 11 (by kernel_rfl)).symm.trans h0_) (by decide), fun h0_ => absurd ((hoff 11 (by kernel_rfl)).symm.trans h0_) (by decide), Q_X6_, fun h0_ => absurd ((hoff 14 (by kernel_rfl)).symm.trans h0_) (by decide)⟩
                refine steps_cons ?_ ?_
                ·rintro b a w' ⟨v314, adz_v314, v318, adz_v318, m6_, m14_, ha, Q_HL311_1, Q_HO310, Q_HO_294001, Q_HO_301001, Q_BK293, Q_BK300, Q_BK304, Q_BK312, Q_HB, Q_HO315, Q_HA_HO315, Q_HO319, Q_HA_HO319, Q_X6_, Q_X14_⟩ hb_ hon hoff
                 refine ⟨_, rfl, fun K hK => ?_⟩
                 have e78 : a.tmps[78]? = some (.string a3) := by rw [ha]; exact (putSel_off rfl).trans rfl
                 have e80 : a.tmps[80]? = some (.string x305001_27) := by rw [ha]; exact putSel_on (e := (10, 80, .string x305001_27)) 5 rfl rfl (hon 10 (by kernel_rfl)) rfl
                 replace ha := Aside0.mk ha
                 have HL311_1 := Aside0.mk Q_HL311_1
                 have HO310 := Aside0.mk Q_HO310
                 have HO_294001 := Aside0.mk Q_HO_294001
                 have HO_301001 := Aside0.mk Q_HO_301001
                 have BK293 := Aside0.mk Q_BK293
                 have BK300 := Aside0.mk Q_BK300
                 have BK304 := Aside0.mk Q_BK304
                 have BK312 := Aside0.mk Q_BK312
                 have HB := Aside0.mk Q_HB
                 refine Kd.R_lit_step Kd.string _ 9 ?hg (N := 81) ?hd (xs := ([a3, x305001_27] : List ByteArray)) (inner := [.string a3, .string x305001_27]) (ok := fun _ => True) (okp := fun _ => True) ?hr ?hp (fun _ hk => hk) trivial (Below.refl _ _) (Nat.le_refl _) (by simp) ?_; (case hd => rfl); (case hg => rfl); (case hr => first | (go_simp; done) | (go_simp; rfl)); (case hp => exact (Reps.one (show Kd.M Kd.string _ _ _ a3 [.string a3] from rfl) (Reps.one (show Kd.M Kd.string _ _ _ x305001_27 [.string x305001_27] from rfl) (Reps.none _ _))))
                 intro v318 w72 ho73 hb hg_ hnew_
                 clear hg_ hnew_
                 (first | rw [← Ny317.out] at ho73 | (simp only [Int.reduceToNat] at ho73; rw [← Ny317.out] at ho73))
                 have n0_ := Aside0.mk (Kd.V_elder' (bk_ HO_294001.out) (Kd.R_base ho73) hb)
                 have n1_ := Aside0.mk (Kd.V_elder' (bk_ HO_301001.out) (Kd.R_base ho73) hb)
                 have n2_ := Aside0.mk (Kd.N_elder' (bk_ HO310.out) (Kd.R_base ho73) hb)
                 have n3_ := Aside0.mk (Kd.V_elder' (bk_ HL311_1.out) (Kd.R_base ho73) hb)
                 have n4_ := Aside0.mk (Kd.R_lower (Kd.R_newM (M := fun k_ => (w.heap.size ≤ k_)) ho73 (below_size (by repeat (first | (with_reducible first | exact HB.out | apply bA_ | apply bN_ | apply bD_ | refine bS_ ?_ GE293.out | refine bS_ ?_ GE300.out | refine bS_ ?_ GE304.out | refine bS_ ?_ GE312.out) | exact HB.out))) (fun k_ h_ => h_)) (below_size (by repeat (first | (with_reducible first | exact HB.out | apply bA_ | apply bN_ | apply bD_ | refine bS_ ?_ GE293.out | refine bS_ ?_ GE300.out | refine bS_ ?_ GE304.out | refine bS_ ?_ GE312.out) | exact HB.out))))
                 have n5_ := Aside0.mk (blk_below (g := gb293) (o := .cells #[.string a0_0, .slice A0_1 l0_1.length c0_1] 24 (0, 0)) (bk_ BK293.out) hb)
                 have n6_ := Aside0.mk (blk_below (g := gb300) (o := .cells #[.string t296, .slice Ao33 t297.length co33] 24 (0, 0)) (bk_ BK300.out) hb)
                 have n7_ := Aside0.mk (blk_below (g := gb304) (o := .cells #[.string x305000_27, .string x305001_27, .string x305002_27] 41 (0, 0)) (bk_ BK304.out) hb)
                 have n8_ := Aside0.mk (blk_below (g := gb312) (o := .cells #[.string ((rd_T24 y308 (ji46)).f0), .slice A311_1 ((rd_T24 y308 (ji46)).f1).length c311_1] 24 (0, 0)) (bk_ BK312.out) hb)
                 have n9_ := Aside0.mk (below_step (by repeat (first | (with_reducible first | exact HB.out | apply bA_ | apply bN_ | apply bD_ | refine bS_ ?_ GE293.out | refine bS_ ?_ GE300.out | refine bS_ ?_ GE304.out | refine bS_ ?_ GE312.out) | exact HB.out)) hb)
                 have z_HO315 := fun (h0_ : b 3 = true) => (show Kd.R Kd.string 9 w72 w.heap.size (fun k_ => (w.heap.size ≤ k_)) v314 y313 from by first | exact (Kd.R_elder' (by refine bk_ ?_; exact (Q_HO315 h0_)) (Kd.R_base ho73) hb) | exact Kd.R_mono (Kd.R_elder' (by refine bk_ ?_; exact (Q_HO315 h0_)) (Kd.R_base ho73) hb) (fun _ h_ => by first | trivial | exact h_ | exact h_.1))
                 clear HO_294001 HO_301001 HO310 HL311_1 BK293 BK300 BK304 BK312 HB
                 have HO_294001 := n0_
                 have HO_301001 := n1_
                 have HO310 := n2_
                 have HL311_1 := n3_
                 have HO319 := n4_
                 have BK293 := n5_
                 have BK300 := n6_
                 have BK304 := n7_
                 have BK312 := n8_
                 have HB := n9_
                 clear n0_ n1_ n2_ n3_ n4_ n5_ n6_ n7_ n8_ n9_
                 clear hb ho73
                 obtain ⟨Ao74, co74, eo74⟩ := Kd.R_slice HO319.out
                 subst eo74
                 obtain ⟨ado74, fo74, _⟩ := Kd.at_string (Kd.R_reads' HO319.out).2.2 0 (by decide) (by rw [Ny317.out]; simp)
                 cases fo74
                 refine hK.out _ _ ⟨v314, adz_v314, .slice (some ado74) y317.length co74, ado74, m6_, m14_, (by rw [ha.out]; exact putSel_upk 6 hb_ rfl rfl rfl), (by refine bk_ ?_; exact Kd.V_mono HL311_1.out (fun _ hk => by first | exact ⟨hk.1.1, ⟨hk.1.2.1, ⟨hk.2, ⟨hk.1.2.2.1, ⟨hk.1.2.2.2.1, ⟨hk.1.2.2.2.2.1, hk.1.2.2.2.2.2⟩⟩⟩⟩⟩⟩ | simp only [hk, ne_eq, not_false_eq_true,and_self])), (by refine bk_ ?_; exact Kd.N_mono HO310.out (fun _ hk => by first | exact ⟨hk.1.1, ⟨hk.2, ⟨hk.1.2.1, ⟨hk.1.2.2.1, ⟨hk.1.2.2.2.1, hk.1.2.2.2.2⟩⟩⟩⟩⟩ | simp only [hk, ne_eq, not_false_eq_true,and_self])), (by refine bk_ ?_; exact Kd.V_mono HO_294001.out (fun _ hk => by first | exact ⟨hk.1.1, ⟨hk.1.2.1, ⟨hk.2, ⟨hk.1.2.2.1, ⟨hk.1.2.2.2.1, ⟨hk.1.2.2.2.2.1, hk.1.2.2.2.2.2⟩⟩⟩⟩⟩⟩ | simp only [hk, ne_eq, not_false_eq_true,and_self])), (by refine bk_ ?_; exact Kd.V_mono HO_301001.out (fun _ hk => by first | exact ⟨hk.1.1, ⟨hk.1.2.1, ⟨hk.2, ⟨hk.1.2.2.1, ⟨hk.1.2.2.2.1, ⟨hk.1.2.2.2.2.1, hk.1.2.2.2.2.2⟩⟩⟩⟩⟩⟩ | simp only [hk, ne_eq, not_false_eq_true,and_self])), (bk_ BK293.out), (bk_ BK300.out), (bk_ BK304.out), (bk_ BK312.out), (by repeat (first | (with_reducible first | exact HB.out | apply bA_ | apply bN_ | apply bD_ | refine bS_ ?_ GE293.out | refine bS_ ?_ GE300.out | refine bS_ ?_ GE304.out | refine bS_ ?_ GE312.out) | exact HB.out)), z_HO315, Q_HA_HO315, fun _ => (by refine bk_ ?_; exact Kd.R_mono HO319.out (fun _ hk => hk.1)), fun _ => ⟨_, rfl⟩, Q_X6_, fun h0_ => absurd ((hoff 14 (by kernel_rfl)).symm.trans h0_) (by decide)⟩
                refine steps_cons ?_ ?_
                ·rintro b a w' ⟨v314, adz_v314, v318, adz_v318, m6_, m14_, ha, Q_HL311_1, Q_HO310, Q_HO_294001, Q_HO_301001, Q_BK293, Q_BK300, Q_BK304, Q_BK312, Q_HB, Q_HO315, Q_HA_HO315, Q_HO319, Q_HA_HO319, Q_X6_, Q_X14_⟩ hb_ hon hoff
                 refine ⟨_, rfl, fun K hK => ?_⟩
                 have e82 : a.tmps[82]? = some (.int .i64 x17_3) := by rw [ha]; exact (putSel_off rfl).trans rfl
                 replace ha := Aside0.mk ha
                 have HL311_1 := Aside0.mk Q_HL311_1
                 have HO310 := Aside0.mk Q_HO310
                 have HO_294001 := Aside0.mk Q_HO_294001
                 have HO_301001 := Aside0.mk Q_HO_301001
                 have BK293 := Aside0.mk Q_BK293
                 have BK300 := Aside0.mk Q_BK300
                 have BK304 := Aside0.mk Q_BK304
                 have BK312 := Aside0.mk Q_BK312
                 have HB := Aside0.mk Q_HB
                 refine value_ (w1 := w') (v := .int .i64 ji49) (by rfl) rfl ?_ ?_
                 ·go_simp
                  (try simp only [i64_w])
                  try rfl
                 refine hK.out _ _ ⟨v314, adz_v314, v318, adz_v318, m6_, m14_, (by rw [ha.out]; exact putSel_upk 7 hb_ rfl rfl rfl), Q_HL311_1, Q_HO310, Q_HO_294001, Q_HO_301001, Q_BK293, Q_BK300, Q_BK304, Q_BK312, Q_HB, Q_HO315, Q_HA_HO315, Q_HO319, Q_HA_HO319, Q_X6_, fun h0_ => absurd ((hoff 14 (by kernel_rfl)).symm.trans h0_) (by decide)⟩
                refine steps_cons ?_ ?_
                ·rintro b a w' ⟨v314, adz_v314, v318, adz_v318, m6_, m14_, ha, Q_HL311_1, Q_HO310, Q_HO_294001, Q_HO_301001, Q_BK293, Q_BK300, Q_BK304, Q_BK312, Q_HB, Q_HO315, Q_HA_HO315, Q_HO319, Q_HA_HO319, Q_X6_, Q_X14_⟩ hb_ hon hoff
                 refine ⟨_, rfl, fun K hK => ?_⟩
                 have e81 : a.tmps[81]? = some (v318) := by rw [ha]; exact putSel_on (e := (11, 81, v318)) 6 rfl rfl (hon 11 (by kernel_rfl)) rfl
                 have e83 : a.tmps[83]? = some (.int .i64 ji49) := by rw [ha]; exact putSel_on (e := (13, 83, .int .i64 ji49)) 7 rfl rfl (hon 13 (by kernel_rfl)) rfl
                 replace ha := Aside0.mk ha
                 have HL311_1 := Aside0.mk Q_HL311_1
                 have HO310 := Aside0.mk Q_HO310
                 have HO_294001 := Aside0.mk Q_HO_294001
                 have HO_301001 := Aside0.mk Q_HO_301001
                 have BK293 := Aside0.mk Q_BK293
                 have BK300 := Aside0.mk Q_BK300
                 have BK304 := Aside0.mk Q_BK304
                 have BK312 := Aside0.mk Q_BK312
                 have HB := Aside0.mk Q_HB
                 have HO319 := Aside0.mk (Q_HO319 (hon 11 (by kernel_rfl)))
                 have HA_HO319 := Aside0.mk (Q_HA_HO319 (hon 11 (by kernel_rfl)))
                 obtain ⟨c_, hv_⟩ := HA_HO319.out
                 rw [hv_] at e81
                 refine value_ (w1 := w') (v := .pointer (some (adz_v318.add ((ji49)).toNat))) (by rfl) rfl ?_ ?_
                 ·go_simp
                  (try simp only [i64_w])
                  try rfl
                 refine hK.out _ _ ⟨v314, adz_v314, v318, adz_v318, m6_, (.pointer (some (adz_v318.add ((ji49)).toNat))), (by rw [ha.out]; exact putSel_upk 8 hb_ rfl rfl rfl), Q_HL311_1, Q_HO310, Q_HO_294001, Q_HO_301001, Q_BK293, Q_BK300, Q_BK304, Q_BK312, Q_HB, Q_HO315, Q_HA_HO315, Q_HO319, Q_HA_HO319, Q_X6_, fun _ => rfl⟩
                refine steps_cons ?_ ?_
                ·rintro b a w' ⟨v314, adz_v314, v318, adz_v318, m6_, m14_, ha, Q_HL311_1, Q_HO310, Q_HO_294001, Q_HO_301001, Q_BK293, Q_BK300, Q_BK304, Q_BK312, Q_HB, Q_HO315, Q_HA_HO315, Q_HO319, Q_HA_HO319, Q_X6_, Q_X14_⟩ hb_ hon hoff
                 refine ⟨_, rfl, fun K hK => ?_⟩
                 have e84 : a.tmps[84]? = some (m14_) := by rw [ha]; exact putSel_on (e := (14, 84, m14_)) 8 rfl rfl (hon 14 (by kernel_rfl)) rfl
                 rw [Q_X14_ (hon 14 (by kernel_rfl))] at e84
                 replace ha := Aside0.mk ha
                 have HL311_1 := Aside0.mk Q_HL311_1
                 have HO310 := Aside0.mk Q_HO310
                 have HO_294001 := Aside0.mk Q_HO_294001
                 have HO_301001 := Aside0.mk Q_HO_301001
                 have BK293 := Aside0.mk Q_BK293
                 have BK300 := Aside0.mk Q_BK300
                 have BK304 := Aside0.mk Q_BK304
                 have BK312 := Aside0.mk Q_BK312
                 have HB := Aside0.mk Q_HB
                 have HO319 := Aside0.mk (Q_HO319 (hon 11 (by kernel_rfl)))
                 have HA_HO319 := Aside0.mk (Q_HA_HO319 (hon 11 (by kernel_rfl)))
                 obtain ⟨c_, hv_⟩ := HA_HO319.out
                 have hF_ := HO319.out
                 rw [hv_] at hF_
                 obtain ⟨ad_, ea_, hx_⟩ := Kd.at_string (Kd.R_reads' hF_).2.2 (ji49) (of_eq_true pi320) (of_eq_true qi320)
                 cases ea_
                 refine value_ (w1 := w') (v := .string (rdOf ByteArray.empty y317 (ji49))) (by rfl) rfl ?_ ?_
                 ·go_simp
                  (try simp only [i64_w])
                  try rfl
                 refine hK.out _ _ ⟨v314, adz_v314, v318, adz_v318, m6_, m14_, (by rw [ha.out]; exact putSel_upk 9 hb_ rfl rfl rfl), Q_HL311_1, Q_HO310, Q_HO_294001, Q_HO_301001, Q_BK293, Q_BK300, Q_BK304, Q_BK312, Q_HB, Q_HO315, Q_HA_HO315, Q_HO319, Q_HA_HO319, Q_X6_, Q_X14_⟩
                refine steps_cons ?_ ?_
                ·rintro b a w' ⟨v314, adz_v314, v318, adz_v318, m6_, m14_, ha, Q_HL311_1, Q_HO310, Q_HO_294001, Q_HO_301001, Q_BK293, Q_BK300, Q_BK304, Q_BK312, Q_HB, Q_HO315, Q_HA_HO315, Q_HO319, Q_HA_HO319, Q_X6_, Q_X14_⟩ hb_ hon hoff
                 refine ⟨_, rfl, fun K hK => ?_⟩
                 have e77 : a.tmps[77]? = some (.string (rdOf ByteArray.empty y313 (ji49))) := by rw [ha]; exact putSel_on (e := (7, 77, .string (rdOf ByteArray.empty y313 (ji49)))) 4 rfl rfl (hon 7 (by kernel_rfl)) rfl
                 replace ha := Aside0.mk ha
                 have HL311_1 := Aside0.mk Q_HL311_1
                 have HO310 := Aside0.mk Q_HO310
                 have HO_294001 := Aside0.mk Q_HO_294001
                 have HO_301001 := Aside0.mk Q_HO_301001
                 have BK293 := Aside0.mk Q_BK293
                 have BK300 := Aside0.mk Q_BK300
                 have BK304 := Aside0.mk Q_BK304
                 have BK312 := Aside0.mk Q_BK312
                 have HB := Aside0.mk Q_HB
                 have HO315 := Aside0.mk (Q_HO315 (hon 3 (by kernel_rfl)))
                 have HA_HO315 := Aside0.mk (Q_HA_HO315 (hon 3 (by kernel_rfl)))
                 refine value_ (w1 := w') (v := .string (rdOf ByteArray.empty y313 (ji49))) (by rfl) rfl ?_ ?_
                 ·go_simp
                  (try simp only [i64_w])
                  try rfl
                 refine hK.out _ _ ⟨v314, adz_v314, v318, adz_v318, m6_, m14_, (by rw [ha.out]; exact putSel_upk 10 hb_ rfl rfl rfl), Q_HL311_1, Q_HO310, Q_HO_294001, Q_HO_301001, Q_BK293, Q_BK300, Q_BK304, Q_BK312, Q_HB, Q_HO315, Q_HA_HO315, Q_HO319, Q_HA_HO319, Q_X6_, Q_X14_⟩
                refine steps_cons ?_ ?_
                ·rintro b a w' ⟨v314, adz_v314, v318, adz_v318, m6_, m14_, ha, Q_HL311_1, Q_HO310, Q_HO_294001, Q_HO_301001, Q_BK293, Q_BK300, Q_BK304, Q_BK312, Q_HB, Q_HO315, Q_HA_HO315, Q_HO319, Q_HA_HO319, Q_X6_, Q_X14_⟩ hb_ hon hoff
                 refine ⟨_, rfl, fun K hK => ?_⟩
                 have e85 : a.tmps[85]? = some (.string (rdOf ByteArray.empty y317 (ji49))) := by rw [ha]; exact putSel_on (e := (15, 85, .string (rdOf ByteArray.empty y317 (ji49)))) 9 rfl rfl (hon 15 (by kernel_rfl)) rfl
                 replace ha := Aside0.mk ha
                 have HL311_1 := Aside0.mk Q_HL311_1
                 have HO310 := Aside0.mk Q_HO310
                 have HO_294001 := Aside0.mk Q_HO_294001
                 have HO_301001 := Aside0.mk Q_HO_301001
                 have BK293 := Aside0.mk Q_BK293
                 have BK300 := Aside0.mk Q_BK300
                 have BK304 := Aside0.mk Q_BK304
                 have BK312 := Aside0.mk Q_BK312
                 have HB := Aside0.mk Q_HB
                 have HO315 := Aside0.mk (Q_HO315 (hon 3 (by kernel_rfl)))
                 have HA_HO315 := Aside0.mk (Q_HA_HO315 (hon 3 (by kernel_rfl)))
                 have HO319 := Aside0.mk (Q_HO319 (hon 11 (by kernel_rfl)))
                 have HA_HO319 := Aside0.mk (Q_HA_HO319 (hon 11 (by kernel_rfl)))
                 refine value_ (w1 := w') (v := .string (rdOf ByteArray.empty y317 (ji49))) (by rfl) rfl ?_ ?_
                 ·go_simp
                  (try simp only [i64_w])
                  try rfl
                 refine hK.out _ _ ⟨v314, adz_v314, v318, adz_v318, m6_, m14_, (by rw [ha.out]; exact putSel_upk 11 hb_ rfl rfl rfl), Q_HL311_1, Q_HO310, Q_HO_294001, Q_HO_301001, Q_BK293, Q_BK300, Q_BK304, Q_BK312, Q_HB, Q_HO315, Q_HA_HO315, Q_HO319, Q_HA_HO319, Q_X6_, Q_X14_⟩
                exact steps_nil
               rintro b a w78 hall ⟨v314, adz_v314, v318, adz_v318, m6_, m14_, ha, Q_HL311_1, Q_HO310, Q_HO_294001, Q_HO_301001, Q_BK293, Q_BK300, Q_BK304, Q_BK312, Q_HB, Q_HO315, Q_HA_HO315, Q_HO319, Q_HA_HO319, Q_X6_, Q_X14_⟩
               clear BK293 BK300 BK304 BK312 HB HL311_1 HO310 HO_294001 HO_301001
               have hb2_ := hall 2 (by kernel_rfl)
               have hb3_ := hall 3 (by kernel_rfl)
               have hb5_ := hall 5 (by kernel_rfl)
               have hb6_ := hall 6 (by kernel_rfl)
               have hb7_ := hall 7 (by kernel_rfl)
               have hb10_ := hall 10 (by kernel_rfl)
               have hb11_ := hall 11 (by kernel_rfl)
               have hb13_ := hall 13 (by kernel_rfl)
               have hb14_ := hall 14 (by kernel_rfl)
               have hb15_ := hall 15 (by kernel_rfl)
               have hb16_ := hall 16 (by kernel_rfl)
               have hb17_ := hall 17 (by kernel_rfl)
               subst ha
               obtain rfl := Q_X6_ hb6_
               obtain rfl := Q_X14_ hb14_
               simp only [putSel, hb2_, hb3_, hb5_, hb6_, hb7_, hb10_, hb11_, hb13_, hb14_, hb15_, hb16_, hb17_, if_true,Act.put, sA_, sB_, sC_]
               have HL311_1 := Aside0.mk Q_HL311_1
               clear Q_HL311_1
               have HO310 := Aside0.mk Q_HO310
               clear Q_HO310
               have HO_294001 := Aside0.mk Q_HO_294001
               clear Q_HO_294001
               have HO_301001 := Aside0.mk Q_HO_301001
               clear Q_HO_301001
               have BK293 := Aside0.mk Q_BK293
               clear Q_BK293
               have BK300 := Aside0.mk Q_BK300
               clear Q_BK300
               have BK304 := Aside0.mk Q_BK304
               clear Q_BK304
               have BK312 := Aside0.mk Q_BK312
               clear Q_BK312
               have HB := Aside0.mk Q_HB
               clear Q_HB
               have HO315 := Aside0.mk (Q_HO315 hb3_)
               clear Q_HO315
               have HA_HO315 := Aside0.mk (Q_HA_HO315 hb3_)
               clear Q_HA_HO315
               have HO319 := Aside0.mk (Q_HO319 hb11_)
               clear Q_HO319
               have HA_HO319 := Aside0.mk (Q_HA_HO319 hb11_)
               clear Q_HA_HO319
               clear hall hb2_ hb3_ hb5_ hb6_ hb7_ hb10_ hb11_ hb13_ hb14_ hb15_ hb16_ hb17_
               obtain ⟨co79, eo79⟩ := HA_HO315.out
               clear HA_HO315
               subst eo79
               obtain ⟨co80, eo80⟩ := HA_HO319.out
               clear HA_HO319
               subst eo80
               go_upto_region 17 with (first | ((with_reducible refine gate_dst (N := 90) rfl ?_); (try (refine gate_guard (by rfl) ?_; dsimp only)); refine Kd.R_lit (Kd.int .i64) _ 3 ?hg (N := 90) ?hd (xs := ([a4, wrap64 ((wrap64 (a5)) * 200)] : List Int)) (inner := [.int .i64 a4, .int .i64 (wrap64 ((wrap64 (a5)) * 200))]) (ok := fun _ => True) (okp := fun _ => True) ?hr ?hp (fun _ hk => hk) trivial (Below.refl _ _) (Nat.le_refl _) (by simp) ?_; (case hd => rfl); (case hg => rfl); (case hr => first | (go_simp; done) | (go_simp; rfl)); (case hp => exact (Reps.one (show Kd.M (Kd.int .i64) _ _ _ a4 [.int .i64 a4] from rfl) (Reps.one (show Kd.M (Kd.int .i64) _ _ _ (wrap64 ((wrap64 (a5)) * 200)) [.int .i64 (wrap64 ((wrap64 (a5)) * 200))] from rfl) (Reps.none _ _)))); intro v322 w81 ho82 hb hg_ hnew_; clear hg_ hnew_; (first | rw [← Ny321.out] at ho82 | (simp only [Int.reduceToNat] at ho82; rw [← Ny321.out] at ho82)); have n0_ := Aside0.mk (Kd.V_elder' (bk_ HO_294001.out) (Kd.R_base ho82) hb); have n1_ := Aside0.mk (Kd.V_elder' (bk_ HO_301001.out) (Kd.R_base ho82) hb); have n2_ := Aside0.mk (Kd.N_elder' (bk_ HO310.out) (Kd.R_base ho82) hb); have n3_ := Aside0.mk (Kd.V_elder' (bk_ HL311_1.out) (Kd.R_base ho82) hb); have n4_ := Aside0.mk (Kd.R_below (bk_ HO315.out) hb); have n5_ := Aside0.mk (Kd.R_below (bk_ HO319.out) hb); have n6_ := Aside0.mk (Kd.R_lower (Kd.R_newM (M := fun k_ => (w.heap.size ≤ k_)) ho82 (below_size (by repeat (first | (with_reducible first | exact HB.out | apply bA_ | apply bN_ | apply bD_ | refine bS_ ?_ GE293.out | refine bS_ ?_ GE300.out | refine bS_ ?_ GE304.out | refine bS_ ?_ GE312.out) | exact HB.out))) (fun k_ h_ => h_)) (below_size (by repeat (first | (with_reducible first | exact HB.out | apply bA_ | apply bN_ | apply bD_ | refine bS_ ?_ GE293.out | refine bS_ ?_ GE300.out | refine bS_ ?_ GE304.out | refine bS_ ?_ GE312.out) | exact HB.out)))); have n7_ := Aside0.mk (blk_below (g := gb293) (o := .cells #[.string a0_0, .slice A0_1 l0_1.length c0_1] 24 (0, 0)) (bk_ BK293.out) hb); have n8_ := Aside0.mk (blk_below (g := gb300) (o := .cells #[.string t296, .slice Ao33 t297.length co33] 24 (0, 0)) (bk_ BK300.out) hb); have n9_ := Aside0.mk (blk_below (g := gb304) (o := .cells #[.string x305000_27, .string x305001_27, .string x305002_27] 41 (0, 0)) (bk_ BK304.out) hb); have n10_ := Aside0.mk (blk_below (g := gb312) (o := .cells #[.string ((rd_T24 y308 (ji46)).f0), .slice A311_1 ((rd_T24 y308 (ji46)).f1).length c311_1] 24 (0, 0)) (bk_ BK312.out) hb); have n11_ := Aside0.mk (below_step (by repeat (first | (with_reducible first | exact HB.out | apply bA_ | apply bN_ | apply bD_ | refine bS_ ?_ GE293.out | refine bS_ ?_ GE300.out | refine bS_ ?_ GE304.out | refine bS_ ?_ GE312.out) | exact HB.out)) hb); clear HO_294001 HO_301001 HO310 HL311_1 HO315 HO319 BK293 BK300 BK304 BK312 HB; have HO_294001 := n0_; have HO_301001 := n1_; have HO310 := n2_; have HL311_1 := n3_; have HO315 := n4_; have HO319 := n5_; have HO323 := n6_; have BK293 := n7_; have BK300 := n8_; have BK304 := n9_; have BK312 := n10_; have HB := n11_; clear n0_ n1_ n2_ n3_ n4_ n5_ n6_ n7_ n8_ n9_ n10_ n11_; clear hb ho82; obtain ⟨Ao83, co83, eo83⟩ := Kd.R_slice HO323.out; subst eo83; have p324 : 0 ≤ ((ji49) : Int) := of_decide_eq_true (by first | (with_reducible assumption) | assumption); have q324 : (ji49) < (y321.length : Int) := of_decide_eq_true (by first | (with_reducible assumption) | assumption); obtain ⟨ad324, e324, hx324_0⟩ := Kd.at_int (Kd.R_reads' HO323.out).2.2 (ji49) p324 q324; cases e324; replace p324 := eq_true p324; replace q324 := eq_true q324; have hcz84_0 : w81.cell? ⟨gb312, 0, none⟩ = some (.string ((rd_T24 y308 (ji46)).f0)) := (blk_cell BK312.out 0).trans rfl; have hcz84_1 : w81.cell? ⟨gb312, 1, none⟩ = some (.slice A311_1 ((rd_T24 y308 (ji46)).f1).length c311_1) := (blk_cell BK312.out 1).trans rfl; have hfz84_0 := blk_frozen BK312.out 0; have hfz84_1 := blk_frozen BK312.out 1) | ((with_reducible refine gate_callee (f := 18) rfl ?_); refine goesL_ (some 99) rfl rfl Tryd.func18 (by kernel_rfl) rfl #[.agg #[.string ((rd_T24 y308 (ji46)).f0), .slice A311_1 ((rd_T24 y308 (ji46)).f1).length c311_1], .string (rdOf ByteArray.empty y313 (ji49)), .string (rdOf ByteArray.empty y317 (ji49))] rfl (by (try simp only [List.map_toArray, List.map_cons, List.map_nil]); first | done | (simp only [hji46, hji49]; rfl) | rfl | (simp only [List.length_drop, List.length_take]; rfl)) ?_; (with_reducible refine (database_Find.calls k3 ((rd_T24 y308 (ji46)).f0) _ _ ((rd_T24 y308 (ji46)).f1) (rdOf ByteArray.empty y313 (ji49)) (rdOf ByteArray.empty y317 (ji49)) t325 t326 _ ?side1 ?side2 A54.out).mono ?_); (case side1 => repeat (first | exact ((Kd.V_reads' (bk_ HL311_1.out)).2.2) | (with_reducible refine Kd.C_alloc ?_ _) | (with_reducible refine Kd.C_drewN ?_ _) | (with_reducible refine Kd.C_drew ?_))); (case side2 => exact HC311_1.out); rintro e w85 ⟨rfl, hb⟩; refine ⟨_, rfl, ?_⟩; have n0_ := Aside0.mk (Kd.V_below (bk_ HO_294001.out) hb); have n1_ := Aside0.mk (Kd.V_below (bk_ HO_301001.out) hb); have n2_ := Aside0.mk (Kd.N_below (bk_ HO310.out) hb); have n3_ := Aside0.mk (Kd.V_below (bk_ HL311_1.out) hb); have n4_ := Aside0.mk (Kd.R_below (bk_ HO315.out) hb); have n5_ := Aside0.mk (Kd.R_below (bk_ HO319.out) hb); have n6_ := Aside0.mk (Kd.R_below (bk_ HO323.out) hb); have n7_ := Aside0.mk (blk_below (g := gb293) (o := .cells #[.string a0_0, .slice A0_1 l0_1.length c0_1] 24 (0, 0)) (bk_ BK293.out) hb); have n8_ := Aside0.mk (blk_below (g := gb300) (o := .cells #[.string t296, .slice Ao33 t297.length co33] 24 (0, 0)) (bk_ BK300.out) hb); have n9_ := Aside0.mk (blk_below (g := gb304) (o := .cells #[.string x305000_27, .string x305001_27, .string x305002_27] 41 (0, 0)) (bk_ BK304.out) hb); have n10_ := Aside0.mk (blk_below (g := gb312) (o := .cells #[.string ((rd_T24 y308 (ji46)).f0), .slice A311_1 ((rd_T24 y308 (ji46)).f1).length c311_1] 24 (0, 0)) (bk_ BK312.out) hb); have n11_ := Aside0.mk (below_step (by repeat (first | (with_reducible first | exact HB.out | apply bA_ | apply bN_ | apply bD_ | refine bS_ ?_ GE293.out | refine bS_ ?_ GE300.out | refine bS_ ?_ GE304.out | refine bS_ ?_ GE312.out) | exact HB.out)) hb); clear HO_294001 HO_301001 HO310 HL311_1 HO315 HO319 HO323 BK293 BK300 BK304 BK312 HB; have HO_294001 := n0_; have HO_301001 := n1_; have HO310 := n2_; have HL311_1 := n3_; have HO315 := n4_; have HO319 := n5_; have HO323 := n6_; have BK293 := n7_; have BK300 := n8_; have BK304 := n9_; have BK312 := n10_; have HB := n11_; clear n0_ n1_ n2_ n3_ n4_ n5_ n6_ n7_ n8_ n9_ n10_ n11_; (try clear hb); (try clear hb2); (try clear hk); (try clear hi); have hcz86_0 : w85.cell? ⟨gb312, 0, none⟩ = some (.string ((rd_T24 y308 (ji46)).f0)) := (blk_cell BK312.out 0).trans rfl; have hcz86_1 : w85.cell? ⟨gb312, 1, none⟩ = some (.slice A311_1 ((rd_T24 y308 (ji46)).f1).length c311_1) := (blk_cell BK312.out 1).trans rfl; have hfz86_0 := blk_frozen BK312.out 0; have hfz86_1 := blk_frozen BK312.out 1) | ((with_reducible refine gate_callee (f := 19) rfl ?_); refine goesL_ (some 106) rfl rfl Tryd.func19 (by kernel_rfl) rfl #[.agg #[.string ((rd_T24 y308 (ji46)).f0), .slice A311_1 ((rd_T24 y308 (ji46)).f1).length c311_1], .string (rdOf ByteArray.empty y313 (ji49)), .string (rdOf ByteArray.empty y317 (ji49))] rfl (by (try simp only [List.map_toArray, List.map_cons, List.map_nil]); first | done | (simp only [hji46, hji49]; rfl) | rfl | (simp only [List.length_drop, List.length_take]; rfl)) ?_; (with_reducible refine (kerbsuiteref12_Find.calls k3 ((rd_T24 y308 (ji46)).f0) _ _ ((rd_T24 y308 (ji46)).f1) (rdOf ByteArray.empty y313 (ji49)) (rdOf ByteArray.empty y317 (ji49)) t327 t328 _ ?side1 ?side2 A55.out).mono ?_); (case side1 => repeat (first | exact ((Kd.V_reads' (bk_ HL311_1.out)).2.2) | (with_reducible refine Kd.C_alloc ?_ _) | (with_reducible refine Kd.C_drewN ?_ _) | (with_reducible refine Kd.C_drew ?_))); (case side2 => exact HC311_1.out); rintro e w87 ⟨rfl, hb⟩; refine ⟨_, rfl, ?_⟩; have n0_ := Aside0.mk (Kd.V_below (bk_ HO_294001.out) hb); have n1_ := Aside0.mk (Kd.V_below (bk_ HO_301001.out) hb); have n2_ := Aside0.mk (Kd.N_below (bk_ HO310.out) hb); have n3_ := Aside0.mk (Kd.V_below (bk_ HL311_1.out) hb); have n4_ := Aside0.mk (Kd.R_below (bk_ HO315.out) hb); have n5_ := Aside0.mk (Kd.R_below (bk_ HO319.out) hb); have n6_ := Aside0.mk (Kd.R_below (bk_ HO323.out) hb); have n7_ := Aside0.mk (blk_below (g := gb293) (o := .cells #[.string a0_0, .slice A0_1 l0_1.length c0_1] 24 (0, 0)) (bk_ BK293.out) hb); have n8_ := Aside0.mk (blk_below (g := gb300) (o := .cells #[.string t296, .slice Ao33 t297.length co33] 24 (0, 0)) (bk_ BK300.out) hb); have n9_ := Aside0.mk (blk_below (g := gb304) (o := .cells #[.string x305000_27, .string x305001_27, .string x305002_27] 41 (0, 0)) (bk_ BK304.out) hb); have n10_ := Aside0.mk (blk_below (g := gb312) (o := .cells #[.string ((rd_T24 y308 (ji46)).f0), .slice A311_1 ((rd_T24 y308 (ji46)).f1).length c311_1] 24 (0, 0)) (bk_ BK312.out) hb); have n11_ := Aside0.mk (below_step (by repeat (first | (with_reducible first | exact HB.out | apply bA_ | apply bN_ | apply bD_ | refine bS_ ?_ GE293.out | refine bS_ ?_ GE300.out | refine bS_ ?_ GE304.out | refine bS_ ?_ GE312.out) | exact HB.out)) hb); clear HO_294001 HO_301001 HO310 HL311_1 HO315 HO319 HO323 BK293 BK300 BK304 BK312 HB; have HO_294001 := n0_; have HO_301001 := n1_; have HO310 := n2_; have HL311_1 := n3_; have HO315 := n4_; have HO319 := n5_; have HO323 := n6_; have BK293 := n7_; have BK300 := n8_; have BK304 := n9_; have BK312 := n10_; have HB := n11_; clear n0_ n1_ n2_ n3_ n4_ n5_ n6_ n7_ n8_ n9_ n10_ n11_; (try clear hb); (try clear hb2); (try clear hk); (try clear hi)))
               (try simp only [Act.put, sA_, sB_, sC_])
               go_cut [116] (fun v116 wc => ∃ (kq : Nat) (x116_55 : Bool), v116 = .bool x116_55 ∧ Aside0 (kerbsuitelaw12_DatabaseFinds.j3 kq a2 a3 a4 a5 x17_3 (rdOf ByteArray.empty y313 (ji49)) (rdOf ByteArray.empty y317 (ji49)) (rd y321 (ji49)) x116_55 a0_0 l0_1 t296 t297 x305000_27 x305001_27 x305002_27 ((rd_T24 y308 (ji46)).f0) ((rd_T24 y308 (ji46)).f1) = some r) ∧ Aside0 (kq ≤ k3) ∧ Aside0 (Kd.V k35 35 wc w.heap.size (fun k_ => (P0_1_ k_ ∨ w.heap.size ≤ k_) ∧ k_ ≠ gb293 ∧ k_ ≠ gb300 ∧ k_ ≠ gb304 ∧ k_ ≠ gb312) (.slice A0_1 l0_1.length c0_1) l0_1) ∧ Aside0 (Kd.V k35 35 wc w.heap.size (fun k_ => (P0_1_ k_ ∨ w.heap.size ≤ k_) ∧ k_ ≠ gb293 ∧ k_ ≠ gb300 ∧ k_ ≠ gb304 ∧ k_ ≠ gb312) (.slice Ao33 t297.length co33) t297) ∧ Aside0 (Kd.V k35 35 wc w.heap.size (fun k_ => (P0_1_ k_ ∨ w.heap.size ≤ k_) ∧ k_ ≠ gb293 ∧ k_ ≠ gb300 ∧ k_ ≠ gb304 ∧ k_ ≠ gb312) (.slice A311_1 ((rd_T24 y308 (ji46)).f1).length c311_1) ((rd_T24 y308 (ji46)).f1)) ∧ Aside0 (wc.heap[gb293]? = some (.cells #[.string a0_0, (.slice A0_1 l0_1.length c0_1)] 24 (0, 0))) ∧ Aside0 (wc.heap[gb300]? = some (.cells #[.string t296, (.slice Ao33 t297.length co33)] 24 (0, 0))) ∧ Aside0 (wc.heap[gb304]? = some (.cells #[.string x305000_27, .string x305001_27, .string x305002_27] 41 (0, 0))) ∧ Aside0 (wc.heap[gb312]? = some (.cells #[.string ((rd_T24 y308 (ji46)).f0), (.slice A311_1 ((rd_T24 y308 (ji46)).f1).length c311_1)] 24 (0, 0))) ∧ Aside0 (Below w.heap.size w wc))
               case first =>
                have H := HC56.out
                clear HC56
                by_cases c88 : t325 = t327
                ·rw [if_pos c88] at H
                 have c88b0 : (t325 == t327) = true := beq_iff_eq.mpr c88
                 have c88b1 : (t325 != t327) = false := bne_eq_false_iff_eq.mpr c88
                 clear c88
                 (first | rw [c88b0] | (simp only [i64_w, i32_w]; rw [c88b0]) | skip)
                 have H' := Aside0.mk H
                 clear H
                 go_wp2
                 go_meet
                 case rel => exact ⟨_, ((t326 != t328)), (by first | rfl | (simp; done) | (simp [*]; done)), H', ⟨by have := HJ9.out; have := HJ27.out; have := HK3.out; first | omega | exact Nat.le_refl _⟩, ⟨by refine bk_ ?_; exact Kd.V_mono HO_294001.out (fun _ hk => by first | exact ⟨hk.1.1, ⟨hk.1.2.2.2.2.1, ⟨hk.1.2.2.2.2.2.1, ⟨hk.1.2.2.2.2.2.2.1, hk.1.2.2.2.2.2.2.2⟩⟩⟩⟩ | simp only [hk, ne_eq, not_false_eq_true,and_self])⟩, ⟨by refine bk_ ?_; exact Kd.V_mono HO_301001.out (fun _ hk => by first | exact ⟨hk.1.1, ⟨hk.1.2.2.2.2.1, ⟨hk.1.2.2.2.2.2.1, ⟨hk.1.2.2.2.2.2.2.1, hk.1.2.2.2.2.2.2.2⟩⟩⟩⟩ | simp only [hk, ne_eq, not_false_eq_true,and_self])⟩, ⟨by refine bk_ ?_; exact Kd.V_mono HL311_1.out (fun _ hk => by first | exact ⟨hk.1.1, ⟨hk.1.2.2.2.2.1, ⟨hk.1.2.2.2.2.2.1, ⟨hk.1.2.2.2.2.2.2.1, hk.1.2.2.2.2.2.2.2⟩⟩⟩⟩ | simp only [hk, ne_eq, not_false_eq_true,and_self])⟩, ⟨by refine bk_ ?_; exact BK293.out⟩, ⟨by refine bk_ ?_; exact BK300.out⟩, ⟨by refine bk_ ?_; exact BK304.out⟩, ⟨by refine bk_ ?_; exact BK312.out⟩, ⟨by repeat (first | (with_reducible first | exact HB.out | apply bA_ | apply bN_ | apply bD_ | refine bS_ ?_ GE293.out | refine bS_ ?_ GE300.out | refine bS_ ?_ GE304.out | refine bS_ ?_ GE312.out) | exact HB.out)⟩⟩
                rw [if_neg c88] at H
                have c88b0 : (t325 == t327) = false := beq_eq_false_iff_ne.mpr c88
                have c88b1 : (t325 != t327) = true := bne_iff_ne.mpr c88
                (first | rw [c88b0] | (simp only [i64_w, i32_w]; rw [c88b0]) | skip)
                have H' := Aside0.mk H
                clear H
                go_wp2
                go_meet
                case rel => exact ⟨_, (true), (by first | rfl | (simp; done) | (simp [*]; done)), H', ⟨by have := HJ9.out; have := HJ27.out; have := HK3.out; first | omega | exact Nat.le_refl _⟩, ⟨by refine bk_ ?_; exact Kd.V_mono HO_294001.out (fun _ hk => by first | exact ⟨hk.1.1, ⟨hk.1.2.2.2.2.1, ⟨hk.1.2.2.2.2.2.1, ⟨hk.1.2.2.2.2.2.2.1, hk.1.2.2.2.2.2.2.2⟩⟩⟩⟩ | simp only [hk, ne_eq, not_false_eq_true,and_self])⟩, ⟨by refine bk_ ?_; exact Kd.V_mono HO_301001.out (fun _ hk => by first | exact ⟨hk.1.1, ⟨hk.1.2.2.2.2.1, ⟨hk.1.2.2.2.2.2.1, ⟨hk.1.2.2.2.2.2.2.1, hk.1.2.2.2.2.2.2.2⟩⟩⟩⟩ | simp only [hk, ne_eq, not_false_eq_true,and_self])⟩, ⟨by refine bk_ ?_; exact Kd.V_mono HL311_1.out (fun _ hk => by first | exact ⟨hk.1.1, ⟨hk.1.2.2.2.2.1, ⟨hk.1.2.2.2.2.2.1, ⟨hk.1.2.2.2.2.2.2.1, hk.1.2.2.2.2.2.2.2⟩⟩⟩⟩ | simp only [hk, ne_eq, not_false_eq_true,and_self])⟩, ⟨by refine bk_ ?_; exact BK293.out⟩, ⟨by refine bk_ ?_; exact BK300.out⟩, ⟨by refine bk_ ?_; exact BK304.out⟩, ⟨by refine bk_ ?_; exact BK312.out⟩, ⟨by repeat (first | (with_reducible first | exact HB.out | apply bA_ | apply bN_ | apply bD_ | refine bS_ ?_ GE293.out | refine bS_ ?_ GE300.out | refine bS_ ?_ GE304.out | refine bS_ ?_ GE312.out) | exact HB.out)⟩⟩
               case rest =>
                clear HC56
                try clear c1
                try clear c2
                try clear p2
                try clear c3
                try clear p3
                try clear q3
                try clear hx3
                try clear qi3
                try clear c4
                try clear c5
                try clear c6
                try clear p6
                try clear c8
                try clear c18
                try clear c19
                try clear c31
                try clear p31
                try clear q31
                try clear hx31
                try clear qi31
                try clear p32
                try clear q32
                try clear hx32
                try clear qi32
                try clear c47
                try clear c47b0
                try clear c48
                try clear c48b0
                try clear c50
                try clear c50b0
                try clear c51
                try clear c51b0
                try clear c52
                try clear c52b0
                try clear c53
                try clear c53b0
                try clear c57
                try clear c58
                try clear c60
                try clear p64
                try clear c66
                try clear c67
                try clear c68
                try clear c88
                try clear c88b0
                try clear c88b1
                try clear hcz59_0
                try clear hcz59_1
                try clear hcz61_0
                try clear hcz61_1
                try clear hcz69_0
                try clear hcz69_1
                try clear hcz84_0
                try clear hcz84_1
                try clear hcz86_0
                try clear hcz86_1
                try clear hfz59_0
                try clear hfz59_1
                try clear hfz61_0
                try clear hfz61_1
                try clear hfz69_0
                try clear hfz69_1
                try clear hfz84_0
                try clear hfz84_1
                try clear hfz86_0
                try clear hfz86_1
                try clear hx311_0
                try clear hx311_1
                try clear hx324_0
                try clear p311
                try clear p324
                try clear q311
                try clear q324
                obtain ⟨kq, x116_55, rfl, HA, HJ55, HO_294001, HO_301001, HO_313001, BK293, BK300, BK304, BK312, HB⟩ := hcut
                cases kq with
                | zero => exact absurd HA.out (by simp [kerbsuitelaw12_DatabaseFinds.j3])
                | succ kj55 =>
                 have H := HA.out
                 clear HA
                 simp only [kerbsuitelaw12_DatabaseFinds.j3] at H
                 by_cases c89 : x116_55 = true
                 ·subst c89
                  have H1 : (some false) = some r := by rw [if_pos rfl] at H; exact H
                  clear H
                  have H := H1
                  clear H1
                  obtain rfl := Option.some.inj H
                  go_wp2
                  go_ret
                  exact ⟨by first | rfl | (simp [errW_none, errW_some] <;> rfl) | (simp only [← hji46, ← hji49]; first | rfl | (simp [errW_none, errW_some] <;> rfl)) | (simp [*, errW_none, errW_some] <;> rfl), by repeat (first | (with_reducible first | exact HB.out | apply bA_ | apply bN_ | apply bD_ | refine bS_ ?_ GE293.out | refine bS_ ?_ GE300.out | refine bS_ ?_ GE304.out | refine bS_ ?_ GE312.out) | exact HB.out)⟩
                 replace c89 := Bool.eq_false_iff.mpr c89
                 subst c89
                 have H1 : ((database_Client.f kj55 ((rd_T24 y308 (ji46)).f0) ((rd_T24 y308 (ji46)).f1) (rdOf ByteArray.empty y313 (ji49)) (rdOf ByteArray.empty y317 (ji49)) (rd y321 (ji49))).bind fun bt329 => ((kerbsuiteref12_Client.f kj55 ((rd_T24 y308 (ji46)).f0) ((rd_T24 y308 (ji46)).f1) (rdOf ByteArray.empty y313 (ji49)) (rdOf ByteArray.empty y317 (ji49)) (rd y321 (ji49))).bind fun bt331 => (if bt329.1 = bt331.1 then (kerbsuitelaw12_DatabaseFinds.j4 kj55 a2 a3 a4 a5 x17_3 (rdOf ByteArray.empty y313 (ji49)) (rdOf ByteArray.empty y317 (ji49)) (rd y321 (ji49)) (bt329.2 != bt331.2) a0_0 l0_1 t296 t297 x305000_27 x305001_27 x305002_27 ((rd_T24 y308 (ji46)).f0) ((rd_T24 y308 (ji46)).f1)) else (kerbsuitelaw12_DatabaseFinds.j4 kj55 a2 a3 a4 a5 x17_3 (rdOf ByteArray.empty y313 (ji49)) (rdOf ByteArray.empty y317 (ji49)) (rd y321 (ji49)) true a0_0 l0_1 t296 t297 x305000_27 x305001_27 x305002_27 ((rd_T24 y308 (ji46)).f0) ((rd_T24 y308 (ji46)).f1))))) = some r := by rw [if_neg (show ¬ (false = true) by decide)] at H; exact H
                 clear H
                 have H := H1
                 clear H1
                 replace H := Option.bind_eq_some_iff.mp H
                 obtain ⟨⟨t329, t330⟩, A900, H⟩ := H
                 replace H : ((kerbsuiteref12_Client.f kj55 ((rd_T24 y308 (ji46)).f0) ((rd_T24 y308 (ji46)).f1) (rdOf ByteArray.empty y313 (ji49)) (rdOf ByteArray.empty y317 (ji49)) (rd y321 (ji49))).bind fun bt331 => (if t329 = bt331.1 then (kerbsuitelaw12_DatabaseFinds.j4 kj55 a2 a3 a4 a5 x17_3 (rdOf ByteArray.empty y313 (ji49)) (rdOf ByteArray.empty y317 (ji49)) (rd y321 (ji49)) (t330 != bt331.2) a0_0 l0_1 t296 t297 x305000_27 x305001_27 x305002_27 ((rd_T24 y308 (ji46)).f0) ((rd_T24 y308 (ji46)).f1)) else (kerbsuitelaw12_DatabaseFinds.j4 kj55 a2 a3 a4 a5 x17_3 (rdOf ByteArray.empty y313 (ji49)) (rdOf ByteArray.empty y317 (ji49)) (rd y321 (ji49)) true a0_0 l0_1 t296 t297 x305000_27 x305001_27 x305002_27 ((rd_T24 y308 (ji46)).f0) ((rd_T24 y308 (ji46)).f1)))) = some r := H
                 have A90 := Aside0.mk A900
                 clear A900
                 replace H := Option.bind_eq_some_iff.mp H
                 obtain ⟨⟨t331, t332⟩, A910, H⟩ := H
                 replace H : (if t329 = t331 then (kerbsuitelaw12_DatabaseFinds.j4 kj55 a2 a3 a4 a5 x17_3 (rdOf ByteArray.empty y313 (ji49)) (rdOf ByteArray.empty y317 (ji49)) (rd y321 (ji49)) (t330 != t332) a0_0 l0_1 t296 t297 x305000_27 x305001_27 x305002_27 ((rd_T24 y308 (ji46)).f0) ((rd_T24 y308 (ji46)).f1)) else (kerbsuitelaw12_DatabaseFinds.j4 kj55 a2 a3 a4 a5 x17_3 (rdOf ByteArray.empty y313 (ji49)) (rdOf ByteArray.empty y317 (ji49)) (rd y321 (ji49)) true a0_0 l0_1 t296 t297 x305000_27 x305001_27 x305002_27 ((rd_T24 y308 (ji46)).f0) ((rd_T24 y308 (ji46)).f1))) = some r := H
                 have A91 := Aside0.mk A910
                 clear A910
                 have HC92 := Aside0.mk H
                 clear H
                 have hnb93 := NB312_293.out
                 have hnc93 := NB293_312.out
                 have hnb94 := NB312_300.out
                 have hnc94 := NB300_312.out
                 have hnb95 := NB312_304.out
                 have hnc95 := NB304_312.out
                 have hcz96_0 : wc.cell? ⟨gb312, 0, none⟩ = some (.string ((rd_T24 y308 (ji46)).f0)) := (blk_cell BK312.out 0).trans rfl
                 have hcz96_1 : wc.cell? ⟨gb312, 1, none⟩ = some (.slice A311_1 ((rd_T24 y308 (ji46)).f1).length c311_1) := (blk_cell BK312.out 1).trans rfl
                 have hfz96_0 := blk_frozen BK312.out 0
                 have hfz96_1 := blk_frozen BK312.out 1
                 go_upto_region 21 with (first | ((with_reducible refine gate_callee (f := 20) rfl ?_); refine goesL_ (some 122) rfl rfl Tryd.func20 (by kernel_rfl) rfl #[.agg #[.string ((rd_T24 y308 (ji46)).f0), .slice A311_1 ((rd_T24 y308 (ji46)).f1).length c311_1], .string (rdOf ByteArray.empty y313 (ji49)), .string (rdOf ByteArray.empty y317 (ji49)), .int .i64 (rd y321 (ji49))] rfl (by (try simp only [List.map_toArray, List.map_cons, List.map_nil]); first | done | (simp only [hji46, hji49]; rfl) | rfl | (simp only [List.length_drop, List.length_take]; rfl)) ?_; (with_reducible refine (database_Client.calls kj55 ((rd_T24 y308 (ji46)).f0) _ _ ((rd_T24 y308 (ji46)).f1) (rdOf ByteArray.empty y313 (ji49)) (rdOf ByteArray.empty y317 (ji49)) (rd y321 (ji49)) t329 t330 _ ?side1 ?side2 A90.out).mono ?_); (case side1 => repeat (first | exact (Kd.V_reads' HO_313001.out).2.2 | (with_reducible refine Kd.C_alloc ?_ _) | (with_reducible refine Kd.C_drewN ?_ _) | (with_reducible refine Kd.C_drew ?_))); (case side2 => exact (Kd.V_reads' HO_313001.out).2.1); rintro e w97 ⟨rfl, hb⟩; refine ⟨_, rfl, ?_⟩; have n0_ := Aside0.mk (Kd.V_below (bk_ HO_294001.out) hb); have n1_ := Aside0.mk (Kd.V_below (bk_ HO_301001.out) hb); have n2_ := Aside0.mk (Kd.V_below (bk_ HO_313001.out) hb); have n3_ := Aside0.mk (blk_below (g := gb293) (o := .cells #[.string a0_0, .slice A0_1 l0_1.length c0_1] 24 (0, 0)) (bk_ BK293.out) hb); have n4_ := Aside0.mk (blk_below (g := gb300) (o := .cells #[.string t296, .slice Ao33 t297.length co33] 24 (0, 0)) (bk_ BK300.out) hb); have n5_ := Aside0.mk (blk_below (g := gb304) (o := .cells #[.string x305000_27, .string x305001_27, .string x305002_27] 41 (0, 0)) (bk_ BK304.out) hb); have n6_ := Aside0.mk (blk_below (g := gb312) (o := .cells #[.string ((rd_T24 y308 (ji46)).f0), .slice A311_1 ((rd_T24 y308 (ji46)).f1).length c311_1] 24 (0, 0)) (bk_ BK312.out) hb); have n7_ := Aside0.mk (below_step (by repeat (first | (with_reducible first | exact HB.out | apply bA_ | apply bN_ | apply bD_ | refine bS_ ?_ GE293.out | refine bS_ ?_ GE300.out | refine bS_ ?_ GE304.out | refine bS_ ?_ GE312.out) | exact HB.out)) hb); clear HO_294001 HO_301001 HO_313001 BK293 BK300 BK304 BK312 HB; have HO_294001 := n0_; have HO_301001 := n1_; have HO_313001 := n2_; have BK293 := n3_; have BK300 := n4_; have BK304 := n5_; have BK312 := n6_; have HB := n7_; clear n0_ n1_ n2_ n3_ n4_ n5_ n6_ n7_; (try clear hb); (try clear hb2); (try clear hk); (try clear hi); have hcz98_0 : w97.cell? ⟨gb312, 0, none⟩ = some (.string ((rd_T24 y308 (ji46)).f0)) := (blk_cell BK312.out 0).trans rfl; have hcz98_1 : w97.cell? ⟨gb312, 1, none⟩ = some (.slice A311_1 ((rd_T24 y308 (ji46)).f1).length c311_1) := (blk_cell BK312.out 1).trans rfl; have hfz98_0 := blk_frozen BK312.out 0; have hfz98_1 := blk_frozen BK312.out 1) | ((with_reducible refine gate_callee (f := 21) rfl ?_); refine goesL_ (some 130) rfl rfl Tryd.func21 (by kernel_rfl) rfl #[.agg #[.string ((rd_T24 y308 (ji46)).f0), .slice A311_1 ((rd_T24 y308 (ji46)).f1).length c311_1], .string (rdOf ByteArray.empty y313 (ji49)), .string (rdOf ByteArray.empty y317 (ji49)), .int .i64 (rd y321 (ji49))] rfl (by (try simp only [List.map_toArray, List.map_cons, List.map_nil]); first | done | (simp only [hji46, hji49]; rfl) | rfl | (simp only [List.length_drop, List.length_take]; rfl)) ?_; (with_reducible refine (kerbsuiteref12_Client.calls kj55 ((rd_T24 y308 (ji46)).f0) _ _ ((rd_T24 y308 (ji46)).f1) (rdOf ByteArray.empty y313 (ji49)) (rdOf ByteArray.empty y317 (ji49)) (rd y321 (ji49)) t331 t332 _ ?side1 ?side2 A91.out).mono ?_); (case side1 => repeat (first | exact (Kd.V_reads' HO_313001.out).2.2 | (with_reducible refine Kd.C_alloc ?_ _) | (with_reducible refine Kd.C_drewN ?_ _) | (with_reducible refine Kd.C_drew ?_))); (case side2 => exact (Kd.V_reads' HO_313001.out).2.1); rintro e w99 ⟨rfl, hb⟩; refine ⟨_, rfl, ?_⟩; have n0_ := Aside0.mk (Kd.V_below (bk_ HO_294001.out) hb); have n1_ := Aside0.mk (Kd.V_below (bk_ HO_301001.out) hb); have n2_ := Aside0.mk (Kd.V_below (bk_ HO_313001.out) hb); have n3_ := Aside0.mk (blk_below (g := gb293) (o := .cells #[.string a0_0, .slice A0_1 l0_1.length c0_1] 24 (0, 0)) (bk_ BK293.out) hb); have n4_ := Aside0.mk (blk_below (g := gb300) (o := .cells #[.string t296, .slice Ao33 t297.length co33] 24 (0, 0)) (bk_ BK300.out) hb); have n5_ := Aside0.mk (blk_below (g := gb304) (o := .cells #[.string x305000_27, .string x305001_27, .string x305002_27] 41 (0, 0)) (bk_ BK304.out) hb); have n6_ := Aside0.mk (blk_below (g := gb312) (o := .cells #[.string ((rd_T24 y308 (ji46)).f0), .slice A311_1 ((rd_T24 y308 (ji46)).f1).length c311_1] 24 (0, 0)) (bk_ BK312.out) hb); have n7_ := Aside0.mk (below_step (by repeat (first | (with_reducible first | exact HB.out | apply bA_ | apply bN_ | apply bD_ | refine bS_ ?_ GE293.out | refine bS_ ?_ GE300.out | refine bS_ ?_ GE304.out | refine bS_ ?_ GE312.out) | exact HB.out)) hb); clear HO_294001 HO_301001 HO_313001 BK293 BK300 BK304 BK312 HB; have HO_294001 := n0_; have HO_301001 := n1_; have HO_313001 := n2_; have BK293 := n3_; have BK300 := n4_; have BK304 := n5_; have BK312 := n6_; have HB := n7_; clear n0_ n1_ n2_ n3_ n4_ n5_ n6_ n7_; (try clear hb); (try clear hb2); (try clear hk); (try clear hi)))
                 (try simp only [Act.put, sA_, sB_, sC_])
                 go_cut [140] (fun v140 wc => ∃ (kq : Nat) (x140_91 : Bool), v140 = .bool x140_91 ∧ Aside0 (kerbsuitelaw12_DatabaseFinds.j4 kq a2 a3 a4 a5 x17_3 (rdOf ByteArray.empty y313 (ji49)) (rdOf ByteArray.empty y317 (ji49)) (rd y321 (ji49)) x140_91 a0_0 l0_1 t296 t297 x305000_27 x305001_27 x305002_27 ((rd_T24 y308 (ji46)).f0) ((rd_T24 y308 (ji46)).f1) = some r) ∧ Aside0 (kq ≤ kj55) ∧ Aside0 (Kd.V k35 35 wc w.heap.size (fun k_ => (P0_1_ k_ ∨ w.heap.size ≤ k_) ∧ k_ ≠ gb293 ∧ k_ ≠ gb300 ∧ k_ ≠ gb304 ∧ k_ ≠ gb312) (.slice A0_1 l0_1.length c0_1) l0_1) ∧ Aside0 (Kd.V k35 35 wc w.heap.size (fun k_ => (P0_1_ k_ ∨ w.heap.size ≤ k_) ∧ k_ ≠ gb293 ∧ k_ ≠ gb300 ∧ k_ ≠ gb304 ∧ k_ ≠ gb312) (.slice Ao33 t297.length co33) t297) ∧ Aside0 (Kd.V k35 35 wc w.heap.size (fun k_ => (P0_1_ k_ ∨ w.heap.size ≤ k_) ∧ k_ ≠ gb293 ∧ k_ ≠ gb300 ∧ k_ ≠ gb304 ∧ k_ ≠ gb312) (.slice A311_1 ((rd_T24 y308 (ji46)).f1).length c311_1) ((rd_T24 y308 (ji46)).f1)) ∧ Aside0 (wc.heap[gb293]? = some (.cells #[.string a0_0, (.slice A0_1 l0_1.length c0_1)] 24 (0, 0))) ∧ Aside0 (wc.heap[gb300]? = some (.cells #[.string t296, (.slice Ao33 t297.length co33)] 24 (0, 0))) ∧ Aside0 (wc.heap[gb304]? = some (.cells #[.string x305000_27, .string x305001_27, .string x305002_27] 41 (0, 0))) ∧ Aside0 (wc.heap[gb312]? = some (.cells #[.string ((rd_T24 y308 (ji46)).f0), (.slice A311_1 ((rd_T24 y308 (ji46)).f1).length c311_1)] 24 (0, 0))) ∧ Aside0 (Below w.heap.size w wc))
                 case first =>
                  have H := HC92.out
                  clear HC92
                  by_cases c100 : t329 = t331
                  ·rw [if_pos c100] at H
                   have c100b0 : (t329 == t331) = true := beq_iff_eq.mpr c100
                   have c100b1 : (t329 != t331) = false := bne_eq_false_iff_eq.mpr c100
                   clear c100
                   (first | rw [c100b0] | (simp only [i64_w, i32_w]; rw [c100b0]) | skip)
                   have H' := Aside0.mk H
                   clear H
                   go_wp2
                   go_meet
                   case rel => exact ⟨_, ((t330 != t332)), (by first | rfl | (simp; done) | (simp [*]; done)), H', ⟨by have := HJ9.out; have := HJ27.out; have := HK3.out; have := HJ55.out; first | omega | exact Nat.le_refl _⟩, ⟨by refine bk_ ?_; exact HO_294001.out⟩, ⟨by refine bk_ ?_; exact HO_301001.out⟩, ⟨by refine bk_ ?_; exact HO_313001.out⟩, ⟨by refine bk_ ?_; exact BK293.out⟩, ⟨by refine bk_ ?_; exact BK300.out⟩, ⟨by refine bk_ ?_; exact BK304.out⟩, ⟨by refine bk_ ?_; exact BK312.out⟩, ⟨by repeat (first | (with_reducible first | exact HB.out | apply bA_ | apply bN_ | apply bD_ | refine bS_ ?_ GE293.out | refine bS_ ?_ GE300.out | refine bS_ ?_ GE304.out | refine bS_ ?_ GE312.out) | exact HB.out)⟩⟩
                  rw [if_neg c100] at H
                  have c100b0 : (t329 == t331) = false := beq_eq_false_iff_ne.mpr c100
                  have c100b1 : (t329 != t331) = true := bne_iff_ne.mpr c100
                  (first | rw [c100b0] | (simp only [i64_w, i32_w]; rw [c100b0]) | skip)
                  have H' := Aside0.mk H
                  clear H
                  go_wp2
                  go_meet
                  case rel => exact ⟨_, (true), (by first | rfl | (simp; done) | (simp [*]; done)), H', ⟨by have := HJ9.out; have := HJ27.out; have := HK3.out; have := HJ55.out; first | omega | exact Nat.le_refl _⟩, ⟨by refine bk_ ?_; exact HO_294001.out⟩, ⟨by refine bk_ ?_; exact HO_301001.out⟩, ⟨by refine bk_ ?_; exact HO_313001.out⟩, ⟨by refine bk_ ?_; exact BK293.out⟩, ⟨by refine bk_ ?_; exact BK300.out⟩, ⟨by refine bk_ ?_; exact BK304.out⟩, ⟨by refine bk_ ?_; exact BK312.out⟩, ⟨by repeat (first | (with_reducible first | exact HB.out | apply bA_ | apply bN_ | apply bD_ | refine bS_ ?_ GE293.out | refine bS_ ?_ GE300.out | refine bS_ ?_ GE304.out | refine bS_ ?_ GE312.out) | exact HB.out)⟩⟩
                 case rest =>
                  clear HC92
                  try clear c1
                  try clear c2
                  try clear p2
                  try clear c3
                  try clear p3
                  try clear q3
                  try clear hx3
                  try clear qi3
                  try clear c4
                  try clear c5
                  try clear c6
                  try clear p6
                  try clear c8
                  try clear c9
                  try clear c10
                  try clear c18
                  try clear c19
                  try clear c20
                  try clear c21
                  try clear c31
                  try clear p31
                  try clear q31
                  try clear hx31
                  try clear qi31
                  try clear p32
                  try clear q32
                  try clear hx32
                  try clear qi32
                  try clear c47
                  try clear c47b0
                  try clear c48
                  try clear c48b0
                  try clear c50
                  try clear c50b0
                  try clear c51
                  try clear c51b0
                  try clear c52
                  try clear c52b0
                  try clear c53
                  try clear c53b0
                  try clear c57
                  try clear c58
                  try clear c60
                  try clear p64
                  try clear c66
                  try clear c67
                  try clear c68
                  try clear c88
                  try clear c88b0
                  try clear c88b1
                  try clear c89
                  try clear c93
                  try clear c94
                  try clear c95
                  try clear c100
                  try clear c100b0
                  try clear c100b1
                  try clear hcz59_0
                  try clear hcz59_1
                  try clear hcz61_0
                  try clear hcz61_1
                  try clear hcz69_0
                  try clear hcz69_1
                  try clear hcz84_0
                  try clear hcz84_1
                  try clear hcz86_0
                  try clear hcz86_1
                  try clear hcz96_0
                  try clear hcz96_1
                  try clear hcz98_0
                  try clear hcz98_1
                  try clear hfz59_0
                  try clear hfz59_1
                  try clear hfz61_0
                  try clear hfz61_1
                  try clear hfz69_0
                  try clear hfz69_1
                  try clear hfz84_0
                  try clear hfz84_1
                  try clear hfz86_0
                  try clear hfz86_1
                  try clear hfz96_0
                  try clear hfz96_1
                  try clear hfz98_0
                  try clear hfz98_1
                  try clear hx311_0
                  try clear hx311_1
                  try clear hx324_0
                  try clear p2
                  try clear p3
                  try clear p31
                  try clear p311
                  try clear p32
                  try clear p324
                  try clear p6
                  try clear p64
                  try clear q3
                  try clear q31
                  try clear q311
                  try clear q32
                  try clear q324
                  obtain ⟨kq, x140_91, rfl, HA, HJ91, HO_294001, HO_301001, HO_313001, BK293, BK300, BK304, BK312, HB⟩ := hcut
                  cases kq with
                  | zero => exact absurd HA.out (by simp [kerbsuitelaw12_DatabaseFinds.j4])
                  | succ kj91 =>
                   have H := HA.out
                   clear HA
                   simp only [kerbsuitelaw12_DatabaseFinds.j4] at H
                   by_cases c101 : x140_91 = true
                   ·subst c101
                    have H1 : (some false) = some r := by rw [if_pos rfl] at H; exact H
                    clear H
                    have H := H1
                    clear H1
                    obtain rfl := Option.some.inj H
                    go_wp2
                    go_ret
                    exact ⟨by first | rfl | (simp [errW_none, errW_some] <;> rfl) | (simp only [← hji46, ← hji49]; first | rfl | (simp [errW_none, errW_some] <;> rfl)) | (simp [*, errW_none, errW_some] <;> rfl), by repeat (first | (with_reducible first | exact HB.out | apply bA_ | apply bN_ | apply bD_ | refine bS_ ?_ GE293.out | refine bS_ ?_ GE300.out | refine bS_ ?_ GE304.out | refine bS_ ?_ GE312.out) | exact HB.out)⟩
                   replace c101 := Bool.eq_false_iff.mpr c101
                   subst c101
                   have H1 : ((database_Service.f kj91 ((rd_T24 y308 (ji46)).f0) ((rd_T24 y308 (ji46)).f1) (rdOf ByteArray.empty y313 (ji49)) (rdOf ByteArray.empty y317 (ji49)) (rd y321 (ji49))).bind fun bt333 => ((kerbsuiteref12_Service.f kj91 ((rd_T24 y308 (ji46)).f0) ((rd_T24 y308 (ji46)).f1) (rdOf ByteArray.empty y313 (ji49)) (rdOf ByteArray.empty y317 (ji49)) (rd y321 (ji49))).bind fun bt335 => (if bt333.1 = bt335.1 then (if bt333.2 = bt335.2 then (kerbsuitelaw12_DatabaseFinds.l0 kj91 a2 a3 a4 a5 (wrap64 (x17_3 + 1)) a0_0 l0_1 t296 t297 x305000_27 x305001_27 x305002_27) else (some false)) else (some false)))) = some r := by rw [if_neg (show ¬ (false = true) by decide)] at H; exact H
                   clear H
                   have H := H1
                   clear H1
                   replace H := Option.bind_eq_some_iff.mp H
                   obtain ⟨⟨t333, t334⟩, A1020, H⟩ := H
                   replace H : ((kerbsuiteref12_Service.f kj91 ((rd_T24 y308 (ji46)).f0) ((rd_T24 y308 (ji46)).f1) (rdOf ByteArray.empty y313 (ji49)) (rdOf ByteArray.empty y317 (ji49)) (rd y321 (ji49))).bind fun bt335 => (if t333 = bt335.1 then (if t334 = bt335.2 then (kerbsuitelaw12_DatabaseFinds.l0 kj91 a2 a3 a4 a5 (wrap64 (x17_3 + 1)) a0_0 l0_1 t296 t297 x305000_27 x305001_27 x305002_27) else (some false)) else (some false))) = some r := H
                   have A102 := Aside0.mk A1020
                   clear A1020
                   replace H := Option.bind_eq_some_iff.mp H
                   obtain ⟨⟨t335, t336⟩, A1030, H⟩ := H
                   replace H : (if t333 = t335 then (if t334 = t336 then (kerbsuitelaw12_DatabaseFinds.l0 kj91 a2 a3 a4 a5 (wrap64 (x17_3 + 1)) a0_0 l0_1 t296 t297 x305000_27 x305001_27 x305002_27) else (some false)) else (some false)) = some r := H
                   have A103 := Aside0.mk A1030
                   clear A1030
                   by_cases c104 : t333 = t335
                   ·rw [if_pos c104] at H
                    have c104b0 : (t333 == t335) = true := beq_iff_eq.mpr c104
                    have c104b1 : (t333 != t335) = false := bne_eq_false_iff_eq.mpr c104
                    clear c104
                    by_cases c105 : t334 = t336
                    ·rw [if_pos c105] at H
                     have c105b0 : (t334 == t336) = true := beq_iff_eq.mpr c105
                     have c105b1 : (t334 != t336) = false := bne_eq_false_iff_eq.mpr c105
                     clear c105
                     have H' := Aside0.mk H
                     clear H
                     have hnb106 := NB312_293.out
                     have hnc106 := NB293_312.out
                     have hnb107 := NB312_300.out
                     have hnc107 := NB300_312.out
                     have hnb108 := NB312_304.out
                     have hnc108 := NB304_312.out
                     have hcz109_0 : wc.cell? ⟨gb312, 0, none⟩ = some (.string ((rd_T24 y308 (ji46)).f0)) := (blk_cell BK312.out 0).trans rfl
                     have hcz109_1 : wc.cell? ⟨gb312, 1, none⟩ = some (.slice A311_1 ((rd_T24 y308 (ji46)).f1).length c311_1) := (blk_cell BK312.out 1).trans rfl
                     have hfz109_0 := blk_frozen BK312.out 0
                     have hfz109_1 := blk_frozen BK312.out 1
                     go_wp2_with (first | ((with_reducible refine gate_callee (f := 22) rfl ?_); refine goesL_ (some 146) rfl rfl Tryd.func22 (by kernel_rfl) rfl #[.agg #[.string ((rd_T24 y308 (ji46)).f0), .slice A311_1 ((rd_T24 y308 (ji46)).f1).length c311_1], .string (rdOf ByteArray.empty y313 (ji49)), .string (rdOf ByteArray.empty y317 (ji49)), .int .i64 (rd y321 (ji49))] rfl (by (try simp only [List.map_toArray, List.map_cons, List.map_nil]); first | done | (simp only [hji46, hji49]; rfl) | rfl | (simp only [List.length_drop, List.length_take]; rfl)) ?_; (with_reducible refine (database_Service.calls kj91 ((rd_T24 y308 (ji46)).f0) _ _ ((rd_T24 y308 (ji46)).f1) (rdOf ByteArray.empty y313 (ji49)) (rdOf ByteArray.empty y317 (ji49)) (rd y321 (ji49)) t333 t334 _ ?side1 ?side2 A102.out).mono ?_); (case side1 => repeat (first | exact (Kd.V_reads' HO_313001.out).2.2 | (with_reducible refine Kd.C_alloc ?_ _) | (with_reducible refine Kd.C_drewN ?_ _) | (with_reducible refine Kd.C_drew ?_))); (case side2 => exact (Kd.V_reads' HO_313001.out).2.1); rintro e w110 ⟨rfl, hb⟩; refine ⟨_, rfl, ?_⟩; have n0_ := Aside0.mk (Kd.V_below (bk_ HO_294001.out) hb); have n1_ := Aside0.mk (Kd.V_below (bk_ HO_301001.out) hb); have n2_ := Aside0.mk (Kd.V_below (bk_ HO_313001.out) hb); have n3_ := Aside0.mk (blk_below (g := gb293) (o := .cells #[.string a0_0, .slice A0_1 l0_1.length c0_1] 24 (0, 0)) (bk_ BK293.out) hb); have n4_ := Aside0.mk (blk_below (g := gb300) (o := .cells #[.string t296, .slice Ao33 t297.length co33] 24 (0, 0)) (bk_ BK300.out) hb); have n5_ := Aside0.mk (blk_below (g := gb304) (o := .cells #[.string x305000_27, .string x305001_27, .string x305002_27] 41 (0, 0)) (bk_ BK304.out) hb); have n6_ := Aside0.mk (blk_below (g := gb312) (o := .cells #[.string ((rd_T24 y308 (ji46)).f0), .slice A311_1 ((rd_T24 y308 (ji46)).f1).length c311_1] 24 (0, 0)) (bk_ BK312.out) hb); have n7_ := Aside0.mk (below_step (by repeat (first | (with_reducible first | exact HB.out | apply bA_ | apply bN_ | apply bD_ | refine bS_ ?_ GE293.out | refine bS_ ?_ GE300.out | refine bS_ ?_ GE304.out | refine bS_ ?_ GE312.out) | exact HB.out)) hb); clear HO_294001 HO_301001 HO_313001 BK293 BK300 BK304 BK312 HB; have HO_294001 := n0_; have HO_301001 := n1_; have HO_313001 := n2_; have BK293 := n3_; have BK300 := n4_; have BK304 := n5_; have BK312 := n6_; have HB := n7_; clear n0_ n1_ n2_ n3_ n4_ n5_ n6_ n7_; (try clear hb); (try clear hb2); (try clear hk); (try clear hi); have hcz111_0 : w110.cell? ⟨gb312, 0, none⟩ = some (.string ((rd_T24 y308 (ji46)).f0)) := (blk_cell BK312.out 0).trans rfl; have hcz111_1 : w110.cell? ⟨gb312, 1, none⟩ = some (.slice A311_1 ((rd_T24 y308 (ji46)).f1).length c311_1) := (blk_cell BK312.out 1).trans rfl; have hfz111_0 := blk_frozen BK312.out 0; have hfz111_1 := blk_frozen BK312.out 1) | ((with_reducible refine gate_callee (f := 23) rfl ?_); refine goesL_ (some 154) rfl rfl Tryd.func23 (by kernel_rfl) rfl #[.agg #[.string ((rd_T24 y308 (ji46)).f0), .slice A311_1 ((rd_T24 y308 (ji46)).f1).length c311_1], .string (rdOf ByteArray.empty y313 (ji49)), .string (rdOf ByteArray.empty y317 (ji49)), .int .i64 (rd y321 (ji49))] rfl (by (try simp only [List.map_toArray, List.map_cons, List.map_nil]); first | done | (simp only [hji46, hji49]; rfl) | rfl | (simp only [List.length_drop, List.length_take]; rfl)) ?_; (with_reducible refine (kerbsuiteref12_Service.calls kj91 ((rd_T24 y308 (ji46)).f0) _ _ ((rd_T24 y308 (ji46)).f1) (rdOf ByteArray.empty y313 (ji49)) (rdOf ByteArray.empty y317 (ji49)) (rd y321 (ji49)) t335 t336 _ ?side1 ?side2 A103.out).mono ?_); (case side1 => repeat (first | exact (Kd.V_reads' HO_313001.out).2.2 | (with_reducible refine Kd.C_alloc ?_ _) | (with_reducible refine Kd.C_drewN ?_ _) | (with_reducible refine Kd.C_drew ?_))); (case side2 => exact (Kd.V_reads' HO_313001.out).2.1); rintro e w112 ⟨rfl, hb⟩; refine ⟨_, rfl, ?_⟩; have n0_ := Aside0.mk (Kd.V_below (bk_ HO_294001.out) hb); have n1_ := Aside0.mk (Kd.V_below (bk_ HO_301001.out) hb); have n2_ := Aside0.mk (Kd.V_below (bk_ HO_313001.out) hb); have n3_ := Aside0.mk (blk_below (g := gb293) (o := .cells #[.string a0_0, .slice A0_1 l0_1.length c0_1] 24 (0, 0)) (bk_ BK293.out) hb); have n4_ := Aside0.mk (blk_below (g := gb300) (o := .cells #[.string t296, .slice Ao33 t297.length co33] 24 (0, 0)) (bk_ BK300.out) hb); have n5_ := Aside0.mk (blk_below (g := gb304) (o := .cells #[.string x305000_27, .string x305001_27, .string x305002_27] 41 (0, 0)) (bk_ BK304.out) hb); have n6_ := Aside0.mk (blk_below (g := gb312) (o := .cells #[.string ((rd_T24 y308 (ji46)).f0), .slice A311_1 ((rd_T24 y308 (ji46)).f1).length c311_1] 24 (0, 0)) (bk_ BK312.out) hb); have n7_ := Aside0.mk (below_step (by repeat (first | (with_reducible first | exact HB.out | apply bA_ | apply bN_ | apply bD_ | refine bS_ ?_ GE293.out | refine bS_ ?_ GE300.out | refine bS_ ?_ GE304.out | refine bS_ ?_ GE312.out) | exact HB.out)) hb); clear HO_294001 HO_301001 HO_313001 BK293 BK300 BK304 BK312 HB; have HO_294001 := n0_; have HO_301001 := n1_; have HO_313001 := n2_; have BK293 := n3_; have BK300 := n4_; have BK304 := n5_; have BK312 := n6_; have HB := n7_; clear n0_ n1_ n2_ n3_ n4_ n5_ n6_ n7_; (try clear hb); (try clear hb2); (try clear hk); (try clear hi)))
                     go_roundg kj91
                     case measure => have := HJ9.out; have := HJ27.out; have := HK3.out; have := HJ55.out; have := HJ91.out; omega
                     case rel => exact ⟨(wrap64 (x17_3 + 1)), (by first | rfl | (simp; done) | (simp [*]; done)), H', ⟨by have := HJ9.out; have := HJ27.out; have := HK3.out; have := HJ55.out; have := HJ91.out; omega⟩, ⟨by refine bk_ ?_; exact Kd.V_mono HO_294001.out (fun _ hk => by first | exact ⟨hk.1, ⟨hk.2.1, ⟨hk.2.2.1, hk.2.2.2.1⟩⟩⟩ | simp only [hk, ne_eq, not_false_eq_true,and_self])⟩, ⟨by refine bk_ ?_; exact Kd.V_mono HO_301001.out (fun _ hk => by first | exact ⟨hk.1, ⟨hk.2.1, ⟨hk.2.2.1, hk.2.2.2.1⟩⟩⟩ | simp only [hk, ne_eq, not_false_eq_true,and_self])⟩, ⟨by refine bk_ ?_; exact BK293.out⟩, ⟨by refine bk_ ?_; exact BK300.out⟩, ⟨by refine bk_ ?_; exact BK304.out⟩, ⟨by repeat (first | (with_reducible first | exact HB.out | apply bA_ | apply bN_ | apply bD_ | refine bS_ ?_ GE293.out | refine bS_ ?_ GE300.out | refine bS_ ?_ GE304.out | refine bS_ ?_ GE312.out) | exact HB.out)⟩⟩
                    rw [if_neg c105] at H
                    have c105b0 : (t334 == t336) = false := beq_eq_false_iff_ne.mpr c105
                    have c105b1 : (t334 != t336) = true := bne_iff_ne.mpr c105
                    obtain rfl := Option.some.inj H
                    have hnb113 := NB312_293.out
                    have hnc113 := NB293_312.out
                    have hnb114 := NB312_300.out
                    have hnc114 := NB300_312.out
                    have hnb115 := NB312_304.out
                    have hnc115 := NB304_312.out
                    have hcz116_0 : wc.cell? ⟨gb312, 0, none⟩ = some (.string ((rd_T24 y308 (ji46)).f0)) := (blk_cell BK312.out 0).trans rfl
                    have hcz116_1 : wc.cell? ⟨gb312, 1, none⟩ = some (.slice A311_1 ((rd_T24 y308 (ji46)).f1).length c311_1) := (blk_cell BK312.out 1).trans rfl
                    have hfz116_0 := blk_frozen BK312.out 0
                    have hfz116_1 := blk_frozen BK312.out 1
                    go_wp2_with (first | ((with_reducible refine gate_callee (f := 22) rfl ?_); refine goesL_ (some 146) rfl rfl Tryd.func22 (by kernel_rfl) rfl #[.agg #[.string ((rd_T24 y308 (ji46)).f0), .slice A311_1 ((rd_T24 y308 (ji46)).f1).length c311_1], .string (rdOf ByteArray.empty y313 (ji49)), .string (rdOf ByteArray.empty y317 (ji49)), .int .i64 (rd y321 (ji49))] rfl (by (try simp only [List.map_toArray, List.map_cons, List.map_nil]); first | done | (simp only [hji46, hji49]; rfl) | rfl | (simp only [List.length_drop, List.length_take]; rfl)) ?_; (with_reducible refine (database_Service.calls kj91 ((rd_T24 y308 (ji46)).f0) _ _ ((rd_T24 y308 (ji46)).f1) (rdOf ByteArray.empty y313 (ji49)) (rdOf ByteArray.empty y317 (ji49)) (rd y321 (ji49)) t333 t334 _ ?side1 ?side2 A102.out).mono ?_); (case side1 => repeat (first | exact (Kd.V_reads' HO_313001.out).2.2 | (with_reducible refine Kd.C_alloc ?_ _) | (with_reducible refine Kd.C_drewN ?_ _) | (with_reducible refine Kd.C_drew ?_))); (case side2 => exact (Kd.V_reads' HO_313001.out).2.1); rintro e w117 ⟨rfl, hb⟩; refine ⟨_, rfl, ?_⟩; have n0_ := Aside0.mk (Kd.V_below (bk_ HO_294001.out) hb); have n1_ := Aside0.mk (Kd.V_below (bk_ HO_301001.out) hb); have n2_ := Aside0.mk (Kd.V_below (bk_ HO_313001.out) hb); have n3_ := Aside0.mk (blk_below (g := gb293) (o := .cells #[.string a0_0, .slice A0_1 l0_1.length c0_1] 24 (0, 0)) (bk_ BK293.out) hb); have n4_ := Aside0.mk (blk_below (g := gb300) (o := .cells #[.string t296, .slice Ao33 t297.length co33] 24 (0, 0)) (bk_ BK300.out) hb); have n5_ := Aside0.mk (blk_below (g := gb304) (o := .cells #[.string x305000_27, .string x305001_27, .string x305002_27] 41 (0, 0)) (bk_ BK304.out) hb); have n6_ := Aside0.mk (blk_below (g := gb312) (o := .cells #[.string ((rd_T24 y308 (ji46)).f0), .slice A311_1 ((rd_T24 y308 (ji46)).f1).length c311_1] 24 (0, 0)) (bk_ BK312.out) hb); have n7_ := Aside0.mk (below_step (by repeat (first | (with_reducible first | exact HB.out | apply bA_ | apply bN_ | apply bD_ | refine bS_ ?_ GE293.out | refine bS_ ?_ GE300.out | refine bS_ ?_ GE304.out | refine bS_ ?_ GE312.out) | exact HB.out)) hb); clear HO_294001 HO_301001 HO_313001 BK293 BK300 BK304 BK312 HB; have HO_294001 := n0_; have HO_301001 := n1_; have HO_313001 := n2_; have BK293 := n3_; have BK300 := n4_; have BK304 := n5_; have BK312 := n6_; have HB := n7_; clear n0_ n1_ n2_ n3_ n4_ n5_ n6_ n7_; (try clear hb); (try clear hb2); (try clear hk); (try clear hi); have hcz118_0 : w117.cell? ⟨gb312, 0, none⟩ = some (.string ((rd_T24 y308 (ji46)).f0)) := (blk_cell BK312.out 0).trans rfl; have hcz118_1 : w117.cell? ⟨gb312, 1, none⟩ = some (.slice A311_1 ((rd_T24 y308 (ji46)).f1).length c311_1) := (blk_cell BK312.out 1).trans rfl; have hfz118_0 := blk_frozen BK312.out 0; have hfz118_1 := blk_frozen BK312.out 1) | ((with_reducible refine gate_callee (f := 23) rfl ?_); refine goesL_ (some 154) rfl rfl Tryd.func23 (by kernel_rfl) rfl #[.agg #[.string ((rd_T24 y308 (ji46)).f0), .slice A311_1 ((rd_T24 y308 (ji46)).f1).length c311_1], .string (rdOf ByteArray.empty y313 (ji49)), .string (rdOf ByteArray.empty y317 (ji49)), .int .i64 (rd y321 (ji49))] rfl (by (try simp only [List.map_toArray, List.map_cons, List.map_nil]); first | done | (simp only [hji46, hji49]; rfl) | rfl | (simp only [List.length_drop, List.length_take]; rfl)) ?_; (with_reducible refine (kerbsuiteref12_Service.calls kj91 ((rd_T24 y308 (ji46)).f0) _ _ ((rd_T24 y308 (ji46)).f1) (rdOf ByteArray.empty y313 (ji49)) (rdOf ByteArray.empty y317 (ji49)) (rd y321 (ji49)) t335 t336 _ ?side1 ?side2 A103.out).mono ?_); (case side1 => repeat (first | exact (Kd.V_reads' HO_313001.out).2.2 | (with_reducible refine Kd.C_alloc ?_ _) | (with_reducible refine Kd.C_drewN ?_ _) | (with_reducible refine Kd.C_drew ?_))); (case side2 => exact (Kd.V_reads' HO_313001.out).2.1); rintro e w119 ⟨rfl, hb⟩; refine ⟨_, rfl, ?_⟩; have n0_ := Aside0.mk (Kd.V_below (bk_ HO_294001.out) hb); have n1_ := Aside0.mk (Kd.V_below (bk_ HO_301001.out) hb); have n2_ := Aside0.mk (Kd.V_below (bk_ HO_313001.out) hb); have n3_ := Aside0.mk (blk_below (g := gb293) (o := .cells #[.string a0_0, .slice A0_1 l0_1.length c0_1] 24 (0, 0)) (bk_ BK293.out) hb); have n4_ := Aside0.mk (blk_below (g := gb300) (o := .cells #[.string t296, .slice Ao33 t297.length co33] 24 (0, 0)) (bk_ BK300.out) hb); have n5_ := Aside0.mk (blk_below (g := gb304) (o := .cells #[.string x305000_27, .string x305001_27, .string x305002_27] 41 (0, 0)) (bk_ BK304.out) hb); have n6_ := Aside0.mk (blk_below (g := gb312) (o := .cells #[.string ((rd_T24 y308 (ji46)).f0), .slice A311_1 ((rd_T24 y308 (ji46)).f1).length c311_1] 24 (0, 0)) (bk_ BK312.out) hb); have n7_ := Aside0.mk (below_step (by repeat (first | (with_reducible first | exact HB.out | apply bA_ | apply bN_ | apply bD_ | refine bS_ ?_ GE293.out | refine bS_ ?_ GE300.out | refine bS_ ?_ GE304.out | refine bS_ ?_ GE312.out) | exact HB.out)) hb); clear HO_294001 HO_301001 HO_313001 BK293 BK300 BK304 BK312 HB; have HO_294001 := n0_; have HO_301001 := n1_; have HO_313001 := n2_; have BK293 := n3_; have BK300 := n4_; have BK304 := n5_; have BK312 := n6_; have HB := n7_; clear n0_ n1_ n2_ n3_ n4_ n5_ n6_ n7_; (try clear hb); (try clear hb2); (try clear hk); (try clear hi)))
                    go_ret
                    exact ⟨by first | rfl | (simp [errW_none, errW_some] <;> rfl) | (simp only [← hji46, ← hji49]; first | rfl | (simp [errW_none, errW_some] <;> rfl)) | (simp [*, errW_none, errW_some] <;> rfl), by repeat (first | (with_reducible first | exact HB.out | apply bA_ | apply bN_ | apply bD_ | refine bS_ ?_ GE293.out | refine bS_ ?_ GE300.out | refine bS_ ?_ GE304.out | refine bS_ ?_ GE312.out) | exact HB.out)⟩
                   rw [if_neg c104] at H
                   have c104b0 : (t333 == t335) = false := beq_eq_false_iff_ne.mpr c104
                   have c104b1 : (t333 != t335) = true := bne_iff_ne.mpr c104
                   obtain rfl := Option.some.inj H
                   have hnb120 := NB312_293.out
                   have hnc120 := NB293_312.out
                   have hnb121 := NB312_300.out
                   have hnc121 := NB300_312.out
                   have hnb122 := NB312_304.out
                   have hnc122 := NB304_312.out
                   have hcz123_0 : wc.cell? ⟨gb312, 0, none⟩ = some (.string ((rd_T24 y308 (ji46)).f0)) := (blk_cell BK312.out 0).trans rfl
                   have hcz123_1 : wc.cell? ⟨gb312, 1, none⟩ = some (.slice A311_1 ((rd_T24 y308 (ji46)).f1).length c311_1) := (blk_cell BK312.out 1).trans rfl
                   have hfz123_0 := blk_frozen BK312.out 0
                   have hfz123_1 := blk_frozen BK312.out 1
                   go_wp2_with (first | ((with_reducible refine gate_callee (f := 22) rfl ?_); refine goesL_ (some 146) rfl rfl Tryd.func22 (by kernel_rfl) rfl #[.agg #[.string ((rd_T24 y308 (ji46)).f0), .slice A311_1 ((rd_T24 y308 (ji46)).f1).length c311_1], .string (rdOf ByteArray.empty y313 (ji49)), .string (rdOf ByteArray.empty y317 (ji49)), .int .i64 (rd y321 (ji49))] rfl (by (try simp only [List.map_toArray, List.map_cons, List.map_nil]); first | done | (simp only [hji46, hji49]; rfl) | rfl | (simp only [List.length_drop, List.length_take]; rfl)) ?_; (with_reducible refine (database_Service.calls kj91 ((rd_T24 y308 (ji46)).f0) _ _ ((rd_T24 y308 (ji46)).f1) (rdOf ByteArray.empty y313 (ji49)) (rdOf ByteArray.empty y317 (ji49)) (rd y321 (ji49)) t333 t334 _ ?side1 ?side2 A102.out).mono ?_); (case side1 => repeat (first | exact (Kd.V_reads' HO_313001.out).2.2 | (with_reducible refine Kd.C_alloc ?_ _) | (with_reducible refine Kd.C_drewN ?_ _) | (with_reducible refine Kd.C_drew ?_))); (case side2 => exact (Kd.V_reads' HO_313001.out).2.1); rintro e w124 ⟨rfl, hb⟩; refine ⟨_, rfl, ?_⟩; have n0_ := Aside0.mk (Kd.V_below (bk_ HO_294001.out) hb); have n1_ := Aside0.mk (Kd.V_below (bk_ HO_301001.out) hb); have n2_ := Aside0.mk (Kd.V_below (bk_ HO_313001.out) hb); have n3_ := Aside0.mk (blk_below (g := gb293) (o := .cells #[.string a0_0, .slice A0_1 l0_1.length c0_1] 24 (0, 0)) (bk_ BK293.out) hb); have n4_ := Aside0.mk (blk_below (g := gb300) (o := .cells #[.string t296, .slice Ao33 t297.length co33] 24 (0, 0)) (bk_ BK300.out) hb); have n5_ := Aside0.mk (blk_below (g := gb304) (o := .cells #[.string x305000_27, .string x305001_27, .string x305002_27] 41 (0, 0)) (bk_ BK304.out) hb); have n6_ := Aside0.mk (blk_below (g := gb312) (o := .cells #[.string ((rd_T24 y308 (ji46)).f0), .slice A311_1 ((rd_T24 y308 (ji46)).f1).length c311_1] 24 (0, 0)) (bk_ BK312.out) hb); have n7_ := Aside0.mk (below_step (by repeat (first | (with_reducible first | exact HB.out | apply bA_ | apply bN_ | apply bD_ | refine bS_ ?_ GE293.out | refine bS_ ?_ GE300.out | refine bS_ ?_ GE304.out | refine bS_ ?_ GE312.out) | exact HB.out)) hb); clear HO_294001 HO_301001 HO_313001 BK293 BK300 BK304 BK312 HB; have HO_294001 := n0_; have HO_301001 := n1_; have HO_313001 := n2_; have BK293 := n3_; have BK300 := n4_; have BK304 := n5_; have BK312 := n6_; have HB := n7_; clear n0_ n1_ n2_ n3_ n4_ n5_ n6_ n7_; (try clear hb); (try clear hb2); (try clear hk); (try clear hi); have hcz125_0 : w124.cell? ⟨gb312, 0, none⟩ = some (.string ((rd_T24 y308 (ji46)).f0)) := (blk_cell BK312.out 0).trans rfl; have hcz125_1 : w124.cell? ⟨gb312, 1, none⟩ = some (.slice A311_1 ((rd_T24 y308 (ji46)).f1).length c311_1) := (blk_cell BK312.out 1).trans rfl; have hfz125_0 := blk_frozen BK312.out 0; have hfz125_1 := blk_frozen BK312.out 1) | ((with_reducible refine gate_callee (f := 23) rfl ?_); refine goesL_ (some 154) rfl rfl Tryd.func23 (by kernel_rfl) rfl #[.agg #[.string ((rd_T24 y308 (ji46)).f0), .slice A311_1 ((rd_T24 y308 (ji46)).f1).length c311_1], .string (rdOf ByteArray.empty y313 (ji49)), .string (rdOf ByteArray.empty y317 (ji49)), .int .i64 (rd y321 (ji49))] rfl (by (try simp only [List.map_toArray, List.map_cons, List.map_nil]); first | done | (simp only [hji46, hji49]; rfl) | rfl | (simp only [List.length_drop, List.length_take]; rfl)) ?_; (with_reducible refine (kerbsuiteref12_Service.calls kj91 ((rd_T24 y308 (ji46)).f0) _ _ ((rd_T24 y308 (ji46)).f1) (rdOf ByteArray.empty y313 (ji49)) (rdOf ByteArray.empty y317 (ji49)) (rd y321 (ji49)) t335 t336 _ ?side1 ?side2 A103.out).mono ?_); (case side1 => repeat (first | exact (Kd.V_reads' HO_313001.out).2.2 | (with_reducible refine Kd.C_alloc ?_ _) | (with_reducible refine Kd.C_drewN ?_ _) | (with_reducible refine Kd.C_drew ?_))); (case side2 => exact (Kd.V_reads' HO_313001.out).2.1); rintro e w126 ⟨rfl, hb⟩; refine ⟨_, rfl, ?_⟩; have n0_ := Aside0.mk (Kd.V_below (bk_ HO_294001.out) hb); have n1_ := Aside0.mk (Kd.V_below (bk_ HO_301001.out) hb); have n2_ := Aside0.mk (Kd.V_below (bk_ HO_313001.out) hb); have n3_ := Aside0.mk (blk_below (g := gb293) (o := .cells #[.string a0_0, .slice A0_1 l0_1.length c0_1] 24 (0, 0)) (bk_ BK293.out) hb); have n4_ := Aside0.mk (blk_below (g := gb300) (o := .cells #[.string t296, .slice Ao33 t297.length co33] 24 (0, 0)) (bk_ BK300.out) hb); have n5_ := Aside0.mk (blk_below (g := gb304) (o := .cells #[.string x305000_27, .string x305001_27, .string x305002_27] 41 (0, 0)) (bk_ BK304.out) hb); have n6_ := Aside0.mk (blk_below (g := gb312) (o := .cells #[.string ((rd_T24 y308 (ji46)).f0), .slice A311_1 ((rd_T24 y308 (ji46)).f1).length c311_1] 24 (0, 0)) (bk_ BK312.out) hb); have n7_ := Aside0.mk (below_step (by repeat (first | (with_reducible first | exact HB.out | apply bA_ | apply bN_ | apply bD_ | refine bS_ ?_ GE293.out | refine bS_ ?_ GE300.out | refine bS_ ?_ GE304.out | refine bS_ ?_ GE312.out) | exact HB.out)) hb); clear HO_294001 HO_301001 HO_313001 BK293 BK300 BK304 BK312 HB; have HO_294001 := n0_; have HO_301001 := n1_; have HO_313001 := n2_; have BK293 := n3_; have BK300 := n4_; have BK304 := n5_; have BK312 := n6_; have HB := n7_; clear n0_ n1_ n2_ n3_ n4_ n5_ n6_ n7_; (try clear hb); (try clear hb2); (try clear hk); (try clear hi)))
                   go_ret
                   exact ⟨by first | rfl | (simp [errW_none, errW_some] <;> rfl) | (simp only [← hji46, ← hji49]; first | rfl | (simp [errW_none, errW_some] <;> rfl)) | (simp [*, errW_none, errW_some] <;> rfl), by repeat (first | (with_reducible first | exact HB.out | apply bA_ | apply bN_ | apply bD_ | refine bS_ ?_ GE293.out | refine bS_ ?_ GE300.out | refine bS_ ?_ GE304.out | refine bS_ ?_ GE312.out) | exact HB.out)⟩
              rw [if_neg c53] at H
              exact absurd H (by simp)
             rw [if_neg c52] at H
             exact absurd H (by simp)
            rw [if_neg c51] at H
            exact absurd H (by simp)
           rw [if_neg c50] at H
           exact absurd H (by simp)
          rw [if_neg c48] at H
          exact absurd H (by simp)
         rw [if_neg c47] at H
         exact absurd H (by simp)
        rw [if_neg c45] at H
        have c45b0 : decide (x17_3 < 4) = false := decide_eq_false c45
        clear c45
        obtain rfl := Option.some.inj H
        go_wp2
        go_ret
        exact ⟨by first | rfl | (simp [errW_none, errW_some] <;> rfl) | (simp [*, errW_none, errW_some] <;> rfl), by repeat (first | (with_reducible first | exact HB.out | apply bA_ | apply bN_ | apply bD_ | refine bS_ ?_ GE293.out | refine bS_ ?_ GE300.out | refine bS_ ?_ GE304.out) | exact HB.out)⟩
 replace c9 := Bool.eq_false_iff.mpr c9
 subst c9
 have H1 : (some false) = some r := by rw [if_neg (show ¬ (false = true) by decide)] at H; exact H
 clear H
 have H := H1
 clear H1
 obtain rfl := Option.some.inj H
 go_enter Tryd.func4, Tryd.ntmps4
 go_wp2_with (first | ((with_reducible refine gate_dst (N := 7) rfl ?_); (try (refine gate_guard (by rfl) ?_; dsimp only)); refine box_event ?hg (N := 7) ?hd (cs := #[.string a0_0, .slice A0_1 l0_1.length c0_1]) (t := 24) ?hr ?_; (case hd => rfl); (case hg => rfl); (case hr => first | (go_simp; done) | (go_simp; rfl)); intro gb293 hg w127 hbox hb; have n0_ := Aside0.mk (Kd.V_below (Kd.V_elderB (bk_ HO0_1.out) gb293 (Nat.le_of_eq hg.symm)) hb); have n1_ := Aside0.mk (below_step (bk_ HB.out) hb); have n2_ := Aside0.mk (hbox); have n3_ := Aside0.mk ((by rw [hg]; exact (below_size (bk_ HB.out)) : w.heap.size ≤ gb293)); have n4_ := Aside0.mk ((by rw [hg]; exact (below_size (bk_ HB.out)) : w.heap.size ≤ gb293)); clear HO0_1 HB; have HO0_1 := n0_; have HB := n1_; have BK293 := n2_; have GW293 := n3_; have GE293 := n4_; clear n0_ n1_ n2_ n3_ n4_; clear hb hbox hg) | ((with_reducible refine gate_callee (f := 7) rfl ?_); refine goesL_ (some 26) rfl rfl Tryd.func7 (by kernel_rfl) rfl #[] rfl (by (try simp only [List.map_toArray, List.map_cons, List.map_nil]); first | done | rfl | (simp only [List.length_drop, List.length_take]; rfl)) ?_; (with_reducible refine (kerbsuitelaw12_awake.calls k  false _ A8.out).mono ?_); rintro e w128 ⟨rfl, hb⟩; refine ⟨_, rfl, ?_⟩; have n0_ := Aside0.mk (Kd.V_below (bk_ HO0_1.out) hb); have n1_ := Aside0.mk (blk_below (g := gb293) (o := .cells #[.string a0_0, .slice A0_1 l0_1.length c0_1] 24 (0, 0)) (bk_ BK293.out) hb); have n2_ := Aside0.mk (below_step (by repeat (first | (with_reducible first | exact HB.out | apply bA_ | apply bN_ | apply bD_ | refine bS_ ?_ GE293.out) | exact HB.out)) hb); clear HO0_1 BK293 HB; have HO0_1 := n0_; have BK293 := n1_; have HB := n2_; clear n0_ n1_ n2_; (try clear hb); (try clear hb2); (try clear hk); (try clear hi)))
 go_ret
 exact ⟨by first | rfl | (simp [errW_none, errW_some] <;> rfl) | (simp [*, errW_none, errW_some] <;> rfl), by repeat (first | (with_reducible first | exact HB.out | apply bA_ | apply bN_ | apply bD_ | refine bS_ ?_ GE293.out) | exact HB.out)⟩

/-- The one plain statement that is left of kerbsuitelaw12_DatabaseFinds. -/
def kerbsuitelaw12_DatabaseFinds.Pure : Prop := ∀ (a0_0 : ByteArray) (l0_1 : List (S35)) (l1 : List Int) (a2 : ByteArray) (a3 : ByteArray) (a4 : Int) (a5 : Int) (a6 : Int), a0_0.size ≤ maxLen → l0_1.length ≤ maxLen → (∀ x ∈ l0_1, x.f0.size ≤ maxLen ∧ x.f1.size ≤ maxLen ∧ (Lit.int .u64 x.f2).wf = true ∧ (Lit.int .i64 x.f3).wf = true ∧ (Lit.int .i64 x.f4).wf = true ∧ (Lit.int .i64 x.f5).wf = true ∧ (Lit.int .i64 x.f6).wf = true ∧ (Lit.int .i64 x.f7).wf = true ∧ (Lit.int .i64 x.f8).wf = true) → l1.length ≤ maxLen → l1.length * 1 ≤ 140737488351232 → (∀ x ∈ l1, (Lit.int .u8 x).wf = true) → a2.size ≤ 140737488351232 → a3.size ≤ 140737488351232 → (Lit.int .i64 a4).wf = true → (Lit.int .u8 a5).wf = true → (Lit.int .u8 a6).wf = true → ∃ k, kerbsuitelaw12_DatabaseFinds.f k a0_0 l0_1 l1 a2 a3 a4 a5 a6 = some true
theorem kerbsuitelaw12_DatabaseFinds.walk (P : kerbsuitelaw12_DatabaseFinds.Pure) (a0_0 : ByteArray) (A0_1 : Option Addr) (c0_1 : Nat) (l0_1 : List (S35)) (A1 : Option Addr) (c1 : Nat) (l1 : List Int) (a2 : ByteArray) (a3 : ByteArray) (a4 : Int) (a5 : Int) (a6 : Int) (w : World) (q0_0_0 : a0_0.size ≤ maxLen) (hr0_1 : Kd.C k35 w A0_1 l0_1.length l0_1) (hc0_1 : l0_1.length ≤ c0_1) (q0_1_0 : l0_1.length ≤ maxLen) (q0_1_1 : (∀ x ∈ l0_1, x.f0.size ≤ maxLen ∧ x.f1.size ≤ maxLen ∧ (Lit.int .u64 x.f2).wf = true ∧ (Lit.int .i64 x.f3).wf = true ∧ (Lit.int .i64 x.f4).wf = true ∧ (Lit.int .i64 x.f5).wf = true ∧ (Lit.int .i64 x.f6).wf = true ∧ (Lit.int .i64 x.f7).wf = true ∧ (Lit.int .i64 x.f8).wf = true)) (hr1 : Kd.C (Kd.int .u8) w A1 l1.length l1) (hc1 : l1.length ≤ c1) (q1_0 : l1.length ≤ maxLen) (q1_1 : l1.length * 1 ≤ 140737488351232) (q1_2 : (∀ x ∈ l1, (Lit.int .u8 x).wf = true)) (q2_0 : a2.size ≤ 140737488351232) (q3_0 : a3.size ≤ 140737488351232) (q4_0 : (Lit.int .i64 a4).wf = true) (q5_0 : (Lit.int .u8 a5).wf = true) (q6_0 : (Lit.int .u8 a6).wf = true) :
  Calls Tryd.prog 4 #[.agg #[.string a0_0, .slice A0_1 l0_1.length c0_1], .slice A1 l1.length c1, .string a2, .string a3, .int .i64 a4, .int .u8 a5, .int .u8 a6] w fun e w' => e = .returned (.bool true) ∧ Below w.heap.size w w' := by
 obtain ⟨k, h⟩ := P a0_0 l0_1 l1 a2 a3 a4 a5 a6 q0_0_0 q0_1_0 q0_1_1 q1_0 q1_1 q1_2 q2_0 q3_0 q4_0 q5_0 q6_0
 refine (kerbsuitelaw12_DatabaseFinds.calls k a0_0 (fun k_ => k_ < w.heap.size) A0_1 c0_1 l0_1 A1 c1 l1 a2 a3 a4 a5 a6 true w (Go.Proofs.YthfdfoigoomaoaaDoor.Aid.aid_V_of_C k35_heap hr0_1 hc0_1) hr1 hc1 h).mono ?_
 rintro e w' ⟨rfl, hd⟩
 exact ⟨rfl, hd⟩

end Go.Proofs.YthfdfoigoomaoaaDoor.PDb
