/- Texts of mine, put together (no statement stands here). -/
import Derived.Test.YtglgipggefpoiaaGreatDoorCSParses3
import Derived.Test.YtglgipggefpoiaaGreatDoorProg
section
namespace Go.Proofs.YtglgipggefpoiaaGreatDoor.SF
open Go.RowKit Go.Sx
theorem Sz3 : Tryz.prog.sizeIs 3 = some 1 := by kernel_rfl
theorem Mn3 : Tryz.prog.manyB 3 = some false := by kernel_rfl
theorem Sz4 : Tryz.prog.sizeIs 4 = some 1 := by kernel_rfl
theorem Mn4 : Tryz.prog.manyB 4 = some false := by kernel_rfl
theorem Sz5 : Tryz.prog.sizeIs 5 = some 1 := by kernel_rfl
theorem Mn5 : Tryz.prog.manyB 5 = some false := by kernel_rfl
theorem Sz9 : Tryz.prog.sizeIs 9 = some 1 := by kernel_rfl
theorem Mn9 : Tryz.prog.manyB 9 = some false := by kernel_rfl
theorem Zs9 : ((Tryz.prog.info? 9).bind (·.zero)).map (fun z => z.cells.size) = some 1 := by kernel_rfl
theorem Ap9 : (Tryz.prog.info? 9).map (fun i => (i.size, i.bytes, (i.zero.map (fun z => z.cells.size)).getD 0)) = some (1, 16, 1) := by kernel_rfl
theorem Sz22 : Tryz.prog.sizeIs 22 = some 1 := by kernel_rfl
theorem Mn22 : Tryz.prog.manyB 22 = some false := by kernel_rfl
theorem Sz23 : Tryz.prog.sizeIs 23 = some 1 := by kernel_rfl
theorem Mn23 : Tryz.prog.manyB 23 = some false := by kernel_rfl
theorem Sz25 : Tryz.prog.sizeIs 25 = some 5 := by kernel_rfl
theorem Mn25 : Tryz.prog.manyB 25 = some true := by kernel_rfl
theorem Zr25 : ((Tryz.prog.info? 25).bind (·.zero)).map (·.cells) = some ([.bool false, .bool false, .int .i64 0, .int .u64 0, .slice none 0 0] : List Value).toArray := by kernel_rfl
theorem Pl25 : Tryz.prog.placesOf 25 = some [(0, 1), (1, 1), (2, 1), (3, 1), (4, 1)] := by kernel_rfl
theorem Fo25_0 : Tryz.prog.fieldOff 25 0 = some 0 := by kernel_rfl
theorem Fo25_1 : Tryz.prog.fieldOff 25 1 = some 1 := by kernel_rfl
theorem Fo25_2 : Tryz.prog.fieldOff 25 2 = some 2 := by kernel_rfl
theorem Fo25_3 : Tryz.prog.fieldOff 25 3 = some 3 := by kernel_rfl
theorem Fo25_4 : Tryz.prog.fieldOff 25 4 = some 4 := by kernel_rfl
theorem Sz29 : Tryz.prog.sizeIs 29 = some 1 := by kernel_rfl
theorem Mn29 : Tryz.prog.manyB 29 = some false := by kernel_rfl
theorem Sz31 : Tryz.prog.sizeIs 31 = some 5 := by kernel_rfl
theorem Mn31 : Tryz.prog.manyB 31 = some true := by kernel_rfl
theorem Zr31 : ((Tryz.prog.info? 31).bind (·.zero)).map (·.cells) = some ([.bool false, .bool false, .int .i64 0, .int .u64 0, .slice none 0 0] : List Value).toArray := by kernel_rfl
theorem Pl31 : Tryz.prog.placesOf 31 = some [(0, 1), (1, 1), (2, 1), (3, 1), (4, 1)] := by kernel_rfl
theorem Fo31_4 : Tryz.prog.fieldOff 31 4 = some 4 := by kernel_rfl
theorem Sz36 : Tryz.prog.sizeIs 36 = some 1 := by kernel_rfl
theorem Mn36 : Tryz.prog.manyB 36 = some false := by kernel_rfl
theorem Sz45 : Tryz.prog.sizeIs 45 = some 3 := by kernel_rfl
theorem Zr45 : ((Tryz.prog.info? 45).bind (·.zero)).map (·.cells) = some ([.int .i64 0, .int .i64 0, .int .i64 0] : List Value).toArray := by kernel_rfl
theorem Zs45 : ((Tryz.prog.info? 45).bind (·.zero)).map (fun z => z.cells.size) = some 3 := by kernel_rfl
theorem Ap45 : (Tryz.prog.info? 45).map (fun i => (i.size, i.bytes, (i.zero.map (fun z => z.cells.size)).getD 0)) = some (3, 24, 3) := by kernel_rfl
theorem Pl45 : Tryz.prog.placesOf 45 = some [(0, 1), (1, 1), (2, 1)] := by kernel_rfl
theorem Sz49 : Tryz.prog.sizeIs 49 = some 3 := by kernel_rfl
theorem Mn49 : Tryz.prog.manyB 49 = some true := by kernel_rfl
theorem Zr49 : ((Tryz.prog.info? 49).bind (·.zero)).map (·.cells) = some ([.int .i64 0, .int .i64 0, .int .i64 0] : List Value).toArray := by kernel_rfl
theorem Zs49 : ((Tryz.prog.info? 49).bind (·.zero)).map (fun z => z.cells.size) = some 3 := by kernel_rfl
theorem Ap49 : (Tryz.prog.info? 49).map (fun i => (i.size, i.bytes, (i.zero.map (fun z => z.cells.size)).getD 0)) = some (3, 24, 3) := by kernel_rfl
theorem Pl49 : Tryz.prog.placesOf 49 = some [(0, 1), (1, 1), (2, 1)] := by kernel_rfl
theorem Fo49_0 : Tryz.prog.fieldOff 49 0 = some 0 := by kernel_rfl
theorem Fo49_1 : Tryz.prog.fieldOff 49 1 = some 1 := by kernel_rfl
theorem Fo49_2 : Tryz.prog.fieldOff 49 2 = some 2 := by kernel_rfl
theorem Sz54 : Tryz.prog.sizeIs 54 = some 1 := by kernel_rfl
theorem Mn54 : Tryz.prog.manyB 54 = some false := by kernel_rfl
theorem Sz58 : Tryz.prog.sizeIs 58 = some 3 := by kernel_rfl
theorem Zr58 : ((Tryz.prog.info? 58).bind (·.zero)).map (·.cells) = some ([.string ⟨#[]⟩, .bool false, .bool false] : List Value).toArray := by kernel_rfl
theorem Pl58 : Tryz.prog.placesOf 58 = some [(0, 1), (1, 1), (2, 1)] := by kernel_rfl
theorem Fo58_0 : Tryz.prog.fieldOff 58 0 = some 0 := by kernel_rfl
theorem Fo58_1 : Tryz.prog.fieldOff 58 1 = some 1 := by kernel_rfl
theorem Fo58_2 : Tryz.prog.fieldOff 58 2 = some 2 := by kernel_rfl
theorem Zr65 : ((Tryz.prog.info? 65).bind (·.zero)).map (·.cells) = some ([.slice none 0 0, .bool false] : List Value).toArray := by kernel_rfl
theorem Pl65 : Tryz.prog.placesOf 65 = some [(0, 1), (1, 1)] := by kernel_rfl
theorem Fo65_0 : Tryz.prog.fieldOff 65 0 = some 0 := by kernel_rfl
theorem Fo65_1 : Tryz.prog.fieldOff 65 1 = some 1 := by kernel_rfl
theorem Fol : Tryz.prog.follows .mixedOrders = true := by kernel_rfl
theorem En7 : Ent Tryz.prog 7 := fun args w => ent_of Tryz.func7 (by kernel_rfl) rfl args w
theorem En8 : Ent Tryz.prog 8 := fun args w => ent_of Tryz.func8 (by kernel_rfl) rfl args w
theorem En10 : Ent Tryz.prog 10 := fun args w => ent_of Tryz.func10 (by kernel_rfl) rfl args w
theorem En11 : Ent Tryz.prog 11 := fun args w => ent_of Tryz.func11 (by kernel_rfl) rfl args w
theorem En12 : Ent Tryz.prog 12 := fun args w => ent_of Tryz.func12 (by kernel_rfl) rfl args w
theorem En13 : Ent Tryz.prog 13 := fun args w => ent_of Tryz.func13 (by kernel_rfl) rfl args w
theorem En15 : Ent Tryz.prog 15 := fun args w => ent_of Tryz.func15 (by kernel_rfl) rfl args w
theorem En16 : Ent Tryz.prog 16 := fun args w => ent_of Tryz.func16 (by kernel_rfl) rfl args w
theorem En17 : Ent Tryz.prog 17 := fun args w => ent_of Tryz.func17 (by kernel_rfl) rfl args w
theorem En18 : Ent Tryz.prog 18 := fun args w => ent_of Tryz.func18 (by kernel_rfl) rfl args w
theorem En19 : Ent Tryz.prog 19 := fun args w => ent_of Tryz.func19 (by kernel_rfl) rfl args w
theorem En20 : Ent Tryz.prog 20 := fun args w => ent_of Tryz.func20 (by kernel_rfl) rfl args w
theorem En23 : Ent Tryz.prog 23 := fun args w => ent_of Tryz.func23 (by kernel_rfl) rfl args w
theorem En24 : Ent Tryz.prog 24 := fun args w => ent_of Tryz.func24 (by kernel_rfl) rfl args w
theorem En25 : Ent Tryz.prog 25 := fun args w => ent_of Tryz.func25 (by kernel_rfl) rfl args w
theorem En26 : Ent Tryz.prog 26 := fun args w => ent_of Tryz.func26 (by kernel_rfl) rfl args w
theorem En27 : Ent Tryz.prog 27 := fun args w => ent_of Tryz.func27 (by kernel_rfl) rfl args w
theorem En28 : Ent Tryz.prog 28 := fun args w => ent_of Tryz.func28 (by kernel_rfl) rfl args w
theorem En45 : Ent Tryz.prog 45 := fun args w => ent_of Tryz.func45 (by kernel_rfl) rfl args w
end Go.Proofs.YtglgipggefpoiaaGreatDoor.SF
end
