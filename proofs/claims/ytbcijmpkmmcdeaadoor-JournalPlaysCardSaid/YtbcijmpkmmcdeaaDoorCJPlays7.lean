/- Texts of mine, put together (no statement stands here). -/
import Derived.Test.YtbcijmpkmmcdeaaDoorCJPlays2
import Derived.Test.YtbcijmpkmmcdeaaDoorProg
section
namespace Go.Proofs.YtbcijmpkmmcdeaaDoor.SF
open Go.RowKit Go.Sx
theorem Sz3 : Tryd.prog.sizeIs 3 = some 1 := by kernel_rfl
theorem Mn3 : Tryd.prog.manyB 3 = some false := by kernel_rfl
theorem Zs3 : ((Tryd.prog.info? 3).bind (·.zero)).map (fun z => z.cells.size) = some 1 := by kernel_rfl
theorem Sz4 : Tryd.prog.sizeIs 4 = some 1 := by kernel_rfl
theorem Mn4 : Tryd.prog.manyB 4 = some false := by kernel_rfl
theorem Sz5 : Tryd.prog.sizeIs 5 = some 1 := by kernel_rfl
theorem Ap5 : (Tryd.prog.info? 5).map (fun i => (i.size, i.bytes, (i.zero.map (fun z => z.cells.size)).getD 0)) = some (1, 1, 1) := by kernel_rfl
theorem Sz9 : Tryd.prog.sizeIs 9 = some 1 := by kernel_rfl
theorem Mn9 : Tryd.prog.manyB 9 = some false := by kernel_rfl
theorem Sz22 : Tryd.prog.sizeIs 22 = some 1 := by kernel_rfl
theorem Mn22 : Tryd.prog.manyB 22 = some false := by kernel_rfl
theorem Zs22 : ((Tryd.prog.info? 22).bind (·.zero)).map (fun z => z.cells.size) = some 1 := by kernel_rfl
theorem Sz30 : Tryd.prog.sizeIs 30 = some 1 := by kernel_rfl
theorem Mn30 : Tryd.prog.manyB 30 = some false := by kernel_rfl
theorem Sz32 : Tryd.prog.sizeIs 32 = some 4 := by kernel_rfl
theorem Mn32 : Tryd.prog.manyB 32 = some true := by kernel_rfl
theorem Zr32 : ((Tryd.prog.info? 32).bind (·.zero)).map (·.cells) = some ([.int .i64 0, .int .i64 0, .int .i64 0, .slice none 0 0] : List Value).toArray := by kernel_rfl
theorem Pl32 : Tryd.prog.placesOf 32 = some [(0, 1), (1, 1), (2, 1), (3, 1)] := by kernel_rfl
theorem Fo32_0 : Tryd.prog.fieldOff 32 0 = some 0 := by kernel_rfl
theorem Fo32_1 : Tryd.prog.fieldOff 32 1 = some 1 := by kernel_rfl
theorem Fo32_2 : Tryd.prog.fieldOff 32 2 = some 2 := by kernel_rfl
theorem Fo32_3 : Tryd.prog.fieldOff 32 3 = some 3 := by kernel_rfl
theorem Sz36 : Tryd.prog.sizeIs 36 = some 2 := by kernel_rfl
theorem Mn36 : Tryd.prog.manyB 36 = some true := by kernel_rfl
theorem Zr36 : ((Tryd.prog.info? 36).bind (·.zero)).map (·.cells) = some ([.slice none 0 0, .slice none 0 0] : List Value).toArray := by kernel_rfl
theorem Pl36 : Tryd.prog.placesOf 36 = some [(0, 1), (1, 1)] := by kernel_rfl
theorem Sz38 : Tryd.prog.sizeIs 38 = some 5 := by kernel_rfl
theorem Mn38 : Tryd.prog.manyB 38 = some true := by kernel_rfl
theorem Zr38 : ((Tryd.prog.info? 38).bind (·.zero)).map (·.cells) = some ([.slice none 0 0, .slice none 0 0, .int .i64 0, .slice none 0 0, .bool false] : List Value).toArray := by kernel_rfl
theorem Pl38 : Tryd.prog.placesOf 38 = some [(0, 2), (2, 1), (3, 1), (4, 1)] := by kernel_rfl
theorem Fo38_0 : Tryd.prog.fieldOff 38 0 = some 0 := by kernel_rfl
theorem Fo38_1 : Tryd.prog.fieldOff 38 1 = some 2 := by kernel_rfl
theorem Fo38_2 : Tryd.prog.fieldOff 38 2 = some 3 := by kernel_rfl
theorem Fo38_3 : Tryd.prog.fieldOff 38 3 = some 4 := by kernel_rfl
theorem Sz40 : Tryd.prog.sizeIs 40 = some 1 := by kernel_rfl
theorem Mn40 : Tryd.prog.manyB 40 = some false := by kernel_rfl
theorem Sz42 : Tryd.prog.sizeIs 42 = some 4 := by kernel_rfl
theorem Mn42 : Tryd.prog.manyB 42 = some true := by kernel_rfl
theorem Zr42 : ((Tryd.prog.info? 42).bind (·.zero)).map (·.cells) = some ([.int .i64 0, .int .i64 0, .int .i64 0, .slice none 0 0] : List Value).toArray := by kernel_rfl
theorem Pl42 : Tryd.prog.placesOf 42 = some [(0, 1), (1, 1), (2, 1), (3, 1)] := by kernel_rfl
theorem Fo42_0 : Tryd.prog.fieldOff 42 0 = some 0 := by kernel_rfl
theorem Fo42_1 : Tryd.prog.fieldOff 42 1 = some 1 := by kernel_rfl
theorem Fo42_2 : Tryd.prog.fieldOff 42 2 = some 2 := by kernel_rfl
theorem Fo42_3 : Tryd.prog.fieldOff 42 3 = some 3 := by kernel_rfl
theorem Sz46 : Tryd.prog.sizeIs 46 = some 4 := by kernel_rfl
theorem Mn46 : Tryd.prog.manyB 46 = some true := by kernel_rfl
theorem Zr46 : ((Tryd.prog.info? 46).bind (·.zero)).map (·.cells) = some ([.string ⟨#[]⟩, .string ⟨#[]⟩, .int .i64 0, .string ⟨#[]⟩] : List Value).toArray := by kernel_rfl
theorem Pl46 : Tryd.prog.placesOf 46 = some [(0, 1), (1, 1), (2, 1), (3, 1)] := by kernel_rfl
theorem Fo46_0 : Tryd.prog.fieldOff 46 0 = some 0 := by kernel_rfl
theorem Fo46_1 : Tryd.prog.fieldOff 46 1 = some 1 := by kernel_rfl
theorem Sz51 : Tryd.prog.sizeIs 51 = some 2 := by kernel_rfl
theorem Mn51 : Tryd.prog.manyB 51 = some true := by kernel_rfl
theorem Zr51 : ((Tryd.prog.info? 51).bind (·.zero)).map (·.cells) = some ([.int .i64 0, .int .i64 0] : List Value).toArray := by kernel_rfl
theorem Zs51 : ((Tryd.prog.info? 51).bind (·.zero)).map (fun z => z.cells.size) = some 2 := by kernel_rfl
theorem Ap51 : (Tryd.prog.info? 51).map (fun i => (i.size, i.bytes, (i.zero.map (fun z => z.cells.size)).getD 0)) = some (2, 16, 2) := by kernel_rfl
theorem Pl51 : Tryd.prog.placesOf 51 = some [(0, 1), (1, 1)] := by kernel_rfl
theorem Fo51_0 : Tryd.prog.fieldOff 51 0 = some 0 := by kernel_rfl
theorem Fo51_1 : Tryd.prog.fieldOff 51 1 = some 1 := by kernel_rfl
theorem Sz53 : Tryd.prog.sizeIs 53 = some 1 := by kernel_rfl
theorem Mn53 : Tryd.prog.manyB 53 = some false := by kernel_rfl
theorem Zs53 : ((Tryd.prog.info? 53).bind (·.zero)).map (fun z => z.cells.size) = some 1 := by kernel_rfl
theorem Sz71 : Tryd.prog.sizeIs 71 = some 6 := by kernel_rfl
theorem Fo71_0 : Tryd.prog.fieldOff 71 0 = some 0 := by kernel_rfl
theorem Fo71_1 : Tryd.prog.fieldOff 71 1 = some 1 := by kernel_rfl
theorem Fo71_2 : Tryd.prog.fieldOff 71 2 = some 2 := by kernel_rfl
theorem Sz91 : Tryd.prog.sizeIs 91 = some 2 := by kernel_rfl
theorem Mn91 : Tryd.prog.manyB 91 = some true := by kernel_rfl
theorem Zr91 : ((Tryd.prog.info? 91).bind (·.zero)).map (·.cells) = some ([.int .i64 0, .int .i64 0] : List Value).toArray := by kernel_rfl
theorem Zs91 : ((Tryd.prog.info? 91).bind (·.zero)).map (fun z => z.cells.size) = some 2 := by kernel_rfl
theorem Ap91 : (Tryd.prog.info? 91).map (fun i => (i.size, i.bytes, (i.zero.map (fun z => z.cells.size)).getD 0)) = some (2, 16, 2) := by kernel_rfl
theorem Pl91 : Tryd.prog.placesOf 91 = some [(0, 1), (1, 1)] := by kernel_rfl
theorem Fo91_0 : Tryd.prog.fieldOff 91 0 = some 0 := by kernel_rfl
theorem Fo91_1 : Tryd.prog.fieldOff 91 1 = some 1 := by kernel_rfl
theorem Sz100 : Tryd.prog.sizeIs 100 = some 1 := by kernel_rfl
theorem Mn100 : Tryd.prog.manyB 100 = some false := by kernel_rfl
theorem Zr101 : ((Tryd.prog.info? 101).bind (·.zero)).map (·.cells) = some ([.slice none 0 0, .slice none 0 0, .slice none 0 0] : List Value).toArray := by kernel_rfl
theorem Fol : Tryd.prog.follows .mixedOrders = true := by kernel_rfl
theorem En16 : Ent Tryd.prog 16 := fun args w => ent_of Tryd.func16 (by kernel_rfl) rfl args w
theorem En18 : Ent Tryd.prog 18 := fun args w => ent_of Tryd.func18 (by kernel_rfl) rfl args w
theorem En21 : Ent Tryd.prog 21 := fun args w => ent_of Tryd.func21 (by kernel_rfl) rfl args w
theorem En22 : Ent Tryd.prog 22 := fun args w => ent_of Tryd.func22 (by kernel_rfl) rfl args w
theorem En23 : Ent Tryd.prog 23 := fun args w => ent_of Tryd.func23 (by kernel_rfl) rfl args w
theorem En24 : Ent Tryd.prog 24 := fun args w => ent_of Tryd.func24 (by kernel_rfl) rfl args w
theorem En25 : Ent Tryd.prog 25 := fun args w => ent_of Tryd.func25 (by kernel_rfl) rfl args w
theorem En26 : Ent Tryd.prog 26 := fun args w => ent_of Tryd.func26 (by kernel_rfl) rfl args w
theorem En27 : Ent Tryd.prog 27 := fun args w => ent_of Tryd.func27 (by kernel_rfl) rfl args w
theorem En28 : Ent Tryd.prog 28 := fun args w => ent_of Tryd.func28 (by kernel_rfl) rfl args w
theorem En29 : Ent Tryd.prog 29 := fun args w => ent_of Tryd.func29 (by kernel_rfl) rfl args w
theorem En30 : Ent Tryd.prog 30 := fun args w => ent_of Tryd.func30 (by kernel_rfl) rfl args w
theorem En31 : Ent Tryd.prog 31 := fun args w => ent_of Tryd.func31 (by kernel_rfl) rfl args w
theorem En32 : Ent Tryd.prog 32 := fun args w => ent_of Tryd.func32 (by kernel_rfl) rfl args w
theorem En33 : Ent Tryd.prog 33 := fun args w => ent_of Tryd.func33 (by kernel_rfl) rfl args w
theorem En34 : Ent Tryd.prog 34 := fun args w => ent_of Tryd.func34 (by kernel_rfl) rfl args w
theorem En35 : Ent Tryd.prog 35 := fun args w => ent_of Tryd.func35 (by kernel_rfl) rfl args w
theorem En39 : Ent Tryd.prog 39 := fun args w => ent_of Tryd.func39 (by kernel_rfl) rfl args w
theorem En40 : Ent Tryd.prog 40 := fun args w => ent_of Tryd.func40 (by kernel_rfl) rfl args w
theorem En41 : Ent Tryd.prog 41 := fun args w => ent_of Tryd.func41 (by kernel_rfl) rfl args w
theorem En43 : Ent Tryd.prog 43 := fun args w => ent_of Tryd.func43 (by kernel_rfl) rfl args w
theorem En44 : Ent Tryd.prog 44 := fun args w => ent_of Tryd.func44 (by kernel_rfl) rfl args w
theorem En45 : Ent Tryd.prog 45 := fun args w => ent_of Tryd.func45 (by kernel_rfl) rfl args w
theorem En46 : Ent Tryd.prog 46 := fun args w => ent_of Tryd.func46 (by kernel_rfl) rfl args w
theorem En47 : Ent Tryd.prog 47 := fun args w => ent_of Tryd.func47 (by kernel_rfl) rfl args w
theorem En48 : Ent Tryd.prog 48 := fun args w => ent_of Tryd.func48 (by kernel_rfl) rfl args w
theorem En49 : Ent Tryd.prog 49 := fun args w => ent_of Tryd.func49 (by kernel_rfl) rfl args w
theorem En50 : Ent Tryd.prog 50 := fun args w => ent_of Tryd.func50 (by kernel_rfl) rfl args w
theorem En51 : Ent Tryd.prog 51 := fun args w => ent_of Tryd.func51 (by kernel_rfl) rfl args w
theorem En52 : Ent Tryd.prog 52 := fun args w => ent_of Tryd.func52 (by kernel_rfl) rfl args w
theorem En53 : Ent Tryd.prog 53 := fun args w => ent_of Tryd.func53 (by kernel_rfl) rfl args w
theorem En54 : Ent Tryd.prog 54 := fun args w => ent_of Tryd.func54 (by kernel_rfl) rfl args w
theorem En55 : Ent Tryd.prog 55 := fun args w => ent_of Tryd.func55 (by kernel_rfl) rfl args w
theorem En56 : Ent Tryd.prog 56 := fun args w => ent_of Tryd.func56 (by kernel_rfl) rfl args w
theorem En57 : Ent Tryd.prog 57 := fun args w => ent_of Tryd.func57 (by kernel_rfl) rfl args w
theorem En67 : Ent Tryd.prog 67 := fun args w => ent_of Tryd.func67 (by kernel_rfl) rfl args w
theorem En69 : Ent Tryd.prog 69 := fun args w => ent_of Tryd.func69 (by kernel_rfl) rfl args w
end Go.Proofs.YtbcijmpkmmcdeaaDoor.SF
end
