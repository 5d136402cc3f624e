/- Texts of mine, put together (no statement stands here). -/
import Derived.Test.YtbcijmpkmmcdeaaDoorCMTells2
import Derived.Test.YtbcijmpkmmcdeaaDoorProg
section
namespace Go.Proofs.YtbcijmpkmmcdeaaDoor.SF
open Go.RowKit Go.Sx
theorem Sz3 : Tryd.prog.sizeIs 3 = some 1 := by kernel_rfl
theorem Mn3 : Tryd.prog.manyB 3 = some false := by kernel_rfl
theorem Zs3 : ((Tryd.prog.info? 3).bind (·.zero)).map (fun z => z.cells.size) = some 1 := by kernel_rfl
theorem Ap3 : (Tryd.prog.info? 3).map (fun i => (i.size, i.bytes, (i.zero.map (fun z => z.cells.size)).getD 0)) = some (1, 8, 1) := by kernel_rfl
theorem Sz9 : Tryd.prog.sizeIs 9 = some 1 := by kernel_rfl
theorem Mn9 : Tryd.prog.manyB 9 = some false := by kernel_rfl
theorem Sz22 : Tryd.prog.sizeIs 22 = some 1 := by kernel_rfl
theorem Mn22 : Tryd.prog.manyB 22 = some false := by kernel_rfl
theorem Sz28 : Tryd.prog.sizeIs 28 = some 2 := by kernel_rfl
theorem Mn28 : Tryd.prog.manyB 28 = some true := by kernel_rfl
theorem Zr28 : ((Tryd.prog.info? 28).bind (·.zero)).map (·.cells) = some ([.int .i64 0, .int .i64 0] : List Value).toArray := by kernel_rfl
theorem Zs28 : ((Tryd.prog.info? 28).bind (·.zero)).map (fun z => z.cells.size) = some 2 := by kernel_rfl
theorem Pl28 : Tryd.prog.placesOf 28 = some [(0, 1), (1, 1)] := by kernel_rfl
theorem Fo28_0 : Tryd.prog.fieldOff 28 0 = some 0 := by kernel_rfl
theorem Fo28_1 : Tryd.prog.fieldOff 28 1 = some 1 := by kernel_rfl
theorem Sz29 : Tryd.prog.sizeIs 29 = some 2 := by kernel_rfl
theorem Zr29 : ((Tryd.prog.info? 29).bind (·.zero)).map (·.cells) = some ([.int .i64 0, .int .i64 0] : List Value).toArray := by kernel_rfl
theorem Zs29 : ((Tryd.prog.info? 29).bind (·.zero)).map (fun z => z.cells.size) = some 2 := by kernel_rfl
theorem Ap29 : (Tryd.prog.info? 29).map (fun i => (i.size, i.bytes, (i.zero.map (fun z => z.cells.size)).getD 0)) = some (2, 16, 2) := by kernel_rfl
theorem Pl29 : Tryd.prog.placesOf 29 = some [(0, 1), (1, 1)] := by kernel_rfl
theorem Fo29_0 : Tryd.prog.fieldOff 29 0 = some 0 := by kernel_rfl
theorem Fo29_1 : Tryd.prog.fieldOff 29 1 = some 1 := by kernel_rfl
theorem Sz30 : Tryd.prog.sizeIs 30 = some 1 := by kernel_rfl
theorem Mn30 : Tryd.prog.manyB 30 = some false := by kernel_rfl
theorem Sz32 : Tryd.prog.sizeIs 32 = some 4 := by kernel_rfl
theorem Mn32 : Tryd.prog.manyB 32 = some true := by kernel_rfl
theorem Zr32 : ((Tryd.prog.info? 32).bind (·.zero)).map (·.cells) = some ([.int .i64 0, .int .i64 0, .int .i64 0, .slice none 0 0] : List Value).toArray := by kernel_rfl
theorem Pl32 : Tryd.prog.placesOf 32 = some [(0, 1), (1, 1), (2, 1), (3, 1)] := by kernel_rfl
theorem Fo32_0 : Tryd.prog.fieldOff 32 0 = some 0 := by kernel_rfl
theorem Fo32_1 : Tryd.prog.fieldOff 32 1 = some 1 := by kernel_rfl
theorem Fo32_2 : Tryd.prog.fieldOff 32 2 = some 2 := by kernel_rfl
theorem Fo32_3 : Tryd.prog.fieldOff 32 3 = some 3 := by kernel_rfl
theorem Sz36 : Tryd.prog.sizeIs 36 = some 2 := by kernel_rfl
theorem Mn36 : Tryd.prog.manyB 36 = some true := by kernel_rfl
theorem Zr36 : ((Tryd.prog.info? 36).bind (·.zero)).map (·.cells) = some ([.slice none 0 0, .slice none 0 0] : List Value).toArray := by kernel_rfl
theorem Pl36 : Tryd.prog.placesOf 36 = some [(0, 1), (1, 1)] := by kernel_rfl
theorem Sz38 : Tryd.prog.sizeIs 38 = some 5 := by kernel_rfl
theorem Mn38 : Tryd.prog.manyB 38 = some true := by kernel_rfl
theorem Zr38 : ((Tryd.prog.info? 38).bind (·.zero)).map (·.cells) = some ([.slice none 0 0, .slice none 0 0, .int .i64 0, .slice none 0 0, .bool false] : List Value).toArray := by kernel_rfl
theorem Pl38 : Tryd.prog.placesOf 38 = some [(0, 2), (2, 1), (3, 1), (4, 1)] := by kernel_rfl
theorem Fo38_0 : Tryd.prog.fieldOff 38 0 = some 0 := by kernel_rfl
theorem Sz40 : Tryd.prog.sizeIs 40 = some 1 := by kernel_rfl
theorem Mn40 : Tryd.prog.manyB 40 = some false := by kernel_rfl
theorem Sz42 : Tryd.prog.sizeIs 42 = some 4 := by kernel_rfl
theorem Mn42 : Tryd.prog.manyB 42 = some true := by kernel_rfl
theorem Zr42 : ((Tryd.prog.info? 42).bind (·.zero)).map (·.cells) = some ([.int .i64 0, .int .i64 0, .int .i64 0, .slice none 0 0] : List Value).toArray := by kernel_rfl
theorem Pl42 : Tryd.prog.placesOf 42 = some [(0, 1), (1, 1), (2, 1), (3, 1)] := by kernel_rfl
theorem Fo42_0 : Tryd.prog.fieldOff 42 0 = some 0 := by kernel_rfl
theorem Fo42_1 : Tryd.prog.fieldOff 42 1 = some 1 := by kernel_rfl
theorem Fo42_2 : Tryd.prog.fieldOff 42 2 = some 2 := by kernel_rfl
theorem Fo42_3 : Tryd.prog.fieldOff 42 3 = some 3 := by kernel_rfl
theorem Sz46 : Tryd.prog.sizeIs 46 = some 4 := by kernel_rfl
theorem Mn46 : Tryd.prog.manyB 46 = some true := by kernel_rfl
theorem Zr46 : ((Tryd.prog.info? 46).bind (·.zero)).map (·.cells) = some ([.string ⟨#[]⟩, .string ⟨#[]⟩, .int .i64 0, .string ⟨#[]⟩] : List Value).toArray := by kernel_rfl
theorem Pl46 : Tryd.prog.placesOf 46 = some [(0, 1), (1, 1), (2, 1), (3, 1)] := by kernel_rfl
theorem Fo46_0 : Tryd.prog.fieldOff 46 0 = some 0 := by kernel_rfl
theorem Fo46_1 : Tryd.prog.fieldOff 46 1 = some 1 := by kernel_rfl
theorem Sz51 : Tryd.prog.sizeIs 51 = some 2 := by kernel_rfl
theorem Mn51 : Tryd.prog.manyB 51 = some true := by kernel_rfl
theorem Zr51 : ((Tryd.prog.info? 51).bind (·.zero)).map (·.cells) = some ([.int .i64 0, .int .i64 0] : List Value).toArray := by kernel_rfl
theorem Zs51 : ((Tryd.prog.info? 51).bind (·.zero)).map (fun z => z.cells.size) = some 2 := by kernel_rfl
theorem Ap51 : (Tryd.prog.info? 51).map (fun i => (i.size, i.bytes, (i.zero.map (fun z => z.cells.size)).getD 0)) = some (2, 16, 2) := by kernel_rfl
theorem Pl51 : Tryd.prog.placesOf 51 = some [(0, 1), (1, 1)] := by kernel_rfl
theorem Fo51_0 : Tryd.prog.fieldOff 51 0 = some 0 := by kernel_rfl
theorem Fo51_1 : Tryd.prog.fieldOff 51 1 = some 1 := by kernel_rfl
theorem Sz53 : Tryd.prog.sizeIs 53 = some 1 := by kernel_rfl
theorem Mn53 : Tryd.prog.manyB 53 = some false := by kernel_rfl
theorem Sz91 : Tryd.prog.sizeIs 91 = some 2 := by kernel_rfl
theorem Mn91 : Tryd.prog.manyB 91 = some true := by kernel_rfl
theorem Zr91 : ((Tryd.prog.info? 91).bind (·.zero)).map (·.cells) = some ([.int .i64 0, .int .i64 0] : List Value).toArray := by kernel_rfl
theorem Zs91 : ((Tryd.prog.info? 91).bind (·.zero)).map (fun z => z.cells.size) = some 2 := by kernel_rfl
theorem Ap91 : (Tryd.prog.info? 91).map (fun i => (i.size, i.bytes, (i.zero.map (fun z => z.cells.size)).getD 0)) = some (2, 16, 2) := by kernel_rfl
theorem Pl91 : Tryd.prog.placesOf 91 = some [(0, 1), (1, 1)] := by kernel_rfl
theorem Fo91_0 : Tryd.prog.fieldOff 91 0 = some 0 := by kernel_rfl
theorem Fo91_1 : Tryd.prog.fieldOff 91 1 = some 1 := by kernel_rfl
theorem Sz100 : Tryd.prog.sizeIs 100 = some 1 := by kernel_rfl
theorem Mn100 : Tryd.prog.manyB 100 = some false := by kernel_rfl
theorem Zr101 : ((Tryd.prog.info? 101).bind (·.zero)).map (·.cells) = some ([.slice none 0 0, .slice none 0 0, .slice none 0 0] : List Value).toArray := by kernel_rfl
theorem Fol : Tryd.prog.follows .mixedOrders = true := by kernel_rfl
theorem En13 : Ent Tryd.prog 13 := fun args w => ent_of Tryd.func13 (by kernel_rfl) rfl args w
theorem En14 : Ent Tryd.prog 14 := fun args w => ent_of Tryd.func14 (by kernel_rfl) rfl args w
theorem En15 : Ent Tryd.prog 15 := fun args w => ent_of Tryd.func15 (by kernel_rfl) rfl args w
theorem En16 : Ent Tryd.prog 16 := fun args w => ent_of Tryd.func16 (by kernel_rfl) rfl args w
theorem En17 : Ent Tryd.prog 17 := fun args w => ent_of Tryd.func17 (by kernel_rfl) rfl args w
theorem En18 : Ent Tryd.prog 18 := fun args w => ent_of Tryd.func18 (by kernel_rfl) rfl args w
theorem En19 : Ent Tryd.prog 19 := fun args w => ent_of Tryd.func19 (by kernel_rfl) rfl args w
theorem En20 : Ent Tryd.prog 20 := fun args w => ent_of Tryd.func20 (by kernel_rfl) rfl args w
theorem En23 : Ent Tryd.prog 23 := fun args w => ent_of Tryd.func23 (by kernel_rfl) rfl args w
theorem En24 : Ent Tryd.prog 24 := fun args w => ent_of Tryd.func24 (by kernel_rfl) rfl args w
theorem En28 : Ent Tryd.prog 28 := fun args w => ent_of Tryd.func28 (by kernel_rfl) rfl args w
theorem En29 : Ent Tryd.prog 29 := fun args w => ent_of Tryd.func29 (by kernel_rfl) rfl args w
theorem En35 : Ent Tryd.prog 35 := fun args w => ent_of Tryd.func35 (by kernel_rfl) rfl args w
theorem En36 : Ent Tryd.prog 36 := fun args w => ent_of Tryd.func36 (by kernel_rfl) rfl args w
theorem En37 : Ent Tryd.prog 37 := fun args w => ent_of Tryd.func37 (by kernel_rfl) rfl args w
theorem En38 : Ent Tryd.prog 38 := fun args w => ent_of Tryd.func38 (by kernel_rfl) rfl args w
theorem En39 : Ent Tryd.prog 39 := fun args w => ent_of Tryd.func39 (by kernel_rfl) rfl args w
theorem En40 : Ent Tryd.prog 40 := fun args w => ent_of Tryd.func40 (by kernel_rfl) rfl args w
theorem En41 : Ent Tryd.prog 41 := fun args w => ent_of Tryd.func41 (by kernel_rfl) rfl args w
theorem En43 : Ent Tryd.prog 43 := fun args w => ent_of Tryd.func43 (by kernel_rfl) rfl args w
theorem En44 : Ent Tryd.prog 44 := fun args w => ent_of Tryd.func44 (by kernel_rfl) rfl args w
theorem En45 : Ent Tryd.prog 45 := fun args w => ent_of Tryd.func45 (by kernel_rfl) rfl args w
theorem En46 : Ent Tryd.prog 46 := fun args w => ent_of Tryd.func46 (by kernel_rfl) rfl args w
theorem En47 : Ent Tryd.prog 47 := fun args w => ent_of Tryd.func47 (by kernel_rfl) rfl args w
theorem En48 : Ent Tryd.prog 48 := fun args w => ent_of Tryd.func48 (by kernel_rfl) rfl args w
theorem En49 : Ent Tryd.prog 49 := fun args w => ent_of Tryd.func49 (by kernel_rfl) rfl args w
theorem En50 : Ent Tryd.prog 50 := fun args w => ent_of Tryd.func50 (by kernel_rfl) rfl args w
theorem En57 : Ent Tryd.prog 57 := fun args w => ent_of Tryd.func57 (by kernel_rfl) rfl args w
theorem En67 : Ent Tryd.prog 67 := fun args w => ent_of Tryd.func67 (by kernel_rfl) rfl args w
theorem En69 : Ent Tryd.prog 69 := fun args w => ent_of Tryd.func69 (by kernel_rfl) rfl args w
end Go.Proofs.YtbcijmpkmmcdeaaDoor.SF
end
