/- Facts of the translation, each closed (no statement stands here). -/
import Derived.Test.YthpfhglncbkinaaDoorSy
import Derived.Test.YthpfhglncbkinaaDoorProg
namespace Go.Proofs.YthpfhglncbkinaaDoor.SF
open Go.RowKit Go.Sx
theorem Sz1 : Tryd.prog.sizeIs 1 = some 1 := by kernel_rfl
theorem Mn1 : Tryd.prog.manyB 1 = some false := by kernel_rfl
theorem Zr1 : ((Tryd.prog.info? 1).bind (·.zero)).map (·.cells) = some ([.nilFunc] : List Value).toArray := by kernel_rfl
theorem Zs1 : ((Tryd.prog.info? 1).bind (·.zero)).map (fun z => z.cells.size) = some 1 := by kernel_rfl
theorem Ap1 : (Tryd.prog.info? 1).map (fun i => (i.size, i.bytes, (i.zero.map (fun z => z.cells.size)).getD 0)) = some (1, 8, 1) := by kernel_rfl
theorem Sz2 : Tryd.prog.sizeIs 2 = some 1 := by kernel_rfl
theorem Mn2 : Tryd.prog.manyB 2 = some false := by kernel_rfl
theorem Zr2 : ((Tryd.prog.info? 2).bind (·.zero)).map (·.cells) = some ([.int .i64 0] : List Value).toArray := by kernel_rfl
theorem Zs2 : ((Tryd.prog.info? 2).bind (·.zero)).map (fun z => z.cells.size) = some 1 := by kernel_rfl
theorem Ap2 : (Tryd.prog.info? 2).map (fun i => (i.size, i.bytes, (i.zero.map (fun z => z.cells.size)).getD 0)) = some (1, 8, 1) := by kernel_rfl
theorem Sz3 : Tryd.prog.sizeIs 3 = some 1 := by kernel_rfl
theorem Mn3 : Tryd.prog.manyB 3 = some false := by kernel_rfl
theorem Zr3 : ((Tryd.prog.info? 3).bind (·.zero)).map (·.cells) = some ([.int .i64 0] : List Value).toArray := by kernel_rfl
theorem Zs3 : ((Tryd.prog.info? 3).bind (·.zero)).map (fun z => z.cells.size) = some 1 := by kernel_rfl
theorem Ap3 : (Tryd.prog.info? 3).map (fun i => (i.size, i.bytes, (i.zero.map (fun z => z.cells.size)).getD 0)) = some (1, 8, 1) := by kernel_rfl
theorem Sz4 : Tryd.prog.sizeIs 4 = some 1 := by kernel_rfl
theorem Mn4 : Tryd.prog.manyB 4 = some false := by kernel_rfl
theorem Zr4 : ((Tryd.prog.info? 4).bind (·.zero)).map (·.cells) = some ([.bool false] : List Value).toArray := by kernel_rfl
theorem Zs4 : ((Tryd.prog.info? 4).bind (·.zero)).map (fun z => z.cells.size) = some 1 := by kernel_rfl
theorem Ap4 : (Tryd.prog.info? 4).map (fun i => (i.size, i.bytes, (i.zero.map (fun z => z.cells.size)).getD 0)) = some (1, 1, 1) := by kernel_rfl
theorem Sz5 : Tryd.prog.sizeIs 5 = some 1 := by kernel_rfl
theorem Mn5 : Tryd.prog.manyB 5 = some false := by kernel_rfl
theorem Zr5 : ((Tryd.prog.info? 5).bind (·.zero)).map (·.cells) = some ([.int .u8 0] : List Value).toArray := by kernel_rfl
theorem Zs5 : ((Tryd.prog.info? 5).bind (·.zero)).map (fun z => z.cells.size) = some 1 := by kernel_rfl
theorem Ap5 : (Tryd.prog.info? 5).map (fun i => (i.size, i.bytes, (i.zero.map (fun z => z.cells.size)).getD 0)) = some (1, 1, 1) := by kernel_rfl
theorem Sz6 : Tryd.prog.sizeIs 6 = some 1 := by kernel_rfl
theorem Mn6 : Tryd.prog.manyB 6 = some false := by kernel_rfl
theorem Zr6 : ((Tryd.prog.info? 6).bind (·.zero)).map (·.cells) = some ([.int .u8 0] : List Value).toArray := by kernel_rfl
theorem Zs6 : ((Tryd.prog.info? 6).bind (·.zero)).map (fun z => z.cells.size) = some 1 := by kernel_rfl
theorem Ap6 : (Tryd.prog.info? 6).map (fun i => (i.size, i.bytes, (i.zero.map (fun z => z.cells.size)).getD 0)) = some (1, 1, 1) := by kernel_rfl
theorem Sz7 : Tryd.prog.sizeIs 7 = some 4 := by kernel_rfl
theorem Mn7 : Tryd.prog.manyB 7 = some true := by kernel_rfl
theorem Zr7 : ((Tryd.prog.info? 7).bind (·.zero)).map (·.cells) = some ([.int .i64 0, .int .i64 0, .bool false, .int .u8 0] : List Value).toArray := by kernel_rfl
theorem Zs7 : ((Tryd.prog.info? 7).bind (·.zero)).map (fun z => z.cells.size) = some 4 := by kernel_rfl
theorem Ap7 : (Tryd.prog.info? 7).map (fun i => (i.size, i.bytes, (i.zero.map (fun z => z.cells.size)).getD 0)) = some (4, 24, 4) := by kernel_rfl
theorem Pl7 : Tryd.prog.placesOf 7 = some [(0, 1), (1, 1), (2, 1), (3, 1)] := by kernel_rfl
theorem Fo7_0 : Tryd.prog.fieldOff 7 0 = some 0 := by kernel_rfl
theorem Fo7_1 : Tryd.prog.fieldOff 7 1 = some 1 := by kernel_rfl
theorem Fo7_2 : Tryd.prog.fieldOff 7 2 = some 2 := by kernel_rfl
theorem Fo7_3 : Tryd.prog.fieldOff 7 3 = some 3 := by kernel_rfl
theorem Sz8 : Tryd.prog.sizeIs 8 = some 4 := by kernel_rfl
theorem Mn8 : Tryd.prog.manyB 8 = some true := by kernel_rfl
theorem Zr8 : ((Tryd.prog.info? 8).bind (·.zero)).map (·.cells) = some ([.int .i64 0, .int .i64 0, .bool false, .int .u8 0] : List Value).toArray := by kernel_rfl
theorem Zs8 : ((Tryd.prog.info? 8).bind (·.zero)).map (fun z => z.cells.size) = some 4 := by kernel_rfl
theorem Ap8 : (Tryd.prog.info? 8).map (fun i => (i.size, i.bytes, (i.zero.map (fun z => z.cells.size)).getD 0)) = some (4, 24, 4) := by kernel_rfl
theorem Pl8 : Tryd.prog.placesOf 8 = some [(0, 1), (1, 1), (2, 1), (3, 1)] := by kernel_rfl
theorem Fo8_0 : Tryd.prog.fieldOff 8 0 = some 0 := by kernel_rfl
theorem Fo8_1 : Tryd.prog.fieldOff 8 1 = some 1 := by kernel_rfl
theorem Fo8_2 : Tryd.prog.fieldOff 8 2 = some 2 := by kernel_rfl
theorem Fo8_3 : Tryd.prog.fieldOff 8 3 = some 3 := by kernel_rfl
theorem Sz9 : Tryd.prog.sizeIs 9 = some 1 := by kernel_rfl
theorem Mn9 : Tryd.prog.manyB 9 = some false := by kernel_rfl
theorem Zr9 : ((Tryd.prog.info? 9).bind (·.zero)).map (·.cells) = some ([.string ⟨#[]⟩] : List Value).toArray := by kernel_rfl
theorem Zs9 : ((Tryd.prog.info? 9).bind (·.zero)).map (fun z => z.cells.size) = some 1 := by kernel_rfl
theorem Ap9 : (Tryd.prog.info? 9).map (fun i => (i.size, i.bytes, (i.zero.map (fun z => z.cells.size)).getD 0)) = some (1, 16, 1) := by kernel_rfl
theorem Sz10 : Tryd.prog.sizeIs 10 = some 1 := by kernel_rfl
theorem Mn10 : Tryd.prog.manyB 10 = some false := by kernel_rfl
theorem Zr10 : ((Tryd.prog.info? 10).bind (·.zero)).map (·.cells) = some ([.string ⟨#[]⟩] : List Value).toArray := by kernel_rfl
theorem Zs10 : ((Tryd.prog.info? 10).bind (·.zero)).map (fun z => z.cells.size) = some 1 := by kernel_rfl
theorem Ap10 : (Tryd.prog.info? 10).map (fun i => (i.size, i.bytes, (i.zero.map (fun z => z.cells.size)).getD 0)) = some (1, 16, 1) := by kernel_rfl
theorem Sz11 : Tryd.prog.sizeIs 11 = some 1 := by kernel_rfl
theorem Mn11 : Tryd.prog.manyB 11 = some false := by kernel_rfl
theorem Zr11 : ((Tryd.prog.info? 11).bind (·.zero)).map (·.cells) = some ([.string ⟨#[]⟩] : List Value).toArray := by kernel_rfl
theorem Zs11 : ((Tryd.prog.info? 11).bind (·.zero)).map (fun z => z.cells.size) = some 1 := by kernel_rfl
theorem Ap11 : (Tryd.prog.info? 11).map (fun i => (i.size, i.bytes, (i.zero.map (fun z => z.cells.size)).getD 0)) = some (1, 16, 1) := by kernel_rfl
theorem Sz12 : Tryd.prog.sizeIs 12 = some 1 := by kernel_rfl
theorem Mn12 : Tryd.prog.manyB 12 = some false := by kernel_rfl
theorem Zr12 : ((Tryd.prog.info? 12).bind (·.zero)).map (·.cells) = some ([.int .u64 0] : List Value).toArray := by kernel_rfl
theorem Zs12 : ((Tryd.prog.info? 12).bind (·.zero)).map (fun z => z.cells.size) = some 1 := by kernel_rfl
theorem Ap12 : (Tryd.prog.info? 12).map (fun i => (i.size, i.bytes, (i.zero.map (fun z => z.cells.size)).getD 0)) = some (1, 8, 1) := by kernel_rfl
theorem Sz13 : Tryd.prog.sizeIs 13 = some 2 := by kernel_rfl
theorem Mn13 : Tryd.prog.manyB 13 = some true := by kernel_rfl
theorem Zr13 : ((Tryd.prog.info? 13).bind (·.zero)).map (·.cells) = some ([.string ⟨#[]⟩, .int .u64 0] : List Value).toArray := by kernel_rfl
theorem Zs13 : ((Tryd.prog.info? 13).bind (·.zero)).map (fun z => z.cells.size) = some 2 := by kernel_rfl
theorem Ap13 : (Tryd.prog.info? 13).map (fun i => (i.size, i.bytes, (i.zero.map (fun z => z.cells.size)).getD 0)) = some (2, 24, 2) := by kernel_rfl
theorem Pl13 : Tryd.prog.placesOf 13 = some [(0, 1), (1, 1)] := by kernel_rfl
theorem Fo13_0 : Tryd.prog.fieldOff 13 0 = some 0 := by kernel_rfl
theorem Fo13_1 : Tryd.prog.fieldOff 13 1 = some 1 := by kernel_rfl
theorem Sz14 : Tryd.prog.sizeIs 14 = some 2 := by kernel_rfl
theorem Mn14 : Tryd.prog.manyB 14 = some true := by kernel_rfl
theorem Zr14 : ((Tryd.prog.info? 14).bind (·.zero)).map (·.cells) = some ([.string ⟨#[]⟩, .int .u64 0] : List Value).toArray := by kernel_rfl
theorem Zs14 : ((Tryd.prog.info? 14).bind (·.zero)).map (fun z => z.cells.size) = some 2 := by kernel_rfl
theorem Ap14 : (Tryd.prog.info? 14).map (fun i => (i.size, i.bytes, (i.zero.map (fun z => z.cells.size)).getD 0)) = some (2, 24, 2) := by kernel_rfl
theorem Pl14 : Tryd.prog.placesOf 14 = some [(0, 1), (1, 1)] := by kernel_rfl
theorem Fo14_0 : Tryd.prog.fieldOff 14 0 = some 0 := by kernel_rfl
theorem Fo14_1 : Tryd.prog.fieldOff 14 1 = some 1 := by kernel_rfl
theorem Sz15 : Tryd.prog.sizeIs 15 = some 1 := by kernel_rfl
theorem Mn15 : Tryd.prog.manyB 15 = some false := by kernel_rfl
theorem Zr15 : ((Tryd.prog.info? 15).bind (·.zero)).map (·.cells) = some ([.pointer none] : List Value).toArray := by kernel_rfl
theorem Zs15 : ((Tryd.prog.info? 15).bind (·.zero)).map (fun z => z.cells.size) = some 1 := by kernel_rfl
theorem Ap15 : (Tryd.prog.info? 15).map (fun i => (i.size, i.bytes, (i.zero.map (fun z => z.cells.size)).getD 0)) = some (1, 8, 1) := by kernel_rfl
theorem Sz16 : Tryd.prog.sizeIs 16 = some 1 := by kernel_rfl
theorem Mn16 : Tryd.prog.manyB 16 = some false := by kernel_rfl
theorem Zr16 : ((Tryd.prog.info? 16).bind (·.zero)).map (·.cells) = some ([.pointer none] : List Value).toArray := by kernel_rfl
theorem Zs16 : ((Tryd.prog.info? 16).bind (·.zero)).map (fun z => z.cells.size) = some 1 := by kernel_rfl
theorem Ap16 : (Tryd.prog.info? 16).map (fun i => (i.size, i.bytes, (i.zero.map (fun z => z.cells.size)).getD 0)) = some (1, 8, 1) := by kernel_rfl
theorem Sz17 : Tryd.prog.sizeIs 17 = some 1 := by kernel_rfl
theorem Mn17 : Tryd.prog.manyB 17 = some false := by kernel_rfl
theorem Zr17 : ((Tryd.prog.info? 17).bind (·.zero)).map (·.cells) = some ([.pointer none] : List Value).toArray := by kernel_rfl
theorem Zs17 : ((Tryd.prog.info? 17).bind (·.zero)).map (fun z => z.cells.size) = some 1 := by kernel_rfl
theorem Ap17 : (Tryd.prog.info? 17).map (fun i => (i.size, i.bytes, (i.zero.map (fun z => z.cells.size)).getD 0)) = some (1, 8, 1) := by kernel_rfl
theorem Sz18 : Tryd.prog.sizeIs 18 = some 1 := by kernel_rfl
theorem Mn18 : Tryd.prog.manyB 18 = some true := by kernel_rfl
theorem Zr18 : ((Tryd.prog.info? 18).bind (·.zero)).map (·.cells) = some ([.pointer none] : List Value).toArray := by kernel_rfl
theorem Zs18 : ((Tryd.prog.info? 18).bind (·.zero)).map (fun z => z.cells.size) = some 1 := by kernel_rfl
theorem Ap18 : (Tryd.prog.info? 18).map (fun i => (i.size, i.bytes, (i.zero.map (fun z => z.cells.size)).getD 0)) = some (1, 8, 1) := by kernel_rfl
theorem Pl18 : Tryd.prog.placesOf 18 = some [(0, 1)] := by kernel_rfl
theorem Fo18_0 : Tryd.prog.fieldOff 18 0 = some 0 := by kernel_rfl
theorem Sz19 : Tryd.prog.sizeIs 19 = some 1 := by kernel_rfl
theorem Mn19 : Tryd.prog.manyB 19 = some true := by kernel_rfl
theorem Zr19 : ((Tryd.prog.info? 19).bind (·.zero)).map (·.cells) = some ([.pointer none] : List Value).toArray := by kernel_rfl
theorem Zs19 : ((Tryd.prog.info? 19).bind (·.zero)).map (fun z => z.cells.size) = some 1 := by kernel_rfl
theorem Ap19 : (Tryd.prog.info? 19).map (fun i => (i.size, i.bytes, (i.zero.map (fun z => z.cells.size)).getD 0)) = some (1, 8, 1) := by kernel_rfl
theorem Pl19 : Tryd.prog.placesOf 19 = some [(0, 1)] := by kernel_rfl
theorem Fo19_0 : Tryd.prog.fieldOff 19 0 = some 0 := by kernel_rfl
theorem Sz20 : Tryd.prog.sizeIs 20 = some 1 := by kernel_rfl
theorem Mn20 : Tryd.prog.manyB 20 = some false := by kernel_rfl
theorem Zr20 : ((Tryd.prog.info? 20).bind (·.zero)).map (·.cells) = some ([.nilIface] : List Value).toArray := by kernel_rfl
theorem Zs20 : ((Tryd.prog.info? 20).bind (·.zero)).map (fun z => z.cells.size) = some 1 := by kernel_rfl
theorem Ap20 : (Tryd.prog.info? 20).map (fun i => (i.size, i.bytes, (i.zero.map (fun z => z.cells.size)).getD 0)) = some (1, 16, 1) := by kernel_rfl
theorem Sz21 : Tryd.prog.sizeIs 21 = some 1 := by kernel_rfl
theorem Mn21 : Tryd.prog.manyB 21 = some false := by kernel_rfl
theorem Zr21 : ((Tryd.prog.info? 21).bind (·.zero)).map (·.cells) = some ([.int .i32 0] : List Value).toArray := by kernel_rfl
theorem Zs21 : ((Tryd.prog.info? 21).bind (·.zero)).map (fun z => z.cells.size) = some 1 := by kernel_rfl
theorem Ap21 : (Tryd.prog.info? 21).map (fun i => (i.size, i.bytes, (i.zero.map (fun z => z.cells.size)).getD 0)) = some (1, 4, 1) := by kernel_rfl
theorem Sz22 : Tryd.prog.sizeIs 22 = some 1 := by kernel_rfl
theorem Mn22 : Tryd.prog.manyB 22 = some false := by kernel_rfl
theorem Zr22 : ((Tryd.prog.info? 22).bind (·.zero)).map (·.cells) = some ([.slice none 0 0] : List Value).toArray := by kernel_rfl
theorem Zs22 : ((Tryd.prog.info? 22).bind (·.zero)).map (fun z => z.cells.size) = some 1 := by kernel_rfl
theorem Ap22 : (Tryd.prog.info? 22).map (fun i => (i.size, i.bytes, (i.zero.map (fun z => z.cells.size)).getD 0)) = some (1, 24, 1) := by kernel_rfl
theorem Sz23 : Tryd.prog.sizeIs 23 = some 1 := by kernel_rfl
theorem Mn23 : Tryd.prog.manyB 23 = some false := by kernel_rfl
theorem Zr23 : ((Tryd.prog.info? 23).bind (·.zero)).map (·.cells) = some ([.nilFunc] : List Value).toArray := by kernel_rfl
theorem Zs23 : ((Tryd.prog.info? 23).bind (·.zero)).map (fun z => z.cells.size) = some 1 := by kernel_rfl
theorem Ap23 : (Tryd.prog.info? 23).map (fun i => (i.size, i.bytes, (i.zero.map (fun z => z.cells.size)).getD 0)) = some (1, 8, 1) := by kernel_rfl
theorem Sz24 : Tryd.prog.sizeIs 24 = some 1 := by kernel_rfl
theorem Mn24 : Tryd.prog.manyB 24 = some false := by kernel_rfl
theorem Zr24 : ((Tryd.prog.info? 24).bind (·.zero)).map (·.cells) = some ([.nilFunc] : List Value).toArray := by kernel_rfl
theorem Zs24 : ((Tryd.prog.info? 24).bind (·.zero)).map (fun z => z.cells.size) = some 1 := by kernel_rfl
theorem Ap24 : (Tryd.prog.info? 24).map (fun i => (i.size, i.bytes, (i.zero.map (fun z => z.cells.size)).getD 0)) = some (1, 8, 1) := by kernel_rfl
theorem Sz25 : Tryd.prog.sizeIs 25 = some 1 := by kernel_rfl
theorem Mn25 : Tryd.prog.manyB 25 = some false := by kernel_rfl
theorem Zr25 : ((Tryd.prog.info? 25).bind (·.zero)).map (·.cells) = some ([.slice none 0 0] : List Value).toArray := by kernel_rfl
theorem Zs25 : ((Tryd.prog.info? 25).bind (·.zero)).map (fun z => z.cells.size) = some 1 := by kernel_rfl
theorem Ap25 : (Tryd.prog.info? 25).map (fun i => (i.size, i.bytes, (i.zero.map (fun z => z.cells.size)).getD 0)) = some (1, 24, 1) := by kernel_rfl
theorem Sz26 : Tryd.prog.sizeIs 26 = some 1 := by kernel_rfl
theorem Mn26 : Tryd.prog.manyB 26 = some false := by kernel_rfl
theorem Zr26 : ((Tryd.prog.info? 26).bind (·.zero)).map (·.cells) = some ([.nilFunc] : List Value).toArray := by kernel_rfl
theorem Zs26 : ((Tryd.prog.info? 26).bind (·.zero)).map (fun z => z.cells.size) = some 1 := by kernel_rfl
theorem Ap26 : (Tryd.prog.info? 26).map (fun i => (i.size, i.bytes, (i.zero.map (fun z => z.cells.size)).getD 0)) = some (1, 8, 1) := by kernel_rfl
theorem Sz27 : Tryd.prog.sizeIs 27 = some 1 := by kernel_rfl
theorem Mn27 : Tryd.prog.manyB 27 = some false := by kernel_rfl
theorem Zr27 : ((Tryd.prog.info? 27).bind (·.zero)).map (·.cells) = some ([.nilFunc] : List Value).toArray := by kernel_rfl
theorem Zs27 : ((Tryd.prog.info? 27).bind (·.zero)).map (fun z => z.cells.size) = some 1 := by kernel_rfl
theorem Ap27 : (Tryd.prog.info? 27).map (fun i => (i.size, i.bytes, (i.zero.map (fun z => z.cells.size)).getD 0)) = some (1, 8, 1) := by kernel_rfl
theorem Sz28 : Tryd.prog.sizeIs 28 = some 1 := by kernel_rfl
theorem Mn28 : Tryd.prog.manyB 28 = some false := by kernel_rfl
theorem Zr28 : ((Tryd.prog.info? 28).bind (·.zero)).map (·.cells) = some ([.nilFunc] : List Value).toArray := by kernel_rfl
theorem Zs28 : ((Tryd.prog.info? 28).bind (·.zero)).map (fun z => z.cells.size) = some 1 := by kernel_rfl
theorem Ap28 : (Tryd.prog.info? 28).map (fun i => (i.size, i.bytes, (i.zero.map (fun z => z.cells.size)).getD 0)) = some (1, 8, 1) := by kernel_rfl
theorem Sz29 : Tryd.prog.sizeIs 29 = some 1 := by kernel_rfl
theorem Mn29 : Tryd.prog.manyB 29 = some false := by kernel_rfl
theorem Zr29 : ((Tryd.prog.info? 29).bind (·.zero)).map (·.cells) = some ([.nilFunc] : List Value).toArray := by kernel_rfl
theorem Zs29 : ((Tryd.prog.info? 29).bind (·.zero)).map (fun z => z.cells.size) = some 1 := by kernel_rfl
theorem Ap29 : (Tryd.prog.info? 29).map (fun i => (i.size, i.bytes, (i.zero.map (fun z => z.cells.size)).getD 0)) = some (1, 8, 1) := by kernel_rfl
theorem Sz30 : Tryd.prog.sizeIs 30 = some 1 := by kernel_rfl
theorem Mn30 : Tryd.prog.manyB 30 = some false := by kernel_rfl
theorem Zr30 : ((Tryd.prog.info? 30).bind (·.zero)).map (·.cells) = some ([.nilFunc] : List Value).toArray := by kernel_rfl
theorem Zs30 : ((Tryd.prog.info? 30).bind (·.zero)).map (fun z => z.cells.size) = some 1 := by kernel_rfl
theorem Ap30 : (Tryd.prog.info? 30).map (fun i => (i.size, i.bytes, (i.zero.map (fun z => z.cells.size)).getD 0)) = some (1, 8, 1) := by kernel_rfl
theorem Sz31 : Tryd.prog.sizeIs 31 = some 1 := by kernel_rfl
theorem Mn31 : Tryd.prog.manyB 31 = some false := by kernel_rfl
theorem Zr31 : ((Tryd.prog.info? 31).bind (·.zero)).map (·.cells) = some ([.nilFunc] : List Value).toArray := by kernel_rfl
theorem Zs31 : ((Tryd.prog.info? 31).bind (·.zero)).map (fun z => z.cells.size) = some 1 := by kernel_rfl
theorem Ap31 : (Tryd.prog.info? 31).map (fun i => (i.size, i.bytes, (i.zero.map (fun z => z.cells.size)).getD 0)) = some (1, 8, 1) := by kernel_rfl
theorem Sz32 : Tryd.prog.sizeIs 32 = some 1 := by kernel_rfl
theorem Mn32 : Tryd.prog.manyB 32 = some false := by kernel_rfl
theorem Zr32 : ((Tryd.prog.info? 32).bind (·.zero)).map (·.cells) = some ([.nilFunc] : List Value).toArray := by kernel_rfl
theorem Zs32 : ((Tryd.prog.info? 32).bind (·.zero)).map (fun z => z.cells.size) = some 1 := by kernel_rfl
theorem Ap32 : (Tryd.prog.info? 32).map (fun i => (i.size, i.bytes, (i.zero.map (fun z => z.cells.size)).getD 0)) = some (1, 8, 1) := by kernel_rfl
theorem Sz33 : Tryd.prog.sizeIs 33 = some 1 := by kernel_rfl
theorem Mn33 : Tryd.prog.manyB 33 = some false := by kernel_rfl
theorem Zr33 : ((Tryd.prog.info? 33).bind (·.zero)).map (·.cells) = some ([.nilFunc] : List Value).toArray := by kernel_rfl
theorem Zs33 : ((Tryd.prog.info? 33).bind (·.zero)).map (fun z => z.cells.size) = some 1 := by kernel_rfl
theorem Ap33 : (Tryd.prog.info? 33).map (fun i => (i.size, i.bytes, (i.zero.map (fun z => z.cells.size)).getD 0)) = some (1, 8, 1) := by kernel_rfl
theorem Sz34 : Tryd.prog.sizeIs 34 = some 1 := by kernel_rfl
theorem Mn34 : Tryd.prog.manyB 34 = some false := by kernel_rfl
theorem Zr34 : ((Tryd.prog.info? 34).bind (·.zero)).map (·.cells) = some ([.pointer none] : List Value).toArray := by kernel_rfl
theorem Zs34 : ((Tryd.prog.info? 34).bind (·.zero)).map (fun z => z.cells.size) = some 1 := by kernel_rfl
theorem Ap34 : (Tryd.prog.info? 34).map (fun i => (i.size, i.bytes, (i.zero.map (fun z => z.cells.size)).getD 0)) = some (1, 8, 1) := by kernel_rfl
theorem Sz35 : Tryd.prog.sizeIs 35 = some 1 := by kernel_rfl
theorem Mn35 : Tryd.prog.manyB 35 = some false := by kernel_rfl
theorem Zr35 : ((Tryd.prog.info? 35).bind (·.zero)).map (·.cells) = some ([.nilFunc] : List Value).toArray := by kernel_rfl
theorem Zs35 : ((Tryd.prog.info? 35).bind (·.zero)).map (fun z => z.cells.size) = some 1 := by kernel_rfl
theorem Ap35 : (Tryd.prog.info? 35).map (fun i => (i.size, i.bytes, (i.zero.map (fun z => z.cells.size)).getD 0)) = some (1, 8, 1) := by kernel_rfl
theorem Sz36 : Tryd.prog.sizeIs 36 = some 1 := by kernel_rfl
theorem Mn36 : Tryd.prog.manyB 36 = some false := by kernel_rfl
theorem Zr36 : ((Tryd.prog.info? 36).bind (·.zero)).map (·.cells) = some ([.nilFunc] : List Value).toArray := by kernel_rfl
theorem Zs36 : ((Tryd.prog.info? 36).bind (·.zero)).map (fun z => z.cells.size) = some 1 := by kernel_rfl
theorem Ap36 : (Tryd.prog.info? 36).map (fun i => (i.size, i.bytes, (i.zero.map (fun z => z.cells.size)).getD 0)) = some (1, 8, 1) := by kernel_rfl
theorem Sz37 : Tryd.prog.sizeIs 37 = some 1 := by kernel_rfl
theorem Mn37 : Tryd.prog.manyB 37 = some false := by kernel_rfl
theorem Zr37 : ((Tryd.prog.info? 37).bind (·.zero)).map (·.cells) = some ([.slice none 0 0] : List Value).toArray := by kernel_rfl
theorem Zs37 : ((Tryd.prog.info? 37).bind (·.zero)).map (fun z => z.cells.size) = some 1 := by kernel_rfl
theorem Ap37 : (Tryd.prog.info? 37).map (fun i => (i.size, i.bytes, (i.zero.map (fun z => z.cells.size)).getD 0)) = some (1, 24, 1) := by kernel_rfl
theorem Sz38 : Tryd.prog.sizeIs 38 = some 1 := by kernel_rfl
theorem Mn38 : Tryd.prog.manyB 38 = some false := by kernel_rfl
theorem Zr38 : ((Tryd.prog.info? 38).bind (·.zero)).map (·.cells) = some ([.int .u64 0] : List Value).toArray := by kernel_rfl
theorem Zs38 : ((Tryd.prog.info? 38).bind (·.zero)).map (fun z => z.cells.size) = some 1 := by kernel_rfl
theorem Ap38 : (Tryd.prog.info? 38).map (fun i => (i.size, i.bytes, (i.zero.map (fun z => z.cells.size)).getD 0)) = some (1, 8, 1) := by kernel_rfl
theorem Sz39 : Tryd.prog.sizeIs 39 = some 5 := by kernel_rfl
theorem Mn39 : Tryd.prog.manyB 39 = some true := by kernel_rfl
theorem Zr39 : ((Tryd.prog.info? 39).bind (·.zero)).map (·.cells) = some ([.int .i64 0, .int .i64 0, .int .i64 0, .slice none 0 0, .int .u64 0] : List Value).toArray := by kernel_rfl
theorem Zs39 : ((Tryd.prog.info? 39).bind (·.zero)).map (fun z => z.cells.size) = some 5 := by kernel_rfl
theorem Ap39 : (Tryd.prog.info? 39).map (fun i => (i.size, i.bytes, (i.zero.map (fun z => z.cells.size)).getD 0)) = some (5, 56, 5) := by kernel_rfl
theorem Pl39 : Tryd.prog.placesOf 39 = some [(0, 1), (1, 1), (2, 1), (3, 1), (4, 1)] := by kernel_rfl
theorem Fo39_0 : Tryd.prog.fieldOff 39 0 = some 0 := by kernel_rfl
theorem Fo39_1 : Tryd.prog.fieldOff 39 1 = some 1 := by kernel_rfl
theorem Fo39_2 : Tryd.prog.fieldOff 39 2 = some 2 := by kernel_rfl
theorem Fo39_3 : Tryd.prog.fieldOff 39 3 = some 3 := by kernel_rfl
theorem Fo39_4 : Tryd.prog.fieldOff 39 4 = some 4 := by kernel_rfl
theorem Sz40 : Tryd.prog.sizeIs 40 = some 5 := by kernel_rfl
theorem Mn40 : Tryd.prog.manyB 40 = some true := by kernel_rfl
theorem Zr40 : ((Tryd.prog.info? 40).bind (·.zero)).map (·.cells) = some ([.int .i64 0, .int .i64 0, .int .i64 0, .slice none 0 0, .int .u64 0] : List Value).toArray := by kernel_rfl
theorem Zs40 : ((Tryd.prog.info? 40).bind (·.zero)).map (fun z => z.cells.size) = some 5 := by kernel_rfl
theorem Ap40 : (Tryd.prog.info? 40).map (fun i => (i.size, i.bytes, (i.zero.map (fun z => z.cells.size)).getD 0)) = some (5, 56, 5) := by kernel_rfl
theorem Pl40 : Tryd.prog.placesOf 40 = some [(0, 1), (1, 1), (2, 1), (3, 1), (4, 1)] := by kernel_rfl
theorem Fo40_0 : Tryd.prog.fieldOff 40 0 = some 0 := by kernel_rfl
theorem Fo40_1 : Tryd.prog.fieldOff 40 1 = some 1 := by kernel_rfl
theorem Fo40_2 : Tryd.prog.fieldOff 40 2 = some 2 := by kernel_rfl
theorem Fo40_3 : Tryd.prog.fieldOff 40 3 = some 3 := by kernel_rfl
theorem Fo40_4 : Tryd.prog.fieldOff 40 4 = some 4 := by kernel_rfl
theorem Sz41 : Tryd.prog.sizeIs 41 = some 1 := by kernel_rfl
theorem Mn41 : Tryd.prog.manyB 41 = some false := by kernel_rfl
theorem Zr41 : ((Tryd.prog.info? 41).bind (·.zero)).map (·.cells) = some ([.nilFunc] : List Value).toArray := by kernel_rfl
theorem Zs41 : ((Tryd.prog.info? 41).bind (·.zero)).map (fun z => z.cells.size) = some 1 := by kernel_rfl
theorem Ap41 : (Tryd.prog.info? 41).map (fun i => (i.size, i.bytes, (i.zero.map (fun z => z.cells.size)).getD 0)) = some (1, 8, 1) := by kernel_rfl
theorem Sz42 : Tryd.prog.sizeIs 42 = some 1 := by kernel_rfl
theorem Mn42 : Tryd.prog.manyB 42 = some false := by kernel_rfl
theorem Zr42 : ((Tryd.prog.info? 42).bind (·.zero)).map (·.cells) = some ([.nilFunc] : List Value).toArray := by kernel_rfl
theorem Zs42 : ((Tryd.prog.info? 42).bind (·.zero)).map (fun z => z.cells.size) = some 1 := by kernel_rfl
theorem Ap42 : (Tryd.prog.info? 42).map (fun i => (i.size, i.bytes, (i.zero.map (fun z => z.cells.size)).getD 0)) = some (1, 8, 1) := by kernel_rfl
theorem Sz43 : Tryd.prog.sizeIs 43 = some 1 := by kernel_rfl
theorem Mn43 : Tryd.prog.manyB 43 = some false := by kernel_rfl
theorem Zr43 : ((Tryd.prog.info? 43).bind (·.zero)).map (·.cells) = some ([.nilFunc] : List Value).toArray := by kernel_rfl
theorem Zs43 : ((Tryd.prog.info? 43).bind (·.zero)).map (fun z => z.cells.size) = some 1 := by kernel_rfl
theorem Ap43 : (Tryd.prog.info? 43).map (fun i => (i.size, i.bytes, (i.zero.map (fun z => z.cells.size)).getD 0)) = some (1, 8, 1) := by kernel_rfl
theorem Sz44 : Tryd.prog.sizeIs 44 = some 5 := by kernel_rfl
theorem Mn44 : Tryd.prog.manyB 44 = some true := by kernel_rfl
theorem Zr44 : ((Tryd.prog.info? 44).bind (·.zero)).map (·.cells) = some ([.int .i64 0, .int .i64 0, .int .i64 0, .slice none 0 0, .int .u64 0] : List Value).toArray := by kernel_rfl
theorem Zs44 : ((Tryd.prog.info? 44).bind (·.zero)).map (fun z => z.cells.size) = some 5 := by kernel_rfl
theorem Ap44 : (Tryd.prog.info? 44).map (fun i => (i.size, i.bytes, (i.zero.map (fun z => z.cells.size)).getD 0)) = some (5, 56, 5) := by kernel_rfl
theorem Pl44 : Tryd.prog.placesOf 44 = some [(0, 1), (1, 1), (2, 1), (3, 1), (4, 1)] := by kernel_rfl
theorem Fo44_0 : Tryd.prog.fieldOff 44 0 = some 0 := by kernel_rfl
theorem Fo44_1 : Tryd.prog.fieldOff 44 1 = some 1 := by kernel_rfl
theorem Fo44_2 : Tryd.prog.fieldOff 44 2 = some 2 := by kernel_rfl
theorem Fo44_3 : Tryd.prog.fieldOff 44 3 = some 3 := by kernel_rfl
theorem Fo44_4 : Tryd.prog.fieldOff 44 4 = some 4 := by kernel_rfl
theorem Sz45 : Tryd.prog.sizeIs 45 = some 1 := by kernel_rfl
theorem Mn45 : Tryd.prog.manyB 45 = some false := by kernel_rfl
theorem Zr45 : ((Tryd.prog.info? 45).bind (·.zero)).map (·.cells) = some ([.nilFunc] : List Value).toArray := by kernel_rfl
theorem Zs45 : ((Tryd.prog.info? 45).bind (·.zero)).map (fun z => z.cells.size) = some 1 := by kernel_rfl
theorem Ap45 : (Tryd.prog.info? 45).map (fun i => (i.size, i.bytes, (i.zero.map (fun z => z.cells.size)).getD 0)) = some (1, 8, 1) := by kernel_rfl
theorem Sz46 : Tryd.prog.sizeIs 46 = some 1 := by kernel_rfl
theorem Mn46 : Tryd.prog.manyB 46 = some false := by kernel_rfl
theorem Zr46 : ((Tryd.prog.info? 46).bind (·.zero)).map (·.cells) = some ([.nilFunc] : List Value).toArray := by kernel_rfl
theorem Zs46 : ((Tryd.prog.info? 46).bind (·.zero)).map (fun z => z.cells.size) = some 1 := by kernel_rfl
theorem Ap46 : (Tryd.prog.info? 46).map (fun i => (i.size, i.bytes, (i.zero.map (fun z => z.cells.size)).getD 0)) = some (1, 8, 1) := by kernel_rfl
theorem Sz47 : Tryd.prog.sizeIs 47 = some 1 := by kernel_rfl
theorem Mn47 : Tryd.prog.manyB 47 = some false := by kernel_rfl
theorem Zr47 : ((Tryd.prog.info? 47).bind (·.zero)).map (·.cells) = some ([.nilFunc] : List Value).toArray := by kernel_rfl
theorem Zs47 : ((Tryd.prog.info? 47).bind (·.zero)).map (fun z => z.cells.size) = some 1 := by kernel_rfl
theorem Ap47 : (Tryd.prog.info? 47).map (fun i => (i.size, i.bytes, (i.zero.map (fun z => z.cells.size)).getD 0)) = some (1, 8, 1) := by kernel_rfl
theorem Sz48 : Tryd.prog.sizeIs 48 = some 1 := by kernel_rfl
theorem Mn48 : Tryd.prog.manyB 48 = some false := by kernel_rfl
theorem Zr48 : ((Tryd.prog.info? 48).bind (·.zero)).map (·.cells) = some ([.nilFunc] : List Value).toArray := by kernel_rfl
theorem Zs48 : ((Tryd.prog.info? 48).bind (·.zero)).map (fun z => z.cells.size) = some 1 := by kernel_rfl
theorem Ap48 : (Tryd.prog.info? 48).map (fun i => (i.size, i.bytes, (i.zero.map (fun z => z.cells.size)).getD 0)) = some (1, 8, 1) := by kernel_rfl
theorem Sz49 : Tryd.prog.sizeIs 49 = some 1 := by kernel_rfl
theorem Mn49 : Tryd.prog.manyB 49 = some false := by kernel_rfl
theorem Zr49 : ((Tryd.prog.info? 49).bind (·.zero)).map (·.cells) = some ([.nilFunc] : List Value).toArray := by kernel_rfl
theorem Zs49 : ((Tryd.prog.info? 49).bind (·.zero)).map (fun z => z.cells.size) = some 1 := by kernel_rfl
theorem Ap49 : (Tryd.prog.info? 49).map (fun i => (i.size, i.bytes, (i.zero.map (fun z => z.cells.size)).getD 0)) = some (1, 8, 1) := by kernel_rfl
theorem Sz50 : Tryd.prog.sizeIs 50 = some 1 := by kernel_rfl
theorem Mn50 : Tryd.prog.manyB 50 = some false := by kernel_rfl
theorem Zr50 : ((Tryd.prog.info? 50).bind (·.zero)).map (·.cells) = some ([.slice none 0 0] : List Value).toArray := by kernel_rfl
theorem Zs50 : ((Tryd.prog.info? 50).bind (·.zero)).map (fun z => z.cells.size) = some 1 := by kernel_rfl
theorem Ap50 : (Tryd.prog.info? 50).map (fun i => (i.size, i.bytes, (i.zero.map (fun z => z.cells.size)).getD 0)) = some (1, 24, 1) := by kernel_rfl
theorem Sz51 : Tryd.prog.sizeIs 51 = some 1 := by kernel_rfl
theorem Mn51 : Tryd.prog.manyB 51 = some false := by kernel_rfl
theorem Zr51 : ((Tryd.prog.info? 51).bind (·.zero)).map (·.cells) = some ([.nilFunc] : List Value).toArray := by kernel_rfl
theorem Zs51 : ((Tryd.prog.info? 51).bind (·.zero)).map (fun z => z.cells.size) = some 1 := by kernel_rfl
theorem Ap51 : (Tryd.prog.info? 51).map (fun i => (i.size, i.bytes, (i.zero.map (fun z => z.cells.size)).getD 0)) = some (1, 8, 1) := by kernel_rfl
theorem Sz52 : Tryd.prog.sizeIs 52 = some 1 := by kernel_rfl
theorem Mn52 : Tryd.prog.manyB 52 = some false := by kernel_rfl
theorem Zr52 : ((Tryd.prog.info? 52).bind (·.zero)).map (·.cells) = some ([.nilFunc] : List Value).toArray := by kernel_rfl
theorem Zs52 : ((Tryd.prog.info? 52).bind (·.zero)).map (fun z => z.cells.size) = some 1 := by kernel_rfl
theorem Ap52 : (Tryd.prog.info? 52).map (fun i => (i.size, i.bytes, (i.zero.map (fun z => z.cells.size)).getD 0)) = some (1, 8, 1) := by kernel_rfl
theorem Sz53 : Tryd.prog.sizeIs 53 = some 0 := by kernel_rfl
theorem Mn53 : Tryd.prog.manyB 53 = some true := by kernel_rfl
theorem Zr53 : ((Tryd.prog.info? 53).bind (·.zero)).map (·.cells) = some ([] : List Value).toArray := by kernel_rfl
theorem Zs53 : ((Tryd.prog.info? 53).bind (·.zero)).map (fun z => z.cells.size) = some 0 := by kernel_rfl
theorem Ap53 : (Tryd.prog.info? 53).map (fun i => (i.size, i.bytes, (i.zero.map (fun z => z.cells.size)).getD 0)) = some (0, 0, 0) := by kernel_rfl
theorem Pl53 : Tryd.prog.placesOf 53 = some [] := by kernel_rfl
theorem Sz54 : Tryd.prog.sizeIs 54 = some 0 := by kernel_rfl
theorem Mn54 : Tryd.prog.manyB 54 = some true := by kernel_rfl
theorem Zr54 : ((Tryd.prog.info? 54).bind (·.zero)).map (·.cells) = some ([] : List Value).toArray := by kernel_rfl
theorem Zs54 : ((Tryd.prog.info? 54).bind (·.zero)).map (fun z => z.cells.size) = some 0 := by kernel_rfl
theorem Ap54 : (Tryd.prog.info? 54).map (fun i => (i.size, i.bytes, (i.zero.map (fun z => z.cells.size)).getD 0)) = some (0, 0, 0) := by kernel_rfl
theorem Pl54 : Tryd.prog.placesOf 54 = some [] := by kernel_rfl
theorem Sz55 : Tryd.prog.sizeIs 55 = some 0 := by kernel_rfl
theorem Mn55 : Tryd.prog.manyB 55 = some true := by kernel_rfl
theorem Zr55 : ((Tryd.prog.info? 55).bind (·.zero)).map (·.cells) = some ([] : List Value).toArray := by kernel_rfl
theorem Zs55 : ((Tryd.prog.info? 55).bind (·.zero)).map (fun z => z.cells.size) = some 0 := by kernel_rfl
theorem Ap55 : (Tryd.prog.info? 55).map (fun i => (i.size, i.bytes, (i.zero.map (fun z => z.cells.size)).getD 0)) = some (0, 0, 0) := by kernel_rfl
theorem Pl55 : Tryd.prog.placesOf 55 = some [] := by kernel_rfl
theorem Sz56 : Tryd.prog.sizeIs 56 = some 1 := by kernel_rfl
theorem Mn56 : Tryd.prog.manyB 56 = some true := by kernel_rfl
theorem Zr56 : ((Tryd.prog.info? 56).bind (·.zero)).map (·.cells) = some ([.int .i64 0] : List Value).toArray := by kernel_rfl
theorem Zs56 : ((Tryd.prog.info? 56).bind (·.zero)).map (fun z => z.cells.size) = some 1 := by kernel_rfl
theorem Ap56 : (Tryd.prog.info? 56).map (fun i => (i.size, i.bytes, (i.zero.map (fun z => z.cells.size)).getD 0)) = some (1, 8, 1) := by kernel_rfl
theorem Pl56 : Tryd.prog.placesOf 56 = some [(0, 0), (0, 0), (0, 1)] := by kernel_rfl
theorem Fo56_2 : Tryd.prog.fieldOff 56 2 = some 0 := by kernel_rfl
theorem Sz57 : Tryd.prog.sizeIs 57 = some 1 := by kernel_rfl
theorem Mn57 : Tryd.prog.manyB 57 = some true := by kernel_rfl
theorem Zr57 : ((Tryd.prog.info? 57).bind (·.zero)).map (·.cells) = some ([.int .i64 0] : List Value).toArray := by kernel_rfl
theorem Zs57 : ((Tryd.prog.info? 57).bind (·.zero)).map (fun z => z.cells.size) = some 1 := by kernel_rfl
theorem Ap57 : (Tryd.prog.info? 57).map (fun i => (i.size, i.bytes, (i.zero.map (fun z => z.cells.size)).getD 0)) = some (1, 8, 1) := by kernel_rfl
theorem Pl57 : Tryd.prog.placesOf 57 = some [(0, 0), (0, 0), (0, 1)] := by kernel_rfl
theorem Fo57_2 : Tryd.prog.fieldOff 57 2 = some 0 := by kernel_rfl
theorem Sz58 : Tryd.prog.sizeIs 58 = some 4 := by kernel_rfl
theorem Mn58 : Tryd.prog.manyB 58 = some true := by kernel_rfl
theorem Zr58 : ((Tryd.prog.info? 58).bind (·.zero)).map (·.cells) = some ([.nilFunc, .slice none 0 0, .bool false, .int .i64 0] : List Value).toArray := by kernel_rfl
theorem Zs58 : ((Tryd.prog.info? 58).bind (·.zero)).map (fun z => z.cells.size) = some 4 := by kernel_rfl
theorem Ap58 : (Tryd.prog.info? 58).map (fun i => (i.size, i.bytes, (i.zero.map (fun z => z.cells.size)).getD 0)) = some (4, 48, 4) := by kernel_rfl
theorem Pl58 : Tryd.prog.placesOf 58 = some [(0, 1), (1, 1), (2, 1), (3, 1)] := by kernel_rfl
theorem Fo58_0 : Tryd.prog.fieldOff 58 0 = some 0 := by kernel_rfl
theorem Fo58_1 : Tryd.prog.fieldOff 58 1 = some 1 := by kernel_rfl
theorem Fo58_2 : Tryd.prog.fieldOff 58 2 = some 2 := by kernel_rfl
theorem Fo58_3 : Tryd.prog.fieldOff 58 3 = some 3 := by kernel_rfl
theorem Sz59 : Tryd.prog.sizeIs 59 = some 4 := by kernel_rfl
theorem Mn59 : Tryd.prog.manyB 59 = some true := by kernel_rfl
theorem Zr59 : ((Tryd.prog.info? 59).bind (·.zero)).map (·.cells) = some ([.nilFunc, .slice none 0 0, .bool false, .int .i64 0] : List Value).toArray := by kernel_rfl
theorem Zs59 : ((Tryd.prog.info? 59).bind (·.zero)).map (fun z => z.cells.size) = some 4 := by kernel_rfl
theorem Ap59 : (Tryd.prog.info? 59).map (fun i => (i.size, i.bytes, (i.zero.map (fun z => z.cells.size)).getD 0)) = some (4, 48, 4) := by kernel_rfl
theorem Pl59 : Tryd.prog.placesOf 59 = some [(0, 1), (1, 1), (2, 1), (3, 1)] := by kernel_rfl
theorem Fo59_0 : Tryd.prog.fieldOff 59 0 = some 0 := by kernel_rfl
theorem Fo59_1 : Tryd.prog.fieldOff 59 1 = some 1 := by kernel_rfl
theorem Fo59_2 : Tryd.prog.fieldOff 59 2 = some 2 := by kernel_rfl
theorem Fo59_3 : Tryd.prog.fieldOff 59 3 = some 3 := by kernel_rfl
theorem Sz60 : Tryd.prog.sizeIs 60 = some 1 := by kernel_rfl
theorem Mn60 : Tryd.prog.manyB 60 = some false := by kernel_rfl
theorem Zr60 : ((Tryd.prog.info? 60).bind (·.zero)).map (·.cells) = some ([.nilFunc] : List Value).toArray := by kernel_rfl
theorem Zs60 : ((Tryd.prog.info? 60).bind (·.zero)).map (fun z => z.cells.size) = some 1 := by kernel_rfl
theorem Ap60 : (Tryd.prog.info? 60).map (fun i => (i.size, i.bytes, (i.zero.map (fun z => z.cells.size)).getD 0)) = some (1, 8, 1) := by kernel_rfl
theorem Sz61 : Tryd.prog.sizeIs 61 = some 1 := by kernel_rfl
theorem Mn61 : Tryd.prog.manyB 61 = some false := by kernel_rfl
theorem Zr61 : ((Tryd.prog.info? 61).bind (·.zero)).map (·.cells) = some ([.nilFunc] : List Value).toArray := by kernel_rfl
theorem Zs61 : ((Tryd.prog.info? 61).bind (·.zero)).map (fun z => z.cells.size) = some 1 := by kernel_rfl
theorem Ap61 : (Tryd.prog.info? 61).map (fun i => (i.size, i.bytes, (i.zero.map (fun z => z.cells.size)).getD 0)) = some (1, 8, 1) := by kernel_rfl
theorem Sz62 : Tryd.prog.sizeIs 62 = some 1 := by kernel_rfl
theorem Mn62 : Tryd.prog.manyB 62 = some false := by kernel_rfl
theorem Zr62 : ((Tryd.prog.info? 62).bind (·.zero)).map (·.cells) = some ([.nilFunc] : List Value).toArray := by kernel_rfl
theorem Zs62 : ((Tryd.prog.info? 62).bind (·.zero)).map (fun z => z.cells.size) = some 1 := by kernel_rfl
theorem Ap62 : (Tryd.prog.info? 62).map (fun i => (i.size, i.bytes, (i.zero.map (fun z => z.cells.size)).getD 0)) = some (1, 8, 1) := by kernel_rfl
theorem Sz63 : Tryd.prog.sizeIs 63 = some 1 := by kernel_rfl
theorem Mn63 : Tryd.prog.manyB 63 = some false := by kernel_rfl
theorem Zr63 : ((Tryd.prog.info? 63).bind (·.zero)).map (·.cells) = some ([.nilFunc] : List Value).toArray := by kernel_rfl
theorem Zs63 : ((Tryd.prog.info? 63).bind (·.zero)).map (fun z => z.cells.size) = some 1 := by kernel_rfl
theorem Ap63 : (Tryd.prog.info? 63).map (fun i => (i.size, i.bytes, (i.zero.map (fun z => z.cells.size)).getD 0)) = some (1, 8, 1) := by kernel_rfl
theorem Sz64 : Tryd.prog.sizeIs 64 = some 8 := by kernel_rfl
theorem Mn64 : Tryd.prog.manyB 64 = some true := by kernel_rfl
theorem Zr64 : ((Tryd.prog.info? 64).bind (·.zero)).map (·.cells) = some ([.int .i64 0, .int .i64 0, .int .i64 0, .int .i64 0, .int .i64 0, .int .i64 0, .int .i64 0, .int .i64 0] : List Value).toArray := by kernel_rfl
theorem Zs64 : ((Tryd.prog.info? 64).bind (·.zero)).map (fun z => z.cells.size) = some 8 := by kernel_rfl
theorem Ap64 : (Tryd.prog.info? 64).map (fun i => (i.size, i.bytes, (i.zero.map (fun z => z.cells.size)).getD 0)) = some (8, 64, 8) := by kernel_rfl
theorem Pl64 : Tryd.prog.placesOf 64 = some [(0, 1), (1, 1), (2, 1), (3, 1), (4, 1), (5, 1), (6, 1), (7, 1)] := by kernel_rfl
theorem Sz65 : Tryd.prog.sizeIs 65 = some 9 := by kernel_rfl
theorem Mn65 : Tryd.prog.manyB 65 = some true := by kernel_rfl
theorem Zr65 : ((Tryd.prog.info? 65).bind (·.zero)).map (·.cells) = some ([.int .i64 0, .int .i64 0, .int .i64 0, .int .i64 0, .int .i64 0, .int .i64 0, .int .i64 0, .int .i64 0, .int .i64 0] : List Value).toArray := by kernel_rfl
theorem Zs65 : ((Tryd.prog.info? 65).bind (·.zero)).map (fun z => z.cells.size) = some 9 := by kernel_rfl
theorem Ap65 : (Tryd.prog.info? 65).map (fun i => (i.size, i.bytes, (i.zero.map (fun z => z.cells.size)).getD 0)) = some (9, 72, 9) := by kernel_rfl
theorem Pl65 : Tryd.prog.placesOf 65 = some [(0, 1), (1, 8)] := by kernel_rfl
theorem Fo65_0 : Tryd.prog.fieldOff 65 0 = some 0 := by kernel_rfl
theorem Fo65_1 : Tryd.prog.fieldOff 65 1 = some 1 := by kernel_rfl
theorem Sz66 : Tryd.prog.sizeIs 66 = some 9 := by kernel_rfl
theorem Mn66 : Tryd.prog.manyB 66 = some true := by kernel_rfl
theorem Zr66 : ((Tryd.prog.info? 66).bind (·.zero)).map (·.cells) = some ([.int .i64 0, .int .i64 0, .int .i64 0, .int .i64 0, .int .i64 0, .int .i64 0, .int .i64 0, .int .i64 0, .int .i64 0] : List Value).toArray := by kernel_rfl
theorem Zs66 : ((Tryd.prog.info? 66).bind (·.zero)).map (fun z => z.cells.size) = some 9 := by kernel_rfl
theorem Ap66 : (Tryd.prog.info? 66).map (fun i => (i.size, i.bytes, (i.zero.map (fun z => z.cells.size)).getD 0)) = some (9, 72, 9) := by kernel_rfl
theorem Pl66 : Tryd.prog.placesOf 66 = some [(0, 1), (1, 8)] := by kernel_rfl
theorem Fo66_0 : Tryd.prog.fieldOff 66 0 = some 0 := by kernel_rfl
theorem Fo66_1 : Tryd.prog.fieldOff 66 1 = some 1 := by kernel_rfl
theorem Sz67 : Tryd.prog.sizeIs 67 = some 1 := by kernel_rfl
theorem Mn67 : Tryd.prog.manyB 67 = some false := by kernel_rfl
theorem Zr67 : ((Tryd.prog.info? 67).bind (·.zero)).map (·.cells) = some ([.nilFunc] : List Value).toArray := by kernel_rfl
theorem Zs67 : ((Tryd.prog.info? 67).bind (·.zero)).map (fun z => z.cells.size) = some 1 := by kernel_rfl
theorem Ap67 : (Tryd.prog.info? 67).map (fun i => (i.size, i.bytes, (i.zero.map (fun z => z.cells.size)).getD 0)) = some (1, 8, 1) := by kernel_rfl
theorem Sz69 : Tryd.prog.sizeIs 69 = some 1 := by kernel_rfl
theorem Mn69 : Tryd.prog.manyB 69 = some false := by kernel_rfl
theorem Zr69 : ((Tryd.prog.info? 69).bind (·.zero)).map (·.cells) = some ([.nilFunc] : List Value).toArray := by kernel_rfl
theorem Zs69 : ((Tryd.prog.info? 69).bind (·.zero)).map (fun z => z.cells.size) = some 1 := by kernel_rfl
theorem Ap69 : (Tryd.prog.info? 69).map (fun i => (i.size, i.bytes, (i.zero.map (fun z => z.cells.size)).getD 0)) = some (1, 8, 1) := by kernel_rfl
theorem Sz70 : Tryd.prog.sizeIs 70 = some 1 := by kernel_rfl
theorem Mn70 : Tryd.prog.manyB 70 = some false := by kernel_rfl
theorem Zr70 : ((Tryd.prog.info? 70).bind (·.zero)).map (·.cells) = some ([.nilFunc] : List Value).toArray := by kernel_rfl
theorem Zs70 : ((Tryd.prog.info? 70).bind (·.zero)).map (fun z => z.cells.size) = some 1 := by kernel_rfl
theorem Ap70 : (Tryd.prog.info? 70).map (fun i => (i.size, i.bytes, (i.zero.map (fun z => z.cells.size)).getD 0)) = some (1, 8, 1) := by kernel_rfl
theorem Sz71 : Tryd.prog.sizeIs 71 = some 6 := by kernel_rfl
theorem Mn71 : Tryd.prog.manyB 71 = some true := by kernel_rfl
theorem Zr71 : ((Tryd.prog.info? 71).bind (·.zero)).map (·.cells) = some ([.int .i64 0, .int .i64 0, .int .i64 0, .int .i64 0, .int .i64 0, .int .i64 0] : List Value).toArray := by kernel_rfl
theorem Zs71 : ((Tryd.prog.info? 71).bind (·.zero)).map (fun z => z.cells.size) = some 6 := by kernel_rfl
theorem Ap71 : (Tryd.prog.info? 71).map (fun i => (i.size, i.bytes, (i.zero.map (fun z => z.cells.size)).getD 0)) = some (6, 48, 6) := by kernel_rfl
theorem Pl71 : Tryd.prog.placesOf 71 = some [(0, 1), (1, 1), (2, 1), (3, 1), (4, 1), (5, 1)] := by kernel_rfl
theorem Sz72 : Tryd.prog.sizeIs 72 = some 1 := by kernel_rfl
theorem Mn72 : Tryd.prog.manyB 72 = some false := by kernel_rfl
theorem Zr72 : ((Tryd.prog.info? 72).bind (·.zero)).map (·.cells) = some ([.nilFunc] : List Value).toArray := by kernel_rfl
theorem Zs72 : ((Tryd.prog.info? 72).bind (·.zero)).map (fun z => z.cells.size) = some 1 := by kernel_rfl
theorem Ap72 : (Tryd.prog.info? 72).map (fun i => (i.size, i.bytes, (i.zero.map (fun z => z.cells.size)).getD 0)) = some (1, 8, 1) := by kernel_rfl
theorem Sz73 : Tryd.prog.sizeIs 73 = some 1 := by kernel_rfl
theorem Mn73 : Tryd.prog.manyB 73 = some false := by kernel_rfl
theorem Zr73 : ((Tryd.prog.info? 73).bind (·.zero)).map (·.cells) = some ([.pointer none] : List Value).toArray := by kernel_rfl
theorem Zs73 : ((Tryd.prog.info? 73).bind (·.zero)).map (fun z => z.cells.size) = some 1 := by kernel_rfl
theorem Ap73 : (Tryd.prog.info? 73).map (fun i => (i.size, i.bytes, (i.zero.map (fun z => z.cells.size)).getD 0)) = some (1, 8, 1) := by kernel_rfl
theorem Sz74 : Tryd.prog.sizeIs 74 = some 1 := by kernel_rfl
theorem Mn74 : Tryd.prog.manyB 74 = some false := by kernel_rfl
theorem Zr74 : ((Tryd.prog.info? 74).bind (·.zero)).map (·.cells) = some ([.nilFunc] : List Value).toArray := by kernel_rfl
theorem Zs74 : ((Tryd.prog.info? 74).bind (·.zero)).map (fun z => z.cells.size) = some 1 := by kernel_rfl
theorem Ap74 : (Tryd.prog.info? 74).map (fun i => (i.size, i.bytes, (i.zero.map (fun z => z.cells.size)).getD 0)) = some (1, 8, 1) := by kernel_rfl
theorem Sz75 : Tryd.prog.sizeIs 75 = some 1 := by kernel_rfl
theorem Mn75 : Tryd.prog.manyB 75 = some false := by kernel_rfl
theorem Zr75 : ((Tryd.prog.info? 75).bind (·.zero)).map (·.cells) = some ([.pointer none] : List Value).toArray := by kernel_rfl
theorem Zs75 : ((Tryd.prog.info? 75).bind (·.zero)).map (fun z => z.cells.size) = some 1 := by kernel_rfl
theorem Ap75 : (Tryd.prog.info? 75).map (fun i => (i.size, i.bytes, (i.zero.map (fun z => z.cells.size)).getD 0)) = some (1, 8, 1) := by kernel_rfl
theorem Sz76 : Tryd.prog.sizeIs 76 = some 1 := by kernel_rfl
theorem Mn76 : Tryd.prog.manyB 76 = some false := by kernel_rfl
theorem Zr76 : ((Tryd.prog.info? 76).bind (·.zero)).map (·.cells) = some ([.nilFunc] : List Value).toArray := by kernel_rfl
theorem Zs76 : ((Tryd.prog.info? 76).bind (·.zero)).map (fun z => z.cells.size) = some 1 := by kernel_rfl
theorem Ap76 : (Tryd.prog.info? 76).map (fun i => (i.size, i.bytes, (i.zero.map (fun z => z.cells.size)).getD 0)) = some (1, 8, 1) := by kernel_rfl
theorem Sz77 : Tryd.prog.sizeIs 77 = some 1 := by kernel_rfl
theorem Mn77 : Tryd.prog.manyB 77 = some false := by kernel_rfl
theorem Zr77 : ((Tryd.prog.info? 77).bind (·.zero)).map (·.cells) = some ([.nilFunc] : List Value).toArray := by kernel_rfl
theorem Zs77 : ((Tryd.prog.info? 77).bind (·.zero)).map (fun z => z.cells.size) = some 1 := by kernel_rfl
theorem Ap77 : (Tryd.prog.info? 77).map (fun i => (i.size, i.bytes, (i.zero.map (fun z => z.cells.size)).getD 0)) = some (1, 8, 1) := by kernel_rfl
theorem Sz78 : Tryd.prog.sizeIs 78 = some 4 := by kernel_rfl
theorem Mn78 : Tryd.prog.manyB 78 = some true := by kernel_rfl
theorem Zr78 : ((Tryd.prog.info? 78).bind (·.zero)).map (·.cells) = some ([.pointer none, .pointer none, .pointer none, .string ⟨#[]⟩] : List Value).toArray := by kernel_rfl
theorem Zs78 : ((Tryd.prog.info? 78).bind (·.zero)).map (fun z => z.cells.size) = some 4 := by kernel_rfl
theorem Ap78 : (Tryd.prog.info? 78).map (fun i => (i.size, i.bytes, (i.zero.map (fun z => z.cells.size)).getD 0)) = some (4, 40, 4) := by kernel_rfl
theorem Pl78 : Tryd.prog.placesOf 78 = some [(0, 1), (1, 1), (2, 1), (3, 1)] := by kernel_rfl
theorem Fo78_0 : Tryd.prog.fieldOff 78 0 = some 0 := by kernel_rfl
theorem Fo78_1 : Tryd.prog.fieldOff 78 1 = some 1 := by kernel_rfl
theorem Fo78_2 : Tryd.prog.fieldOff 78 2 = some 2 := by kernel_rfl
theorem Fo78_3 : Tryd.prog.fieldOff 78 3 = some 3 := by kernel_rfl
theorem Sz79 : Tryd.prog.sizeIs 79 = some 4 := by kernel_rfl
theorem Mn79 : Tryd.prog.manyB 79 = some true := by kernel_rfl
theorem Zr79 : ((Tryd.prog.info? 79).bind (·.zero)).map (·.cells) = some ([.pointer none, .pointer none, .pointer none, .string ⟨#[]⟩] : List Value).toArray := by kernel_rfl
theorem Zs79 : ((Tryd.prog.info? 79).bind (·.zero)).map (fun z => z.cells.size) = some 4 := by kernel_rfl
theorem Ap79 : (Tryd.prog.info? 79).map (fun i => (i.size, i.bytes, (i.zero.map (fun z => z.cells.size)).getD 0)) = some (4, 40, 4) := by kernel_rfl
theorem Pl79 : Tryd.prog.placesOf 79 = some [(0, 1), (1, 1), (2, 1), (3, 1)] := by kernel_rfl
theorem Fo79_0 : Tryd.prog.fieldOff 79 0 = some 0 := by kernel_rfl
theorem Fo79_1 : Tryd.prog.fieldOff 79 1 = some 1 := by kernel_rfl
theorem Fo79_2 : Tryd.prog.fieldOff 79 2 = some 2 := by kernel_rfl
theorem Fo79_3 : Tryd.prog.fieldOff 79 3 = some 3 := by kernel_rfl
theorem Sz80 : Tryd.prog.sizeIs 80 = some 0 := by kernel_rfl
theorem Mn80 : Tryd.prog.manyB 80 = some true := by kernel_rfl
theorem Zr80 : ((Tryd.prog.info? 80).bind (·.zero)).map (·.cells) = some ([] : List Value).toArray := by kernel_rfl
theorem Zs80 : ((Tryd.prog.info? 80).bind (·.zero)).map (fun z => z.cells.size) = some 0 := by kernel_rfl
theorem Ap80 : (Tryd.prog.info? 80).map (fun i => (i.size, i.bytes, (i.zero.map (fun z => z.cells.size)).getD 0)) = some (0, 0, 0) := by kernel_rfl
theorem Pl80 : Tryd.prog.placesOf 80 = some [] := by kernel_rfl
theorem Sz81 : Tryd.prog.sizeIs 81 = some 0 := by kernel_rfl
theorem Mn81 : Tryd.prog.manyB 81 = some true := by kernel_rfl
theorem Zr81 : ((Tryd.prog.info? 81).bind (·.zero)).map (·.cells) = some ([] : List Value).toArray := by kernel_rfl
theorem Zs81 : ((Tryd.prog.info? 81).bind (·.zero)).map (fun z => z.cells.size) = some 0 := by kernel_rfl
theorem Ap81 : (Tryd.prog.info? 81).map (fun i => (i.size, i.bytes, (i.zero.map (fun z => z.cells.size)).getD 0)) = some (0, 0, 0) := by kernel_rfl
theorem Pl81 : Tryd.prog.placesOf 81 = some [(0, 0)] := by kernel_rfl
theorem Sz82 : Tryd.prog.sizeIs 82 = some 0 := by kernel_rfl
theorem Mn82 : Tryd.prog.manyB 82 = some true := by kernel_rfl
theorem Zr82 : ((Tryd.prog.info? 82).bind (·.zero)).map (·.cells) = some ([] : List Value).toArray := by kernel_rfl
theorem Zs82 : ((Tryd.prog.info? 82).bind (·.zero)).map (fun z => z.cells.size) = some 0 := by kernel_rfl
theorem Ap82 : (Tryd.prog.info? 82).map (fun i => (i.size, i.bytes, (i.zero.map (fun z => z.cells.size)).getD 0)) = some (0, 0, 0) := by kernel_rfl
theorem Pl82 : Tryd.prog.placesOf 82 = some [(0, 0)] := by kernel_rfl
theorem Sz83 : Tryd.prog.sizeIs 83 = some 1 := by kernel_rfl
theorem Mn83 : Tryd.prog.manyB 83 = some false := by kernel_rfl
theorem Zr83 : ((Tryd.prog.info? 83).bind (·.zero)).map (·.cells) = some ([.int .u32 0] : List Value).toArray := by kernel_rfl
theorem Zs83 : ((Tryd.prog.info? 83).bind (·.zero)).map (fun z => z.cells.size) = some 1 := by kernel_rfl
theorem Ap83 : (Tryd.prog.info? 83).map (fun i => (i.size, i.bytes, (i.zero.map (fun z => z.cells.size)).getD 0)) = some (1, 4, 1) := by kernel_rfl
theorem Sz84 : Tryd.prog.sizeIs 84 = some 1 := by kernel_rfl
theorem Mn84 : Tryd.prog.manyB 84 = some false := by kernel_rfl
theorem Zr84 : ((Tryd.prog.info? 84).bind (·.zero)).map (·.cells) = some ([.int .u8 0] : List Value).toArray := by kernel_rfl
theorem Zs84 : ((Tryd.prog.info? 84).bind (·.zero)).map (fun z => z.cells.size) = some 1 := by kernel_rfl
theorem Ap84 : (Tryd.prog.info? 84).map (fun i => (i.size, i.bytes, (i.zero.map (fun z => z.cells.size)).getD 0)) = some (1, 1, 1) := by kernel_rfl
theorem Sz85 : Tryd.prog.sizeIs 85 = some 1 := by kernel_rfl
theorem Mn85 : Tryd.prog.manyB 85 = some false := by kernel_rfl
theorem Zr85 : ((Tryd.prog.info? 85).bind (·.zero)).map (·.cells) = some ([.int .u8 0] : List Value).toArray := by kernel_rfl
theorem Zs85 : ((Tryd.prog.info? 85).bind (·.zero)).map (fun z => z.cells.size) = some 1 := by kernel_rfl
theorem Ap85 : (Tryd.prog.info? 85).map (fun i => (i.size, i.bytes, (i.zero.map (fun z => z.cells.size)).getD 0)) = some (1, 1, 1) := by kernel_rfl
theorem Sz86 : Tryd.prog.sizeIs 86 = some 1 := by kernel_rfl
theorem Mn86 : Tryd.prog.manyB 86 = some false := by kernel_rfl
theorem Zr86 : ((Tryd.prog.info? 86).bind (·.zero)).map (·.cells) = some ([.nilFunc] : List Value).toArray := by kernel_rfl
theorem Zs86 : ((Tryd.prog.info? 86).bind (·.zero)).map (fun z => z.cells.size) = some 1 := by kernel_rfl
theorem Ap86 : (Tryd.prog.info? 86).map (fun i => (i.size, i.bytes, (i.zero.map (fun z => z.cells.size)).getD 0)) = some (1, 8, 1) := by kernel_rfl
theorem Sz87 : Tryd.prog.sizeIs 87 = some 1 := by kernel_rfl
theorem Mn87 : Tryd.prog.manyB 87 = some false := by kernel_rfl
theorem Zr87 : ((Tryd.prog.info? 87).bind (·.zero)).map (·.cells) = some ([.pointer none] : List Value).toArray := by kernel_rfl
theorem Zs87 : ((Tryd.prog.info? 87).bind (·.zero)).map (fun z => z.cells.size) = some 1 := by kernel_rfl
theorem Ap87 : (Tryd.prog.info? 87).map (fun i => (i.size, i.bytes, (i.zero.map (fun z => z.cells.size)).getD 0)) = some (1, 8, 1) := by kernel_rfl
theorem Sz88 : Tryd.prog.sizeIs 88 = some 1 := by kernel_rfl
theorem Mn88 : Tryd.prog.manyB 88 = some false := by kernel_rfl
theorem Zr88 : ((Tryd.prog.info? 88).bind (·.zero)).map (·.cells) = some ([.int .i32 0] : List Value).toArray := by kernel_rfl
theorem Zs88 : ((Tryd.prog.info? 88).bind (·.zero)).map (fun z => z.cells.size) = some 1 := by kernel_rfl
theorem Ap88 : (Tryd.prog.info? 88).map (fun i => (i.size, i.bytes, (i.zero.map (fun z => z.cells.size)).getD 0)) = some (1, 4, 1) := by kernel_rfl
theorem Sz89 : Tryd.prog.sizeIs 89 = some 1 := by kernel_rfl
theorem Mn89 : Tryd.prog.manyB 89 = some false := by kernel_rfl
theorem Zr89 : ((Tryd.prog.info? 89).bind (·.zero)).map (·.cells) = some ([.int .i32 0] : List Value).toArray := by kernel_rfl
theorem Zs89 : ((Tryd.prog.info? 89).bind (·.zero)).map (fun z => z.cells.size) = some 1 := by kernel_rfl
theorem Ap89 : (Tryd.prog.info? 89).map (fun i => (i.size, i.bytes, (i.zero.map (fun z => z.cells.size)).getD 0)) = some (1, 4, 1) := by kernel_rfl
theorem Sz90 : Tryd.prog.sizeIs 90 = some 11 := by kernel_rfl
theorem Mn90 : Tryd.prog.manyB 90 = some true := by kernel_rfl
theorem Zr90 : ((Tryd.prog.info? 90).bind (·.zero)).map (·.cells) = some ([.int .u64 0, .int .u64 0, .int .u32 0, .int .u8 0, .int .u8 0, .int .u8 0, .int .u8 0, .nilFunc, .pointer none, .int .i32 0, .int .i32 0] : List Value).toArray := by kernel_rfl
theorem Zs90 : ((Tryd.prog.info? 90).bind (·.zero)).map (fun z => z.cells.size) = some 11 := by kernel_rfl
theorem Ap90 : (Tryd.prog.info? 90).map (fun i => (i.size, i.bytes, (i.zero.map (fun z => z.cells.size)).getD 0)) = some (11, 48, 11) := by kernel_rfl
theorem Pl90 : Tryd.prog.placesOf 90 = some [(0, 1), (1, 1), (2, 1), (3, 1), (4, 1), (5, 1), (6, 1), (7, 1), (8, 1), (9, 1), (10, 1)] := by kernel_rfl
theorem Fo90_0 : Tryd.prog.fieldOff 90 0 = some 0 := by kernel_rfl
theorem Fo90_1 : Tryd.prog.fieldOff 90 1 = some 1 := by kernel_rfl
theorem Fo90_2 : Tryd.prog.fieldOff 90 2 = some 2 := by kernel_rfl
theorem Fo90_3 : Tryd.prog.fieldOff 90 3 = some 3 := by kernel_rfl
theorem Fo90_4 : Tryd.prog.fieldOff 90 4 = some 4 := by kernel_rfl
theorem Fo90_5 : Tryd.prog.fieldOff 90 5 = some 5 := by kernel_rfl
theorem Fo90_6 : Tryd.prog.fieldOff 90 6 = some 6 := by kernel_rfl
theorem Fo90_7 : Tryd.prog.fieldOff 90 7 = some 7 := by kernel_rfl
theorem Fo90_8 : Tryd.prog.fieldOff 90 8 = some 8 := by kernel_rfl
theorem Fo90_9 : Tryd.prog.fieldOff 90 9 = some 9 := by kernel_rfl
theorem Fo90_10 : Tryd.prog.fieldOff 90 10 = some 10 := by kernel_rfl
theorem Sz91 : Tryd.prog.sizeIs 91 = some 11 := by kernel_rfl
theorem Mn91 : Tryd.prog.manyB 91 = some true := by kernel_rfl
theorem Zr91 : ((Tryd.prog.info? 91).bind (·.zero)).map (·.cells) = some ([.int .u64 0, .int .u64 0, .int .u32 0, .int .u8 0, .int .u8 0, .int .u8 0, .int .u8 0, .nilFunc, .pointer none, .int .i32 0, .int .i32 0] : List Value).toArray := by kernel_rfl
theorem Zs91 : ((Tryd.prog.info? 91).bind (·.zero)).map (fun z => z.cells.size) = some 11 := by kernel_rfl
theorem Ap91 : (Tryd.prog.info? 91).map (fun i => (i.size, i.bytes, (i.zero.map (fun z => z.cells.size)).getD 0)) = some (11, 48, 11) := by kernel_rfl
theorem Pl91 : Tryd.prog.placesOf 91 = some [(0, 1), (1, 1), (2, 1), (3, 1), (4, 1), (5, 1), (6, 1), (7, 1), (8, 1), (9, 1), (10, 1)] := by kernel_rfl
theorem Fo91_0 : Tryd.prog.fieldOff 91 0 = some 0 := by kernel_rfl
theorem Fo91_1 : Tryd.prog.fieldOff 91 1 = some 1 := by kernel_rfl
theorem Fo91_2 : Tryd.prog.fieldOff 91 2 = some 2 := by kernel_rfl
theorem Fo91_3 : Tryd.prog.fieldOff 91 3 = some 3 := by kernel_rfl
theorem Fo91_4 : Tryd.prog.fieldOff 91 4 = some 4 := by kernel_rfl
theorem Fo91_5 : Tryd.prog.fieldOff 91 5 = some 5 := by kernel_rfl
theorem Fo91_6 : Tryd.prog.fieldOff 91 6 = some 6 := by kernel_rfl
theorem Fo91_7 : Tryd.prog.fieldOff 91 7 = some 7 := by kernel_rfl
theorem Fo91_8 : Tryd.prog.fieldOff 91 8 = some 8 := by kernel_rfl
theorem Fo91_9 : Tryd.prog.fieldOff 91 9 = some 9 := by kernel_rfl
theorem Fo91_10 : Tryd.prog.fieldOff 91 10 = some 10 := by kernel_rfl
theorem Sz92 : Tryd.prog.sizeIs 92 = some 1 := by kernel_rfl
theorem Mn92 : Tryd.prog.manyB 92 = some false := by kernel_rfl
theorem Zr92 : ((Tryd.prog.info? 92).bind (·.zero)).map (·.cells) = some ([.pointer none] : List Value).toArray := by kernel_rfl
theorem Zs92 : ((Tryd.prog.info? 92).bind (·.zero)).map (fun z => z.cells.size) = some 1 := by kernel_rfl
theorem Ap92 : (Tryd.prog.info? 92).map (fun i => (i.size, i.bytes, (i.zero.map (fun z => z.cells.size)).getD 0)) = some (1, 8, 1) := by kernel_rfl
theorem Fol : Tryd.prog.follows .mixedOrders = true := by kernel_rfl
theorem En2 : Ent Tryd.prog 2 := fun args w => ent_of Tryd.func2 (by kernel_rfl) rfl args w
theorem En3 : Ent Tryd.prog 3 := fun args w => ent_of Tryd.func3 (by kernel_rfl) rfl args w
theorem En4 : Ent Tryd.prog 4 := fun args w => ent_of Tryd.func4 (by kernel_rfl) rfl args w
theorem En5 : Ent Tryd.prog 5 := fun args w => ent_of Tryd.func5 (by kernel_rfl) rfl args w
theorem En6 : Ent Tryd.prog 6 := fun args w => ent_of Tryd.func6 (by kernel_rfl) rfl args w
theorem En7 : Ent Tryd.prog 7 := fun args w => ent_of Tryd.func7 (by kernel_rfl) rfl args w
theorem En8 : Ent Tryd.prog 8 := fun args w => ent_of Tryd.func8 (by kernel_rfl) rfl args w
theorem En9 : Ent Tryd.prog 9 := fun args w => ent_of Tryd.func9 (by kernel_rfl) rfl args w
theorem En10 : Ent Tryd.prog 10 := fun args w => ent_of Tryd.func10 (by kernel_rfl) rfl args w
theorem En11 : Ent Tryd.prog 11 := fun args w => ent_of Tryd.func11 (by kernel_rfl) rfl args w
theorem En12 : Ent Tryd.prog 12 := fun args w => ent_of Tryd.func12 (by kernel_rfl) rfl args w
theorem En13 : Ent Tryd.prog 13 := fun args w => ent_of Tryd.func13 (by kernel_rfl) rfl args w
theorem En14 : Ent Tryd.prog 14 := fun args w => ent_of Tryd.func14 (by kernel_rfl) rfl args w
theorem En15 : Ent Tryd.prog 15 := fun args w => ent_of Tryd.func15 (by kernel_rfl) rfl args w
theorem En16 : Ent Tryd.prog 16 := fun args w => ent_of Tryd.func16 (by kernel_rfl) rfl args w
theorem En17 : Ent Tryd.prog 17 := fun args w => ent_of Tryd.func17 (by kernel_rfl) rfl args w
theorem En18 : Ent Tryd.prog 18 := fun args w => ent_of Tryd.func18 (by kernel_rfl) rfl args w
theorem En19 : Ent Tryd.prog 19 := fun args w => ent_of Tryd.func19 (by kernel_rfl) rfl args w
theorem En20 : Ent Tryd.prog 20 := fun args w => ent_of Tryd.func20 (by kernel_rfl) rfl args w
theorem En21 : Ent Tryd.prog 21 := fun args w => ent_of Tryd.func21 (by kernel_rfl) rfl args w
theorem En22 : Ent Tryd.prog 22 := fun args w => ent_of Tryd.func22 (by kernel_rfl) rfl args w
theorem En23 : Ent Tryd.prog 23 := fun args w => ent_of Tryd.func23 (by kernel_rfl) rfl args w
theorem En24 : Ent Tryd.prog 24 := fun args w => ent_of Tryd.func24 (by kernel_rfl) rfl args w
theorem En25 : Ent Tryd.prog 25 := fun args w => ent_of Tryd.func25 (by kernel_rfl) rfl args w
theorem En26 : Ent Tryd.prog 26 := fun args w => ent_of Tryd.func26 (by kernel_rfl) rfl args w
theorem En27 : Ent Tryd.prog 27 := fun args w => ent_of Tryd.func27 (by kernel_rfl) rfl args w
theorem En28 : Ent Tryd.prog 28 := fun args w => ent_of Tryd.func28 (by kernel_rfl) rfl args w
theorem En29 : Ent Tryd.prog 29 := fun args w => ent_of Tryd.func29 (by kernel_rfl) rfl args w
theorem En30 : Ent Tryd.prog 30 := fun args w => ent_of Tryd.func30 (by kernel_rfl) rfl args w
theorem En31 : Ent Tryd.prog 31 := fun args w => ent_of Tryd.func31 (by kernel_rfl) rfl args w
theorem En32 : Ent Tryd.prog 32 := fun args w => ent_of Tryd.func32 (by kernel_rfl) rfl args w
theorem En33 : Ent Tryd.prog 33 := fun args w => ent_of Tryd.func33 (by kernel_rfl) rfl args w
theorem En34 : Ent Tryd.prog 34 := fun args w => ent_of Tryd.func34 (by kernel_rfl) rfl args w
theorem En35 : Ent Tryd.prog 35 := fun args w => ent_of Tryd.func35 (by kernel_rfl) rfl args w
theorem En36 : Ent Tryd.prog 36 := fun args w => ent_of Tryd.func36 (by kernel_rfl) rfl args w
theorem En37 : Ent Tryd.prog 37 := fun args w => ent_of Tryd.func37 (by kernel_rfl) rfl args w
theorem En38 : Ent Tryd.prog 38 := fun args w => ent_of Tryd.func38 (by kernel_rfl) rfl args w
theorem En39 : Ent Tryd.prog 39 := fun args w => ent_of Tryd.func39 (by kernel_rfl) rfl args w
theorem En61 : Ent Tryd.prog 61 := fun args w => ent_of Tryd.func61 (by kernel_rfl) rfl args w
end Go.Proofs.YthpfhglncbkinaaDoor.SF
