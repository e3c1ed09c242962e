import Derived.Test.YtobgdeffhdefeaaDoorFwi
/- Facts of types and functions, read off the program. Printed by gen.py. -/
namespace Go.Proofs.YtobgdeffhdefeaaDoor
open Go Go.RowKit
set_option linter.unusedSimpArgs false
set_option linter.unusedVariables false

theorem mixed : Tryd.prog.follows .mixedOrders = true := by kernel_rfl
theorem sz0 : (Tryd.prog.info? 0).map (·.size) = some 1 := by kernel_rfl
theorem sz1 : (Tryd.prog.info? 1).map (·.size) = some 1 := by kernel_rfl
theorem ze1 : (Tryd.prog.info? 1).map (·.zero) = some (some (.nilFunc)) := by kernel_rfl
theorem zi1 : (Tryd.prog.info? 1).map (fun i => (i.zero, i.size, i.bytes)) = some (some (.nilFunc), 1, 8) := by kernel_rfl
theorem sz2 : (Tryd.prog.info? 2).map (·.size) = some 1 := by kernel_rfl
theorem ze2 : (Tryd.prog.info? 2).map (·.zero) = some (some (.int .i64 0)) := by kernel_rfl
theorem zi2 : (Tryd.prog.info? 2).map (fun i => (i.zero, i.size, i.bytes)) = some (some (.int .i64 0), 1, 8) := by kernel_rfl
theorem sz3 : (Tryd.prog.info? 3).map (·.size) = some 1 := by kernel_rfl
theorem ze3 : (Tryd.prog.info? 3).map (·.zero) = some (some (.int .i64 0)) := by kernel_rfl
theorem zi3 : (Tryd.prog.info? 3).map (fun i => (i.zero, i.size, i.bytes)) = some (some (.int .i64 0), 1, 8) := by kernel_rfl
theorem sz4 : (Tryd.prog.info? 4).map (·.size) = some 1 := by kernel_rfl
theorem ze4 : (Tryd.prog.info? 4).map (·.zero) = some (some (.bool false)) := by kernel_rfl
theorem zi4 : (Tryd.prog.info? 4).map (fun i => (i.zero, i.size, i.bytes)) = some (some (.bool false), 1, 1) := by kernel_rfl
theorem sz5 : (Tryd.prog.info? 5).map (·.size) = some 1 := by kernel_rfl
theorem ze5 : (Tryd.prog.info? 5).map (·.zero) = some (some (.int .u8 0)) := by kernel_rfl
theorem zi5 : (Tryd.prog.info? 5).map (fun i => (i.zero, i.size, i.bytes)) = some (some (.int .u8 0), 1, 1) := by kernel_rfl
theorem sz6 : (Tryd.prog.info? 6).map (·.size) = some 1 := by kernel_rfl
theorem ze6 : (Tryd.prog.info? 6).map (·.zero) = some (some (.int .u8 0)) := by kernel_rfl
theorem zi6 : (Tryd.prog.info? 6).map (fun i => (i.zero, i.size, i.bytes)) = some (some (.int .u8 0), 1, 1) := by kernel_rfl
theorem sz7 : (Tryd.prog.info? 7).map (·.size) = some 4 := by kernel_rfl
theorem ze7 : (Tryd.prog.info? 7).map (·.zero) = some (some (.agg #[.int .i64 0, .int .i64 0, .bool false, .int .u8 0])) := by kernel_rfl
theorem zi7 : (Tryd.prog.info? 7).map (fun i => (i.zero, i.size, i.bytes)) = some (some (.agg #[.int .i64 0, .int .i64 0, .bool false, .int .u8 0]), 4, 24) := by kernel_rfl
theorem sz8 : (Tryd.prog.info? 8).map (·.size) = some 4 := by kernel_rfl
theorem ze8 : (Tryd.prog.info? 8).map (·.zero) = some (some (.agg #[.int .i64 0, .int .i64 0, .bool false, .int .u8 0])) := by kernel_rfl
theorem zi8 : (Tryd.prog.info? 8).map (fun i => (i.zero, i.size, i.bytes)) = some (some (.agg #[.int .i64 0, .int .i64 0, .bool false, .int .u8 0]), 4, 24) := by kernel_rfl
theorem sz9 : (Tryd.prog.info? 9).map (·.size) = some 1 := by kernel_rfl
theorem ze9 : (Tryd.prog.info? 9).map (·.zero) = some (some (.string (⟨#[]⟩ : ByteArray))) := by kernel_rfl
theorem zi9 : (Tryd.prog.info? 9).map (fun i => (i.zero, i.size, i.bytes)) = some (some (.string (⟨#[]⟩ : ByteArray)), 1, 16) := by kernel_rfl
theorem sz10 : (Tryd.prog.info? 10).map (·.size) = some 1 := by kernel_rfl
theorem ze10 : (Tryd.prog.info? 10).map (·.zero) = some (some (.string (⟨#[]⟩ : ByteArray))) := by kernel_rfl
theorem zi10 : (Tryd.prog.info? 10).map (fun i => (i.zero, i.size, i.bytes)) = some (some (.string (⟨#[]⟩ : ByteArray)), 1, 16) := by kernel_rfl
theorem sz11 : (Tryd.prog.info? 11).map (·.size) = some 1 := by kernel_rfl
theorem ze11 : (Tryd.prog.info? 11).map (·.zero) = some (some (.string (⟨#[]⟩ : ByteArray))) := by kernel_rfl
theorem zi11 : (Tryd.prog.info? 11).map (fun i => (i.zero, i.size, i.bytes)) = some (some (.string (⟨#[]⟩ : ByteArray)), 1, 16) := by kernel_rfl
theorem sz12 : (Tryd.prog.info? 12).map (·.size) = some 1 := by kernel_rfl
theorem ze12 : (Tryd.prog.info? 12).map (·.zero) = some (some (.int .u64 0)) := by kernel_rfl
theorem zi12 : (Tryd.prog.info? 12).map (fun i => (i.zero, i.size, i.bytes)) = some (some (.int .u64 0), 1, 8) := by kernel_rfl
theorem sz13 : (Tryd.prog.info? 13).map (·.size) = some 2 := by kernel_rfl
theorem ze13 : (Tryd.prog.info? 13).map (·.zero) = some (some (.agg #[.string (⟨#[]⟩ : ByteArray), .int .u64 0])) := by kernel_rfl
theorem zi13 : (Tryd.prog.info? 13).map (fun i => (i.zero, i.size, i.bytes)) = some (some (.agg #[.string (⟨#[]⟩ : ByteArray), .int .u64 0]), 2, 24) := by kernel_rfl
theorem sz14 : (Tryd.prog.info? 14).map (·.size) = some 2 := by kernel_rfl
theorem ze14 : (Tryd.prog.info? 14).map (·.zero) = some (some (.agg #[.string (⟨#[]⟩ : ByteArray), .int .u64 0])) := by kernel_rfl
theorem zi14 : (Tryd.prog.info? 14).map (fun i => (i.zero, i.size, i.bytes)) = some (some (.agg #[.string (⟨#[]⟩ : ByteArray), .int .u64 0]), 2, 24) := by kernel_rfl
theorem sz15 : (Tryd.prog.info? 15).map (·.size) = some 1 := by kernel_rfl
theorem ze15 : (Tryd.prog.info? 15).map (·.zero) = some (some (.pointer none)) := by kernel_rfl
theorem zi15 : (Tryd.prog.info? 15).map (fun i => (i.zero, i.size, i.bytes)) = some (some (.pointer none), 1, 8) := by kernel_rfl
theorem sz16 : (Tryd.prog.info? 16).map (·.size) = some 1 := by kernel_rfl
theorem ze16 : (Tryd.prog.info? 16).map (·.zero) = some (some (.pointer none)) := by kernel_rfl
theorem zi16 : (Tryd.prog.info? 16).map (fun i => (i.zero, i.size, i.bytes)) = some (some (.pointer none), 1, 8) := by kernel_rfl
theorem sz17 : (Tryd.prog.info? 17).map (·.size) = some 1 := by kernel_rfl
theorem ze17 : (Tryd.prog.info? 17).map (·.zero) = some (some (.pointer none)) := by kernel_rfl
theorem zi17 : (Tryd.prog.info? 17).map (fun i => (i.zero, i.size, i.bytes)) = some (some (.pointer none), 1, 8) := by kernel_rfl
theorem sz18 : (Tryd.prog.info? 18).map (·.size) = some 1 := by kernel_rfl
theorem ze18 : (Tryd.prog.info? 18).map (·.zero) = some (some (.agg #[.pointer none])) := by kernel_rfl
theorem zi18 : (Tryd.prog.info? 18).map (fun i => (i.zero, i.size, i.bytes)) = some (some (.agg #[.pointer none]), 1, 8) := by kernel_rfl
theorem sz19 : (Tryd.prog.info? 19).map (·.size) = some 1 := by kernel_rfl
theorem ze19 : (Tryd.prog.info? 19).map (·.zero) = some (some (.agg #[.pointer none])) := by kernel_rfl
theorem zi19 : (Tryd.prog.info? 19).map (fun i => (i.zero, i.size, i.bytes)) = some (some (.agg #[.pointer none]), 1, 8) := by kernel_rfl
theorem sz20 : (Tryd.prog.info? 20).map (·.size) = some 1 := by kernel_rfl
theorem ze20 : (Tryd.prog.info? 20).map (·.zero) = some (some (.nilIface)) := by kernel_rfl
theorem zi20 : (Tryd.prog.info? 20).map (fun i => (i.zero, i.size, i.bytes)) = some (some (.nilIface), 1, 16) := by kernel_rfl
theorem sz21 : (Tryd.prog.info? 21).map (·.size) = some 1 := by kernel_rfl
theorem ze21 : (Tryd.prog.info? 21).map (·.zero) = some (some (.int .i32 0)) := by kernel_rfl
theorem zi21 : (Tryd.prog.info? 21).map (fun i => (i.zero, i.size, i.bytes)) = some (some (.int .i32 0), 1, 4) := by kernel_rfl
theorem sz22 : (Tryd.prog.info? 22).map (·.size) = some 1 := by kernel_rfl
theorem ze22 : (Tryd.prog.info? 22).map (·.zero) = some (some (.slice none 0 0)) := by kernel_rfl
theorem zi22 : (Tryd.prog.info? 22).map (fun i => (i.zero, i.size, i.bytes)) = some (some (.slice none 0 0), 1, 24) := by kernel_rfl
theorem sz23 : (Tryd.prog.info? 23).map (·.size) = some 1 := by kernel_rfl
theorem ze23 : (Tryd.prog.info? 23).map (·.zero) = some (some (.nilFunc)) := by kernel_rfl
theorem zi23 : (Tryd.prog.info? 23).map (fun i => (i.zero, i.size, i.bytes)) = some (some (.nilFunc), 1, 8) := by kernel_rfl
theorem sz24 : (Tryd.prog.info? 24).map (·.size) = some 1 := by kernel_rfl
theorem ze24 : (Tryd.prog.info? 24).map (·.zero) = some (some (.nilFunc)) := by kernel_rfl
theorem zi24 : (Tryd.prog.info? 24).map (fun i => (i.zero, i.size, i.bytes)) = some (some (.nilFunc), 1, 8) := by kernel_rfl
theorem sz25 : (Tryd.prog.info? 25).map (·.size) = some 1 := by kernel_rfl
theorem ze25 : (Tryd.prog.info? 25).map (·.zero) = some (some (.nilFunc)) := by kernel_rfl
theorem zi25 : (Tryd.prog.info? 25).map (fun i => (i.zero, i.size, i.bytes)) = some (some (.nilFunc), 1, 8) := by kernel_rfl
theorem sz26 : (Tryd.prog.info? 26).map (·.size) = some 1 := by kernel_rfl
theorem ze26 : (Tryd.prog.info? 26).map (·.zero) = some (some (.int .i64 0)) := by kernel_rfl
theorem zi26 : (Tryd.prog.info? 26).map (fun i => (i.zero, i.size, i.bytes)) = some (some (.int .i64 0), 1, 8) := by kernel_rfl
theorem sz27 : (Tryd.prog.info? 27).map (·.size) = some 1 := by kernel_rfl
theorem sz28 : (Tryd.prog.info? 28).map (·.size) = some 1 := by kernel_rfl
theorem ze28 : (Tryd.prog.info? 28).map (·.zero) = some (some (.nilFunc)) := by kernel_rfl
theorem zi28 : (Tryd.prog.info? 28).map (fun i => (i.zero, i.size, i.bytes)) = some (some (.nilFunc), 1, 8) := by kernel_rfl
theorem sz29 : (Tryd.prog.info? 29).map (·.size) = some 1 := by kernel_rfl
theorem ze29 : (Tryd.prog.info? 29).map (·.zero) = some (some (.nilFunc)) := by kernel_rfl
theorem zi29 : (Tryd.prog.info? 29).map (fun i => (i.zero, i.size, i.bytes)) = some (some (.nilFunc), 1, 8) := by kernel_rfl
theorem sz30 : (Tryd.prog.info? 30).map (·.size) = some 1 := by kernel_rfl
theorem ze30 : (Tryd.prog.info? 30).map (·.zero) = some (some (.nilFunc)) := by kernel_rfl
theorem zi30 : (Tryd.prog.info? 30).map (fun i => (i.zero, i.size, i.bytes)) = some (some (.nilFunc), 1, 8) := by kernel_rfl
theorem sz31 : (Tryd.prog.info? 31).map (·.size) = some 4 := by kernel_rfl
theorem ze31 : (Tryd.prog.info? 31).map (·.zero) = some (some (.agg #[.int .i64 0, .int .i64 0, .int .i64 0, .string (⟨#[]⟩ : ByteArray)])) := by kernel_rfl
theorem zi31 : (Tryd.prog.info? 31).map (fun i => (i.zero, i.size, i.bytes)) = some (some (.agg #[.int .i64 0, .int .i64 0, .int .i64 0, .string (⟨#[]⟩ : ByteArray)]), 4, 40) := by kernel_rfl
theorem sz32 : (Tryd.prog.info? 32).map (·.size) = some 4 := by kernel_rfl
theorem ze32 : (Tryd.prog.info? 32).map (·.zero) = some (some (.agg #[.int .i64 0, .int .i64 0, .int .i64 0, .string (⟨#[]⟩ : ByteArray)])) := by kernel_rfl
theorem zi32 : (Tryd.prog.info? 32).map (fun i => (i.zero, i.size, i.bytes)) = some (some (.agg #[.int .i64 0, .int .i64 0, .int .i64 0, .string (⟨#[]⟩ : ByteArray)]), 4, 40) := by kernel_rfl
theorem sz33 : (Tryd.prog.info? 33).map (·.size) = some 1 := by kernel_rfl
theorem ze33 : (Tryd.prog.info? 33).map (·.zero) = some (some (.nilFunc)) := by kernel_rfl
theorem zi33 : (Tryd.prog.info? 33).map (fun i => (i.zero, i.size, i.bytes)) = some (some (.nilFunc), 1, 8) := by kernel_rfl
theorem sz34 : (Tryd.prog.info? 34).map (·.size) = some 1 := by kernel_rfl
theorem sz35 : (Tryd.prog.info? 35).map (·.size) = some 1 := by kernel_rfl
theorem ze35 : (Tryd.prog.info? 35).map (·.zero) = some (some (.nilFunc)) := by kernel_rfl
theorem zi35 : (Tryd.prog.info? 35).map (fun i => (i.zero, i.size, i.bytes)) = some (some (.nilFunc), 1, 8) := by kernel_rfl
theorem sz36 : (Tryd.prog.info? 36).map (·.size) = some 1 := by kernel_rfl
theorem ze36 : (Tryd.prog.info? 36).map (·.zero) = some (some (.nilFunc)) := by kernel_rfl
theorem zi36 : (Tryd.prog.info? 36).map (fun i => (i.zero, i.size, i.bytes)) = some (some (.nilFunc), 1, 8) := by kernel_rfl
theorem sz37 : (Tryd.prog.info? 37).map (·.size) = some 1 := by kernel_rfl
theorem sz38 : (Tryd.prog.info? 38).map (·.size) = some 1 := by kernel_rfl
theorem ze38 : (Tryd.prog.info? 38).map (·.zero) = some (some (.nilFunc)) := by kernel_rfl
theorem zi38 : (Tryd.prog.info? 38).map (fun i => (i.zero, i.size, i.bytes)) = some (some (.nilFunc), 1, 8) := by kernel_rfl
theorem sz39 : (Tryd.prog.info? 39).map (·.size) = some 1 := by kernel_rfl
theorem ze39 : (Tryd.prog.info? 39).map (·.zero) = some (some (.slice none 0 0)) := by kernel_rfl
theorem zi39 : (Tryd.prog.info? 39).map (fun i => (i.zero, i.size, i.bytes)) = some (some (.slice none 0 0), 1, 24) := by kernel_rfl
theorem sz40 : (Tryd.prog.info? 40).map (·.size) = some 1 := by kernel_rfl
theorem ze40 : (Tryd.prog.info? 40).map (·.zero) = some (some (.nilFunc)) := by kernel_rfl
theorem zi40 : (Tryd.prog.info? 40).map (fun i => (i.zero, i.size, i.bytes)) = some (some (.nilFunc), 1, 8) := by kernel_rfl
theorem sz41 : (Tryd.prog.info? 41).map (·.size) = some 1 := by kernel_rfl
theorem ze41 : (Tryd.prog.info? 41).map (·.zero) = some (some (.nilFunc)) := by kernel_rfl
theorem zi41 : (Tryd.prog.info? 41).map (fun i => (i.zero, i.size, i.bytes)) = some (some (.nilFunc), 1, 8) := by kernel_rfl
theorem sz42 : (Tryd.prog.info? 42).map (·.size) = some 1 := by kernel_rfl
theorem ze42 : (Tryd.prog.info? 42).map (·.zero) = some (some (.nilFunc)) := by kernel_rfl
theorem zi42 : (Tryd.prog.info? 42).map (fun i => (i.zero, i.size, i.bytes)) = some (some (.nilFunc), 1, 8) := by kernel_rfl
theorem sz43 : (Tryd.prog.info? 43).map (·.size) = some 1 := by kernel_rfl
theorem ze43 : (Tryd.prog.info? 43).map (·.zero) = some (some (.nilFunc)) := by kernel_rfl
theorem zi43 : (Tryd.prog.info? 43).map (fun i => (i.zero, i.size, i.bytes)) = some (some (.nilFunc), 1, 8) := by kernel_rfl
theorem sz44 : (Tryd.prog.info? 44).map (·.size) = some 1 := by kernel_rfl
theorem ze44 : (Tryd.prog.info? 44).map (·.zero) = some (some (.nilFunc)) := by kernel_rfl
theorem zi44 : (Tryd.prog.info? 44).map (fun i => (i.zero, i.size, i.bytes)) = some (some (.nilFunc), 1, 8) := by kernel_rfl
theorem sz45 : (Tryd.prog.info? 45).map (·.size) = some 1 := by kernel_rfl
theorem ze45 : (Tryd.prog.info? 45).map (·.zero) = some (some (.nilFunc)) := by kernel_rfl
theorem zi45 : (Tryd.prog.info? 45).map (fun i => (i.zero, i.size, i.bytes)) = some (some (.nilFunc), 1, 8) := by kernel_rfl
theorem sz46 : (Tryd.prog.info? 46).map (·.size) = some 1 := by kernel_rfl
theorem sz47 : (Tryd.prog.info? 47).map (·.size) = some 1 := by kernel_rfl
theorem ze47 : (Tryd.prog.info? 47).map (·.zero) = some (some (.nilFunc)) := by kernel_rfl
theorem zi47 : (Tryd.prog.info? 47).map (fun i => (i.zero, i.size, i.bytes)) = some (some (.nilFunc), 1, 8) := by kernel_rfl
theorem sz48 : (Tryd.prog.info? 48).map (·.size) = some 1 := by kernel_rfl
theorem ze48 : (Tryd.prog.info? 48).map (·.zero) = some (some (.nilFunc)) := by kernel_rfl
theorem zi48 : (Tryd.prog.info? 48).map (fun i => (i.zero, i.size, i.bytes)) = some (some (.nilFunc), 1, 8) := by kernel_rfl
theorem sz49 : (Tryd.prog.info? 49).map (·.size) = some 1 := by kernel_rfl
theorem ze49 : (Tryd.prog.info? 49).map (·.zero) = some (some (.nilFunc)) := by kernel_rfl
theorem zi49 : (Tryd.prog.info? 49).map (fun i => (i.zero, i.size, i.bytes)) = some (some (.nilFunc), 1, 8) := by kernel_rfl
theorem sz50 : (Tryd.prog.info? 50).map (·.size) = some 1 := by kernel_rfl
theorem ze50 : (Tryd.prog.info? 50).map (·.zero) = some (some (.nilFunc)) := by kernel_rfl
theorem zi50 : (Tryd.prog.info? 50).map (fun i => (i.zero, i.size, i.bytes)) = some (some (.nilFunc), 1, 8) := by kernel_rfl
theorem sz51 : (Tryd.prog.info? 51).map (·.size) = some 1 := by kernel_rfl
theorem ze51 : (Tryd.prog.info? 51).map (·.zero) = some (some (.nilFunc)) := by kernel_rfl
theorem zi51 : (Tryd.prog.info? 51).map (fun i => (i.zero, i.size, i.bytes)) = some (some (.nilFunc), 1, 8) := by kernel_rfl
theorem sz52 : (Tryd.prog.info? 52).map (·.size) = some 1 := by kernel_rfl
theorem ze52 : (Tryd.prog.info? 52).map (·.zero) = some (some (.nilFunc)) := by kernel_rfl
theorem zi52 : (Tryd.prog.info? 52).map (fun i => (i.zero, i.size, i.bytes)) = some (some (.nilFunc), 1, 8) := by kernel_rfl
theorem sz53 : (Tryd.prog.info? 53).map (·.size) = some 1 := by kernel_rfl
theorem ze53 : (Tryd.prog.info? 53).map (·.zero) = some (some (.nilFunc)) := by kernel_rfl
theorem zi53 : (Tryd.prog.info? 53).map (fun i => (i.zero, i.size, i.bytes)) = some (some (.nilFunc), 1, 8) := by kernel_rfl
theorem sz54 : (Tryd.prog.info? 54).map (·.size) = some 1 := by kernel_rfl
theorem ze54 : (Tryd.prog.info? 54).map (·.zero) = some (some (.nilFunc)) := by kernel_rfl
theorem zi54 : (Tryd.prog.info? 54).map (fun i => (i.zero, i.size, i.bytes)) = some (some (.nilFunc), 1, 8) := by kernel_rfl
theorem sz55 : (Tryd.prog.info? 55).map (·.size) = some 1 := by kernel_rfl
theorem sz56 : (Tryd.prog.info? 56).map (·.size) = some 1 := by kernel_rfl
theorem ze56 : (Tryd.prog.info? 56).map (·.zero) = some (some (.nilFunc)) := by kernel_rfl
theorem zi56 : (Tryd.prog.info? 56).map (fun i => (i.zero, i.size, i.bytes)) = some (some (.nilFunc), 1, 8) := by kernel_rfl
theorem sz57 : (Tryd.prog.info? 57).map (·.size) = some 1 := by kernel_rfl
theorem ze57 : (Tryd.prog.info? 57).map (·.zero) = some (some (.nilFunc)) := by kernel_rfl
theorem zi57 : (Tryd.prog.info? 57).map (fun i => (i.zero, i.size, i.bytes)) = some (some (.nilFunc), 1, 8) := by kernel_rfl
theorem sz58 : (Tryd.prog.info? 58).map (·.size) = some 1 := by kernel_rfl
theorem ze58 : (Tryd.prog.info? 58).map (·.zero) = some (some (.nilFunc)) := by kernel_rfl
theorem zi58 : (Tryd.prog.info? 58).map (fun i => (i.zero, i.size, i.bytes)) = some (some (.nilFunc), 1, 8) := by kernel_rfl
theorem sz59 : (Tryd.prog.info? 59).map (·.size) = some 1 := by kernel_rfl
theorem ze59 : (Tryd.prog.info? 59).map (·.zero) = some (some (.nilFunc)) := by kernel_rfl
theorem zi59 : (Tryd.prog.info? 59).map (fun i => (i.zero, i.size, i.bytes)) = some (some (.nilFunc), 1, 8) := by kernel_rfl
theorem sz60 : (Tryd.prog.info? 60).map (·.size) = some 1 := by kernel_rfl
theorem ze60 : (Tryd.prog.info? 60).map (·.zero) = some (some (.nilFunc)) := by kernel_rfl
theorem zi60 : (Tryd.prog.info? 60).map (fun i => (i.zero, i.size, i.bytes)) = some (some (.nilFunc), 1, 8) := by kernel_rfl
theorem sz61 : (Tryd.prog.info? 61).map (·.size) = some 1 := by kernel_rfl
theorem ze61 : (Tryd.prog.info? 61).map (·.zero) = some (some (.nilFunc)) := by kernel_rfl
theorem zi61 : (Tryd.prog.info? 61).map (fun i => (i.zero, i.size, i.bytes)) = some (some (.nilFunc), 1, 8) := by kernel_rfl
theorem sz62 : (Tryd.prog.info? 62).map (·.size) = some 1 := by kernel_rfl
theorem ze62 : (Tryd.prog.info? 62).map (·.zero) = some (some (.nilFunc)) := by kernel_rfl
theorem zi62 : (Tryd.prog.info? 62).map (fun i => (i.zero, i.size, i.bytes)) = some (some (.nilFunc), 1, 8) := by kernel_rfl
theorem sz63 : (Tryd.prog.info? 63).map (·.size) = some 1 := by kernel_rfl
theorem ze63 : (Tryd.prog.info? 63).map (·.zero) = some (some (.nilFunc)) := by kernel_rfl
theorem zi63 : (Tryd.prog.info? 63).map (fun i => (i.zero, i.size, i.bytes)) = some (some (.nilFunc), 1, 8) := by kernel_rfl
theorem sz64 : (Tryd.prog.info? 64).map (·.size) = some 1 := by kernel_rfl
theorem ze64 : (Tryd.prog.info? 64).map (·.zero) = some (some (.nilFunc)) := by kernel_rfl
theorem zi64 : (Tryd.prog.info? 64).map (fun i => (i.zero, i.size, i.bytes)) = some (some (.nilFunc), 1, 8) := by kernel_rfl
theorem sz65 : (Tryd.prog.info? 65).map (·.size) = some 1 := by kernel_rfl
theorem ze65 : (Tryd.prog.info? 65).map (·.zero) = some (some (.nilFunc)) := by kernel_rfl
theorem zi65 : (Tryd.prog.info? 65).map (fun i => (i.zero, i.size, i.bytes)) = some (some (.nilFunc), 1, 8) := by kernel_rfl
theorem sz66 : (Tryd.prog.info? 66).map (·.size) = some 1 := by kernel_rfl
theorem ze66 : (Tryd.prog.info? 66).map (·.zero) = some (some (.slice none 0 0)) := by kernel_rfl
theorem zi66 : (Tryd.prog.info? 66).map (fun i => (i.zero, i.size, i.bytes)) = some (some (.slice none 0 0), 1, 24) := by kernel_rfl
theorem sz67 : (Tryd.prog.info? 67).map (·.size) = some 1 := by kernel_rfl
theorem sz68 : (Tryd.prog.info? 68).map (·.size) = some 1 := by kernel_rfl
theorem ze68 : (Tryd.prog.info? 68).map (·.zero) = some (some (.nilFunc)) := by kernel_rfl
theorem zi68 : (Tryd.prog.info? 68).map (fun i => (i.zero, i.size, i.bytes)) = some (some (.nilFunc), 1, 8) := by kernel_rfl
theorem sz69 : (Tryd.prog.info? 69).map (·.size) = some 1 := by kernel_rfl
theorem ze69 : (Tryd.prog.info? 69).map (·.zero) = some (some (.nilFunc)) := by kernel_rfl
theorem zi69 : (Tryd.prog.info? 69).map (fun i => (i.zero, i.size, i.bytes)) = some (some (.nilFunc), 1, 8) := by kernel_rfl
theorem sz70 : (Tryd.prog.info? 70).map (·.size) = some 1 := by kernel_rfl
theorem ze70 : (Tryd.prog.info? 70).map (·.zero) = some (some (.pointer none)) := by kernel_rfl
theorem zi70 : (Tryd.prog.info? 70).map (fun i => (i.zero, i.size, i.bytes)) = some (some (.pointer none), 1, 8) := by kernel_rfl
theorem sz71 : (Tryd.prog.info? 71).map (·.size) = some 1 := by kernel_rfl
theorem ze71 : (Tryd.prog.info? 71).map (·.zero) = some (some (.agg #[.int .i64 0])) := by kernel_rfl
theorem zi71 : (Tryd.prog.info? 71).map (fun i => (i.zero, i.size, i.bytes)) = some (some (.agg #[.int .i64 0]), 1, 8) := by kernel_rfl
theorem sz72 : (Tryd.prog.info? 72).map (·.size) = some 1 := by kernel_rfl
theorem ze72 : (Tryd.prog.info? 72).map (·.zero) = some (some (.agg #[.int .i64 0])) := by kernel_rfl
theorem zi72 : (Tryd.prog.info? 72).map (fun i => (i.zero, i.size, i.bytes)) = some (some (.agg #[.int .i64 0]), 1, 8) := by kernel_rfl
theorem sz73 : (Tryd.prog.info? 73).map (·.size) = some 8 := by kernel_rfl
theorem ze73 : (Tryd.prog.info? 73).map (·.zero) = some (some (.agg #[.int .i64 0, .slice none 0 0, .slice none 0 0, .slice none 0 0, .int .i64 0, .int .i64 0, .int .i64 0, .string (⟨#[]⟩ : ByteArray)])) := by kernel_rfl
theorem zi73 : (Tryd.prog.info? 73).map (fun i => (i.zero, i.size, i.bytes)) = some (some (.agg #[.int .i64 0, .slice none 0 0, .slice none 0 0, .slice none 0 0, .int .i64 0, .int .i64 0, .int .i64 0, .string (⟨#[]⟩ : ByteArray)]), 8, 120) := by kernel_rfl
theorem sz74 : (Tryd.prog.info? 74).map (·.size) = some 8 := by kernel_rfl
theorem ze74 : (Tryd.prog.info? 74).map (·.zero) = some (some (.agg #[.int .i64 0, .slice none 0 0, .slice none 0 0, .slice none 0 0, .int .i64 0, .int .i64 0, .int .i64 0, .string (⟨#[]⟩ : ByteArray)])) := by kernel_rfl
theorem zi74 : (Tryd.prog.info? 74).map (fun i => (i.zero, i.size, i.bytes)) = some (some (.agg #[.int .i64 0, .slice none 0 0, .slice none 0 0, .slice none 0 0, .int .i64 0, .int .i64 0, .int .i64 0, .string (⟨#[]⟩ : ByteArray)]), 8, 120) := by kernel_rfl
theorem sz75 : (Tryd.prog.info? 75).map (·.size) = some 1 := by kernel_rfl
theorem ze75 : (Tryd.prog.info? 75).map (·.zero) = some (some (.nilFunc)) := by kernel_rfl
theorem zi75 : (Tryd.prog.info? 75).map (fun i => (i.zero, i.size, i.bytes)) = some (some (.nilFunc), 1, 8) := by kernel_rfl
theorem sz76 : (Tryd.prog.info? 76).map (·.size) = some 1 := by kernel_rfl
theorem ze76 : (Tryd.prog.info? 76).map (·.zero) = some (some (.nilFunc)) := by kernel_rfl
theorem zi76 : (Tryd.prog.info? 76).map (fun i => (i.zero, i.size, i.bytes)) = some (some (.nilFunc), 1, 8) := by kernel_rfl
theorem sz77 : (Tryd.prog.info? 77).map (·.size) = some 2 := by kernel_rfl
theorem ze77 : (Tryd.prog.info? 77).map (·.zero) = some (some (.agg #[.nilFunc, .nilFunc])) := by kernel_rfl
theorem zi77 : (Tryd.prog.info? 77).map (fun i => (i.zero, i.size, i.bytes)) = some (some (.agg #[.nilFunc, .nilFunc]), 2, 16) := by kernel_rfl
theorem sz78 : (Tryd.prog.info? 78).map (·.size) = some 2 := by kernel_rfl
theorem ze78 : (Tryd.prog.info? 78).map (·.zero) = some (some (.agg #[.nilFunc, .nilFunc])) := by kernel_rfl
theorem zi78 : (Tryd.prog.info? 78).map (fun i => (i.zero, i.size, i.bytes)) = some (some (.agg #[.nilFunc, .nilFunc]), 2, 16) := by kernel_rfl
theorem sz79 : (Tryd.prog.info? 79).map (·.size) = some 14 := by kernel_rfl
theorem ze79 : (Tryd.prog.info? 79).map (·.zero) = some (some (.agg #[.nilFunc, .nilFunc, .nilFunc, .nilFunc, .nilFunc, .nilFunc, .nilFunc, .nilFunc, .nilFunc, .nilFunc, .nilFunc, .nilFunc, .nilFunc, .nilFunc])) := by kernel_rfl
theorem zi79 : (Tryd.prog.info? 79).map (fun i => (i.zero, i.size, i.bytes)) = some (some (.agg #[.nilFunc, .nilFunc, .nilFunc, .nilFunc, .nilFunc, .nilFunc, .nilFunc, .nilFunc, .nilFunc, .nilFunc, .nilFunc, .nilFunc, .nilFunc, .nilFunc]), 14, 112) := by kernel_rfl
theorem sz80 : (Tryd.prog.info? 80).map (·.size) = some 1 := by kernel_rfl
theorem ze80 : (Tryd.prog.info? 80).map (·.zero) = some (some (.nilFunc)) := by kernel_rfl
theorem zi80 : (Tryd.prog.info? 80).map (fun i => (i.zero, i.size, i.bytes)) = some (some (.nilFunc), 1, 8) := by kernel_rfl
theorem sz81 : (Tryd.prog.info? 81).map (·.size) = some 1 := by kernel_rfl
theorem ze81 : (Tryd.prog.info? 81).map (·.zero) = some (some (.nilFunc)) := by kernel_rfl
theorem zi81 : (Tryd.prog.info? 81).map (fun i => (i.zero, i.size, i.bytes)) = some (some (.nilFunc), 1, 8) := by kernel_rfl
theorem sz82 : (Tryd.prog.info? 82).map (·.size) = some 2 := by kernel_rfl
theorem ze82 : (Tryd.prog.info? 82).map (·.zero) = some (some (.agg #[.slice none 0 0, .int .i64 0])) := by kernel_rfl
theorem zi82 : (Tryd.prog.info? 82).map (fun i => (i.zero, i.size, i.bytes)) = some (some (.agg #[.slice none 0 0, .int .i64 0]), 2, 32) := by kernel_rfl
theorem sz83 : (Tryd.prog.info? 83).map (·.size) = some 2 := by kernel_rfl
theorem ze83 : (Tryd.prog.info? 83).map (·.zero) = some (some (.agg #[.slice none 0 0, .int .i64 0])) := by kernel_rfl
theorem zi83 : (Tryd.prog.info? 83).map (fun i => (i.zero, i.size, i.bytes)) = some (some (.agg #[.slice none 0 0, .int .i64 0]), 2, 32) := by kernel_rfl
theorem sz84 : (Tryd.prog.info? 84).map (·.size) = some 1 := by kernel_rfl
theorem ze84 : (Tryd.prog.info? 84).map (·.zero) = some (some (.nilFunc)) := by kernel_rfl
theorem zi84 : (Tryd.prog.info? 84).map (fun i => (i.zero, i.size, i.bytes)) = some (some (.nilFunc), 1, 8) := by kernel_rfl
theorem sz85 : (Tryd.prog.info? 85).map (·.size) = some 1 := by kernel_rfl
theorem ze85 : (Tryd.prog.info? 85).map (·.zero) = some (some (.nilFunc)) := by kernel_rfl
theorem zi85 : (Tryd.prog.info? 85).map (fun i => (i.zero, i.size, i.bytes)) = some (some (.nilFunc), 1, 8) := by kernel_rfl
theorem sz86 : (Tryd.prog.info? 86).map (·.size) = some 1 := by kernel_rfl
theorem ze86 : (Tryd.prog.info? 86).map (·.zero) = some (some (.nilFunc)) := by kernel_rfl
theorem zi86 : (Tryd.prog.info? 86).map (fun i => (i.zero, i.size, i.bytes)) = some (some (.nilFunc), 1, 8) := by kernel_rfl
theorem sz87 : (Tryd.prog.info? 87).map (·.size) = some 1 := by kernel_rfl
theorem ze87 : (Tryd.prog.info? 87).map (·.zero) = some (some (.slice none 0 0)) := by kernel_rfl
theorem zi87 : (Tryd.prog.info? 87).map (fun i => (i.zero, i.size, i.bytes)) = some (some (.slice none 0 0), 1, 24) := by kernel_rfl
theorem sz88 : (Tryd.prog.info? 88).map (·.size) = some 1 := by kernel_rfl
theorem sz89 : (Tryd.prog.info? 89).map (·.size) = some 1 := by kernel_rfl
theorem ze89 : (Tryd.prog.info? 89).map (·.zero) = some (some (.nilFunc)) := by kernel_rfl
theorem zi89 : (Tryd.prog.info? 89).map (fun i => (i.zero, i.size, i.bytes)) = some (some (.nilFunc), 1, 8) := by kernel_rfl
theorem sz90 : (Tryd.prog.info? 90).map (·.size) = some 1 := by kernel_rfl
theorem ze90 : (Tryd.prog.info? 90).map (·.zero) = some (some (.pointer none)) := by kernel_rfl
theorem zi90 : (Tryd.prog.info? 90).map (fun i => (i.zero, i.size, i.bytes)) = some (some (.pointer none), 1, 8) := by kernel_rfl
theorem sz91 : (Tryd.prog.info? 91).map (·.size) = some 1 := by kernel_rfl
theorem ze91 : (Tryd.prog.info? 91).map (·.zero) = some (some (.map none)) := by kernel_rfl
theorem zi91 : (Tryd.prog.info? 91).map (fun i => (i.zero, i.size, i.bytes)) = some (some (.map none), 1, 8) := by kernel_rfl
theorem sz92 : (Tryd.prog.info? 92).map (·.size) = some 1 := by kernel_rfl
theorem ze92 : (Tryd.prog.info? 92).map (·.zero) = some (some (.nilFunc)) := by kernel_rfl
theorem zi92 : (Tryd.prog.info? 92).map (fun i => (i.zero, i.size, i.bytes)) = some (some (.nilFunc), 1, 8) := by kernel_rfl
theorem sz93 : (Tryd.prog.info? 93).map (·.size) = some 2 := by kernel_rfl
theorem ze93 : (Tryd.prog.info? 93).map (·.zero) = some (some (.agg #[.map none, .int .i64 0])) := by kernel_rfl
theorem zi93 : (Tryd.prog.info? 93).map (fun i => (i.zero, i.size, i.bytes)) = some (some (.agg #[.map none, .int .i64 0]), 2, 16) := by kernel_rfl
theorem sz94 : (Tryd.prog.info? 94).map (·.size) = some 2 := by kernel_rfl
theorem ze94 : (Tryd.prog.info? 94).map (·.zero) = some (some (.agg #[.map none, .int .i64 0])) := by kernel_rfl
theorem zi94 : (Tryd.prog.info? 94).map (fun i => (i.zero, i.size, i.bytes)) = some (some (.agg #[.map none, .int .i64 0]), 2, 16) := by kernel_rfl
theorem sz95 : (Tryd.prog.info? 95).map (·.size) = some 1 := by kernel_rfl
theorem ze95 : (Tryd.prog.info? 95).map (·.zero) = some (some (.nilFunc)) := by kernel_rfl
theorem zi95 : (Tryd.prog.info? 95).map (fun i => (i.zero, i.size, i.bytes)) = some (some (.nilFunc), 1, 8) := by kernel_rfl
theorem sz96 : (Tryd.prog.info? 96).map (·.size) = some 1 := by kernel_rfl
theorem ze96 : (Tryd.prog.info? 96).map (·.zero) = some (some (.nilFunc)) := by kernel_rfl
theorem zi96 : (Tryd.prog.info? 96).map (fun i => (i.zero, i.size, i.bytes)) = some (some (.nilFunc), 1, 8) := by kernel_rfl
theorem sz97 : (Tryd.prog.info? 97).map (·.size) = some 1 := by kernel_rfl
theorem ze97 : (Tryd.prog.info? 97).map (·.zero) = some (some (.nilFunc)) := by kernel_rfl
theorem zi97 : (Tryd.prog.info? 97).map (fun i => (i.zero, i.size, i.bytes)) = some (some (.nilFunc), 1, 8) := by kernel_rfl
theorem sz98 : (Tryd.prog.info? 98).map (·.size) = some 1 := by kernel_rfl
theorem ze98 : (Tryd.prog.info? 98).map (·.zero) = some (some (.nilFunc)) := by kernel_rfl
theorem zi98 : (Tryd.prog.info? 98).map (fun i => (i.zero, i.size, i.bytes)) = some (some (.nilFunc), 1, 8) := by kernel_rfl
theorem sz99 : (Tryd.prog.info? 99).map (·.size) = some 1 := by kernel_rfl
theorem ze99 : (Tryd.prog.info? 99).map (·.zero) = some (some (.nilFunc)) := by kernel_rfl
theorem zi99 : (Tryd.prog.info? 99).map (fun i => (i.zero, i.size, i.bytes)) = some (some (.nilFunc), 1, 8) := by kernel_rfl
theorem sz100 : (Tryd.prog.info? 100).map (·.size) = some 1 := by kernel_rfl
theorem ze100 : (Tryd.prog.info? 100).map (·.zero) = some (some (.nilFunc)) := by kernel_rfl
theorem zi100 : (Tryd.prog.info? 100).map (fun i => (i.zero, i.size, i.bytes)) = some (some (.nilFunc), 1, 8) := by kernel_rfl
theorem sz101 : (Tryd.prog.info? 101).map (·.size) = some 1 := by kernel_rfl
theorem ze101 : (Tryd.prog.info? 101).map (·.zero) = some (some (.nilFunc)) := by kernel_rfl
theorem zi101 : (Tryd.prog.info? 101).map (fun i => (i.zero, i.size, i.bytes)) = some (some (.nilFunc), 1, 8) := by kernel_rfl
theorem sz102 : (Tryd.prog.info? 102).map (·.size) = some 1 := by kernel_rfl
theorem ze102 : (Tryd.prog.info? 102).map (·.zero) = some (some (.nilFunc)) := by kernel_rfl
theorem zi102 : (Tryd.prog.info? 102).map (fun i => (i.zero, i.size, i.bytes)) = some (some (.nilFunc), 1, 8) := by kernel_rfl
theorem sz103 : (Tryd.prog.info? 103).map (·.size) = some 1 := by kernel_rfl
theorem ze103 : (Tryd.prog.info? 103).map (·.zero) = some (some (.nilFunc)) := by kernel_rfl
theorem zi103 : (Tryd.prog.info? 103).map (fun i => (i.zero, i.size, i.bytes)) = some (some (.nilFunc), 1, 8) := by kernel_rfl
theorem sz104 : (Tryd.prog.info? 104).map (·.size) = some 1 := by kernel_rfl
theorem ze104 : (Tryd.prog.info? 104).map (·.zero) = some (some (.nilFunc)) := by kernel_rfl
theorem zi104 : (Tryd.prog.info? 104).map (fun i => (i.zero, i.size, i.bytes)) = some (some (.nilFunc), 1, 8) := by kernel_rfl
theorem sz105 : (Tryd.prog.info? 105).map (·.size) = some 1 := by kernel_rfl
theorem ze105 : (Tryd.prog.info? 105).map (·.zero) = some (some (.nilFunc)) := by kernel_rfl
theorem zi105 : (Tryd.prog.info? 105).map (fun i => (i.zero, i.size, i.bytes)) = some (some (.nilFunc), 1, 8) := by kernel_rfl
theorem sz106 : (Tryd.prog.info? 106).map (·.size) = some 1 := by kernel_rfl
theorem ze106 : (Tryd.prog.info? 106).map (·.zero) = some (some (.pointer none)) := by kernel_rfl
theorem zi106 : (Tryd.prog.info? 106).map (fun i => (i.zero, i.size, i.bytes)) = some (some (.pointer none), 1, 8) := by kernel_rfl
theorem sz107 : (Tryd.prog.info? 107).map (·.size) = some 1 := by kernel_rfl
theorem ze107 : (Tryd.prog.info? 107).map (·.zero) = some (some (.nilFunc)) := by kernel_rfl
theorem zi107 : (Tryd.prog.info? 107).map (fun i => (i.zero, i.size, i.bytes)) = some (some (.nilFunc), 1, 8) := by kernel_rfl
theorem sz108 : (Tryd.prog.info? 108).map (·.size) = some 1 := by kernel_rfl
theorem ze108 : (Tryd.prog.info? 108).map (·.zero) = some (some (.slice none 0 0)) := by kernel_rfl
theorem zi108 : (Tryd.prog.info? 108).map (fun i => (i.zero, i.size, i.bytes)) = some (some (.slice none 0 0), 1, 24) := by kernel_rfl
theorem sz109 : (Tryd.prog.info? 109).map (·.size) = some 1 := by kernel_rfl
theorem ze109 : (Tryd.prog.info? 109).map (·.zero) = some (some (.nilFunc)) := by kernel_rfl
theorem zi109 : (Tryd.prog.info? 109).map (fun i => (i.zero, i.size, i.bytes)) = some (some (.nilFunc), 1, 8) := by kernel_rfl
theorem sz110 : (Tryd.prog.info? 110).map (·.size) = some 1 := by kernel_rfl
theorem ze110 : (Tryd.prog.info? 110).map (·.zero) = some (some (.nilFunc)) := by kernel_rfl
theorem zi110 : (Tryd.prog.info? 110).map (fun i => (i.zero, i.size, i.bytes)) = some (some (.nilFunc), 1, 8) := by kernel_rfl
theorem sz111 : (Tryd.prog.info? 111).map (·.size) = some 1 := by kernel_rfl
theorem ze111 : (Tryd.prog.info? 111).map (·.zero) = some (some (.nilFunc)) := by kernel_rfl
theorem zi111 : (Tryd.prog.info? 111).map (fun i => (i.zero, i.size, i.bytes)) = some (some (.nilFunc), 1, 8) := by kernel_rfl
theorem sz112 : (Tryd.prog.info? 112).map (·.size) = some 1 := by kernel_rfl
theorem ze112 : (Tryd.prog.info? 112).map (·.zero) = some (some (.nilFunc)) := by kernel_rfl
theorem zi112 : (Tryd.prog.info? 112).map (fun i => (i.zero, i.size, i.bytes)) = some (some (.nilFunc), 1, 8) := by kernel_rfl
theorem sz113 : (Tryd.prog.info? 113).map (·.size) = some 1 := by kernel_rfl
theorem ze113 : (Tryd.prog.info? 113).map (·.zero) = some (some (.nilFunc)) := by kernel_rfl
theorem zi113 : (Tryd.prog.info? 113).map (fun i => (i.zero, i.size, i.bytes)) = some (some (.nilFunc), 1, 8) := by kernel_rfl
theorem sz114 : (Tryd.prog.info? 114).map (·.size) = some 1 := by kernel_rfl
theorem ze114 : (Tryd.prog.info? 114).map (·.zero) = some (some (.nilFunc)) := by kernel_rfl
theorem zi114 : (Tryd.prog.info? 114).map (fun i => (i.zero, i.size, i.bytes)) = some (some (.nilFunc), 1, 8) := by kernel_rfl
theorem sz115 : (Tryd.prog.info? 115).map (·.size) = some 1 := by kernel_rfl
theorem ze115 : (Tryd.prog.info? 115).map (·.zero) = some (some (.nilFunc)) := by kernel_rfl
theorem zi115 : (Tryd.prog.info? 115).map (fun i => (i.zero, i.size, i.bytes)) = some (some (.nilFunc), 1, 8) := by kernel_rfl
theorem sz116 : (Tryd.prog.info? 116).map (·.size) = some 1 := by kernel_rfl
theorem ze116 : (Tryd.prog.info? 116).map (·.zero) = some (some (.nilFunc)) := by kernel_rfl
theorem zi116 : (Tryd.prog.info? 116).map (fun i => (i.zero, i.size, i.bytes)) = some (some (.nilFunc), 1, 8) := by kernel_rfl
theorem sz117 : (Tryd.prog.info? 117).map (·.size) = some 1 := by kernel_rfl
theorem ze117 : (Tryd.prog.info? 117).map (·.zero) = some (some (.nilFunc)) := by kernel_rfl
theorem zi117 : (Tryd.prog.info? 117).map (fun i => (i.zero, i.size, i.bytes)) = some (some (.nilFunc), 1, 8) := by kernel_rfl
theorem sz118 : (Tryd.prog.info? 118).map (·.size) = some 1 := by kernel_rfl
theorem sz119 : (Tryd.prog.info? 119).map (·.size) = some 1 := by kernel_rfl
theorem ze119 : (Tryd.prog.info? 119).map (·.zero) = some (some (.nilFunc)) := by kernel_rfl
theorem zi119 : (Tryd.prog.info? 119).map (fun i => (i.zero, i.size, i.bytes)) = some (some (.nilFunc), 1, 8) := by kernel_rfl
theorem sz120 : (Tryd.prog.info? 120).map (·.size) = some 2 := by kernel_rfl
theorem ze120 : (Tryd.prog.info? 120).map (·.zero) = some (some (.agg #[.int .i64 0, .int .i64 0])) := by kernel_rfl
theorem zi120 : (Tryd.prog.info? 120).map (fun i => (i.zero, i.size, i.bytes)) = some (some (.agg #[.int .i64 0, .int .i64 0]), 2, 16) := by kernel_rfl
theorem sz121 : (Tryd.prog.info? 121).map (·.size) = some 2 := by kernel_rfl
theorem ze121 : (Tryd.prog.info? 121).map (·.zero) = some (some (.agg #[.int .i64 0, .int .i64 0])) := by kernel_rfl
theorem zi121 : (Tryd.prog.info? 121).map (fun i => (i.zero, i.size, i.bytes)) = some (some (.agg #[.int .i64 0, .int .i64 0]), 2, 16) := by kernel_rfl
theorem sz122 : (Tryd.prog.info? 122).map (·.size) = some 1 := by kernel_rfl
theorem ze122 : (Tryd.prog.info? 122).map (·.zero) = some (some (.map none)) := by kernel_rfl
theorem zi122 : (Tryd.prog.info? 122).map (fun i => (i.zero, i.size, i.bytes)) = some (some (.map none), 1, 8) := by kernel_rfl
theorem sz123 : (Tryd.prog.info? 123).map (·.size) = some 2 := by kernel_rfl
theorem ze123 : (Tryd.prog.info? 123).map (·.zero) = some (some (.agg #[.slice none 0 0, .slice none 0 0])) := by kernel_rfl
theorem zi123 : (Tryd.prog.info? 123).map (fun i => (i.zero, i.size, i.bytes)) = some (some (.agg #[.slice none 0 0, .slice none 0 0]), 2, 48) := by kernel_rfl
theorem sz124 : (Tryd.prog.info? 124).map (·.size) = some 2 := by kernel_rfl
theorem ze124 : (Tryd.prog.info? 124).map (·.zero) = some (some (.agg #[.slice none 0 0, .slice none 0 0])) := by kernel_rfl
theorem zi124 : (Tryd.prog.info? 124).map (fun i => (i.zero, i.size, i.bytes)) = some (some (.agg #[.slice none 0 0, .slice none 0 0]), 2, 48) := by kernel_rfl
theorem sz125 : (Tryd.prog.info? 125).map (·.size) = some 1 := by kernel_rfl
theorem ze125 : (Tryd.prog.info? 125).map (·.zero) = some (some (.slice none 0 0)) := by kernel_rfl
theorem zi125 : (Tryd.prog.info? 125).map (fun i => (i.zero, i.size, i.bytes)) = some (some (.slice none 0 0), 1, 24) := by kernel_rfl
theorem sz126 : (Tryd.prog.info? 126).map (·.size) = some 1 := by kernel_rfl
theorem ze126 : (Tryd.prog.info? 126).map (·.zero) = some (some (.nilFunc)) := by kernel_rfl
theorem zi126 : (Tryd.prog.info? 126).map (fun i => (i.zero, i.size, i.bytes)) = some (some (.nilFunc), 1, 8) := by kernel_rfl
theorem sz127 : (Tryd.prog.info? 127).map (·.size) = some 1 := by kernel_rfl
theorem ze127 : (Tryd.prog.info? 127).map (·.zero) = some (some (.nilFunc)) := by kernel_rfl
theorem zi127 : (Tryd.prog.info? 127).map (fun i => (i.zero, i.size, i.bytes)) = some (some (.nilFunc), 1, 8) := by kernel_rfl
theorem sz128 : (Tryd.prog.info? 128).map (·.size) = some 4 := by kernel_rfl
theorem ze128 : (Tryd.prog.info? 128).map (·.zero) = some (some (.agg #[.slice none 0 0, .bool false, .bool false, .bool false])) := by kernel_rfl
theorem zi128 : (Tryd.prog.info? 128).map (fun i => (i.zero, i.size, i.bytes)) = some (some (.agg #[.slice none 0 0, .bool false, .bool false, .bool false]), 4, 32) := by kernel_rfl
theorem sz129 : (Tryd.prog.info? 129).map (·.size) = some 4 := by kernel_rfl
theorem ze129 : (Tryd.prog.info? 129).map (·.zero) = some (some (.agg #[.slice none 0 0, .bool false, .bool false, .bool false])) := by kernel_rfl
theorem zi129 : (Tryd.prog.info? 129).map (fun i => (i.zero, i.size, i.bytes)) = some (some (.agg #[.slice none 0 0, .bool false, .bool false, .bool false]), 4, 32) := by kernel_rfl
theorem sz130 : (Tryd.prog.info? 130).map (·.size) = some 120 := by kernel_rfl
theorem ze130 : (Tryd.prog.info? 130).map (·.zero) = some (some (.agg #[.slice none 0 0, .bool false, .bool false, .bool false, .slice none 0 0, .bool false, .bool false, .bool false, .slice none 0 0, .bool false, .bool false, .bool false, .slice none 0 0, .bool false, .bool false, .bool false, .slice none 0 0, .bool false, .bool false, .bool false, .slice none 0 0, .bool false, .bool false, .bool false, .slice none 0 0, .bool false, .bool false, .bool false, .slice none 0 0, .bool false, .bool false, .bool false, .slice none 0 0, .bool false, .bool false, .bool false, .slice none 0 0, .bool false, .bool false, .bool false, .slice none 0 0, .bool false, .bool false, .bool false, .slice none 0 0, .bool false, .bool false, .bool false, .slice none 0 0, .bool false, .bool false, .bool false, .slice none 0 0, .bool false, .bool false, .bool false, .slice none 0 0, .bool false, .bool false, .bool false, .slice none 0 0, .bool false, .bool false, .bool false, .slice none 0 0, .bool false, .bool false, .bool false, .slice none 0 0, .bool false, .bool false, .bool false, .slice none 0 0, .bool false, .bool false, .bool false, .slice none 0 0, .bool false, .bool false, .bool false, .slice none 0 0, .bool false, .bool false, .bool false, .slice none 0 0, .bool false, .bool false, .bool false, .slice none 0 0, .bool false, .bool false, .bool false, .slice none 0 0, .bool false, .bool false, .bool false, .slice none 0 0, .bool false, .bool false, .bool false, .slice none 0 0, .bool false, .bool false, .bool false, .slice none 0 0, .bool false, .bool false, .bool false, .slice none 0 0, .bool false, .bool false, .bool false, .slice none 0 0, .bool false, .bool false, .bool false, .slice none 0 0, .bool false, .bool false, .bool false])) := by kernel_rfl
theorem zi130 : (Tryd.prog.info? 130).map (fun i => (i.zero, i.size, i.bytes)) = some (some (.agg #[.slice none 0 0, .bool false, .bool false, .bool false, .slice none 0 0, .bool false, .bool false, .bool false, .slice none 0 0, .bool false, .bool false, .bool false, .slice none 0 0, .bool false, .bool false, .bool false, .slice none 0 0, .bool false, .bool false, .bool false, .slice none 0 0, .bool false, .bool false, .bool false, .slice none 0 0, .bool false, .bool false, .bool false, .slice none 0 0, .bool false, .bool false, .bool false, .slice none 0 0, .bool false, .bool false, .bool false, .slice none 0 0, .bool false, .bool false, .bool false, .slice none 0 0, .bool false, .bool false, .bool false, .slice none 0 0, .bool false, .bool false, .bool false, .slice none 0 0, .bool false, .bool false, .bool false, .slice none 0 0, .bool false, .bool false, .bool false, .slice none 0 0, .bool false, .bool false, .bool false, .slice none 0 0, .bool false, .bool false, .bool false, .slice none 0 0, .bool false, .bool false, .bool false, .slice none 0 0, .bool false, .bool false, .bool false, .slice none 0 0, .bool false, .bool false, .bool false, .slice none 0 0, .bool false, .bool false, .bool false, .slice none 0 0, .bool false, .bool false, .bool false, .slice none 0 0, .bool false, .bool false, .bool false, .slice none 0 0, .bool false, .bool false, .bool false, .slice none 0 0, .bool false, .bool false, .bool false, .slice none 0 0, .bool false, .bool false, .bool false, .slice none 0 0, .bool false, .bool false, .bool false, .slice none 0 0, .bool false, .bool false, .bool false, .slice none 0 0, .bool false, .bool false, .bool false, .slice none 0 0, .bool false, .bool false, .bool false, .slice none 0 0, .bool false, .bool false, .bool false]), 120, 960) := by kernel_rfl
theorem sz131 : (Tryd.prog.info? 131).map (·.size) = some 1 := by kernel_rfl
theorem ze131 : (Tryd.prog.info? 131).map (·.zero) = some (some (.pointer none)) := by kernel_rfl
theorem zi131 : (Tryd.prog.info? 131).map (fun i => (i.zero, i.size, i.bytes)) = some (some (.pointer none), 1, 8) := by kernel_rfl
theorem sz132 : (Tryd.prog.info? 132).map (·.size) = some 1 := by kernel_rfl
theorem ze132 : (Tryd.prog.info? 132).map (·.zero) = some (some (.nilFunc)) := by kernel_rfl
theorem zi132 : (Tryd.prog.info? 132).map (fun i => (i.zero, i.size, i.bytes)) = some (some (.nilFunc), 1, 8) := by kernel_rfl
theorem sz133 : (Tryd.prog.info? 133).map (·.size) = some 1 := by kernel_rfl
theorem ze133 : (Tryd.prog.info? 133).map (·.zero) = some (some (.nilFunc)) := by kernel_rfl
theorem zi133 : (Tryd.prog.info? 133).map (fun i => (i.zero, i.size, i.bytes)) = some (some (.nilFunc), 1, 8) := by kernel_rfl
theorem sz134 : (Tryd.prog.info? 134).map (·.size) = some 1 := by kernel_rfl
theorem ze134 : (Tryd.prog.info? 134).map (·.zero) = some (some (.nilFunc)) := by kernel_rfl
theorem zi134 : (Tryd.prog.info? 134).map (fun i => (i.zero, i.size, i.bytes)) = some (some (.nilFunc), 1, 8) := by kernel_rfl
theorem sz135 : (Tryd.prog.info? 135).map (·.size) = some 1 := by kernel_rfl
theorem ze135 : (Tryd.prog.info? 135).map (·.zero) = some (some (.nilFunc)) := by kernel_rfl
theorem zi135 : (Tryd.prog.info? 135).map (fun i => (i.zero, i.size, i.bytes)) = some (some (.nilFunc), 1, 8) := by kernel_rfl
theorem sz136 : (Tryd.prog.info? 136).map (·.size) = some 1 := by kernel_rfl
theorem ze136 : (Tryd.prog.info? 136).map (·.zero) = some (some (.nilFunc)) := by kernel_rfl
theorem zi136 : (Tryd.prog.info? 136).map (fun i => (i.zero, i.size, i.bytes)) = some (some (.nilFunc), 1, 8) := by kernel_rfl
theorem sz137 : (Tryd.prog.info? 137).map (·.size) = some 1 := by kernel_rfl
theorem ze137 : (Tryd.prog.info? 137).map (·.zero) = some (some (.nilFunc)) := by kernel_rfl
theorem zi137 : (Tryd.prog.info? 137).map (fun i => (i.zero, i.size, i.bytes)) = some (some (.nilFunc), 1, 8) := by kernel_rfl
theorem sz138 : (Tryd.prog.info? 138).map (·.size) = some 1 := by kernel_rfl
theorem ze138 : (Tryd.prog.info? 138).map (·.zero) = some (some (.nilFunc)) := by kernel_rfl
theorem zi138 : (Tryd.prog.info? 138).map (fun i => (i.zero, i.size, i.bytes)) = some (some (.nilFunc), 1, 8) := by kernel_rfl
theorem sz139 : (Tryd.prog.info? 139).map (·.size) = some 1 := by kernel_rfl
theorem ze139 : (Tryd.prog.info? 139).map (·.zero) = some (some (.nilFunc)) := by kernel_rfl
theorem zi139 : (Tryd.prog.info? 139).map (fun i => (i.zero, i.size, i.bytes)) = some (some (.nilFunc), 1, 8) := by kernel_rfl
theorem sz140 : (Tryd.prog.info? 140).map (·.size) = some 1 := by kernel_rfl
theorem ze140 : (Tryd.prog.info? 140).map (·.zero) = some (some (.nilFunc)) := by kernel_rfl
theorem zi140 : (Tryd.prog.info? 140).map (fun i => (i.zero, i.size, i.bytes)) = some (some (.nilFunc), 1, 8) := by kernel_rfl
theorem sz141 : (Tryd.prog.info? 141).map (·.size) = some 1 := by kernel_rfl
theorem ze141 : (Tryd.prog.info? 141).map (·.zero) = some (some (.nilFunc)) := by kernel_rfl
theorem zi141 : (Tryd.prog.info? 141).map (fun i => (i.zero, i.size, i.bytes)) = some (some (.nilFunc), 1, 8) := by kernel_rfl
theorem sz142 : (Tryd.prog.info? 142).map (·.size) = some 1 := by kernel_rfl
theorem ze142 : (Tryd.prog.info? 142).map (·.zero) = some (some (.nilFunc)) := by kernel_rfl
theorem zi142 : (Tryd.prog.info? 142).map (fun i => (i.zero, i.size, i.bytes)) = some (some (.nilFunc), 1, 8) := by kernel_rfl
theorem sz143 : (Tryd.prog.info? 143).map (·.size) = some 1 := by kernel_rfl
theorem ze143 : (Tryd.prog.info? 143).map (·.zero) = some (some (.nilFunc)) := by kernel_rfl
theorem zi143 : (Tryd.prog.info? 143).map (fun i => (i.zero, i.size, i.bytes)) = some (some (.nilFunc), 1, 8) := by kernel_rfl
theorem sz144 : (Tryd.prog.info? 144).map (·.size) = some 1 := by kernel_rfl
theorem ze144 : (Tryd.prog.info? 144).map (·.zero) = some (some (.nilFunc)) := by kernel_rfl
theorem zi144 : (Tryd.prog.info? 144).map (fun i => (i.zero, i.size, i.bytes)) = some (some (.nilFunc), 1, 8) := by kernel_rfl
theorem sz145 : (Tryd.prog.info? 145).map (·.size) = some 1 := by kernel_rfl
theorem ze145 : (Tryd.prog.info? 145).map (·.zero) = some (some (.nilFunc)) := by kernel_rfl
theorem zi145 : (Tryd.prog.info? 145).map (fun i => (i.zero, i.size, i.bytes)) = some (some (.nilFunc), 1, 8) := by kernel_rfl
theorem sz146 : (Tryd.prog.info? 146).map (·.size) = some 1 := by kernel_rfl
theorem ze146 : (Tryd.prog.info? 146).map (·.zero) = some (some (.nilFunc)) := by kernel_rfl
theorem zi146 : (Tryd.prog.info? 146).map (fun i => (i.zero, i.size, i.bytes)) = some (some (.nilFunc), 1, 8) := by kernel_rfl
theorem sz147 : (Tryd.prog.info? 147).map (·.size) = some 1 := by kernel_rfl
theorem ze147 : (Tryd.prog.info? 147).map (·.zero) = some (some (.nilFunc)) := by kernel_rfl
theorem zi147 : (Tryd.prog.info? 147).map (fun i => (i.zero, i.size, i.bytes)) = some (some (.nilFunc), 1, 8) := by kernel_rfl
theorem sz148 : (Tryd.prog.info? 148).map (·.size) = some 1 := by kernel_rfl
theorem ze148 : (Tryd.prog.info? 148).map (·.zero) = some (some (.nilFunc)) := by kernel_rfl
theorem zi148 : (Tryd.prog.info? 148).map (fun i => (i.zero, i.size, i.bytes)) = some (some (.nilFunc), 1, 8) := by kernel_rfl
theorem sz149 : (Tryd.prog.info? 149).map (·.size) = some 1 := by kernel_rfl
theorem ze149 : (Tryd.prog.info? 149).map (·.zero) = some (some (.nilFunc)) := by kernel_rfl
theorem zi149 : (Tryd.prog.info? 149).map (fun i => (i.zero, i.size, i.bytes)) = some (some (.nilFunc), 1, 8) := by kernel_rfl
theorem sz150 : (Tryd.prog.info? 150).map (·.size) = some 1 := by kernel_rfl
theorem ze150 : (Tryd.prog.info? 150).map (·.zero) = some (some (.nilFunc)) := by kernel_rfl
theorem zi150 : (Tryd.prog.info? 150).map (fun i => (i.zero, i.size, i.bytes)) = some (some (.nilFunc), 1, 8) := by kernel_rfl
theorem sz151 : (Tryd.prog.info? 151).map (·.size) = some 1 := by kernel_rfl
theorem ze151 : (Tryd.prog.info? 151).map (·.zero) = some (some (.nilFunc)) := by kernel_rfl
theorem zi151 : (Tryd.prog.info? 151).map (fun i => (i.zero, i.size, i.bytes)) = some (some (.nilFunc), 1, 8) := by kernel_rfl
theorem sz152 : (Tryd.prog.info? 152).map (·.size) = some 1 := by kernel_rfl
theorem ze152 : (Tryd.prog.info? 152).map (·.zero) = some (some (.nilFunc)) := by kernel_rfl
theorem zi152 : (Tryd.prog.info? 152).map (fun i => (i.zero, i.size, i.bytes)) = some (some (.nilFunc), 1, 8) := by kernel_rfl
theorem sz153 : (Tryd.prog.info? 153).map (·.size) = some 1 := by kernel_rfl
theorem ze153 : (Tryd.prog.info? 153).map (·.zero) = some (some (.nilFunc)) := by kernel_rfl
theorem zi153 : (Tryd.prog.info? 153).map (fun i => (i.zero, i.size, i.bytes)) = some (some (.nilFunc), 1, 8) := by kernel_rfl
theorem sz154 : (Tryd.prog.info? 154).map (·.size) = some 1 := by kernel_rfl
theorem ze154 : (Tryd.prog.info? 154).map (·.zero) = some (some (.nilFunc)) := by kernel_rfl
theorem zi154 : (Tryd.prog.info? 154).map (fun i => (i.zero, i.size, i.bytes)) = some (some (.nilFunc), 1, 8) := by kernel_rfl
theorem sz155 : (Tryd.prog.info? 155).map (·.size) = some 1 := by kernel_rfl
theorem ze155 : (Tryd.prog.info? 155).map (·.zero) = some (some (.nilFunc)) := by kernel_rfl
theorem zi155 : (Tryd.prog.info? 155).map (fun i => (i.zero, i.size, i.bytes)) = some (some (.nilFunc), 1, 8) := by kernel_rfl
theorem sz156 : (Tryd.prog.info? 156).map (·.size) = some 1 := by kernel_rfl
theorem ze156 : (Tryd.prog.info? 156).map (·.zero) = some (some (.nilFunc)) := by kernel_rfl
theorem zi156 : (Tryd.prog.info? 156).map (fun i => (i.zero, i.size, i.bytes)) = some (some (.nilFunc), 1, 8) := by kernel_rfl
theorem sz157 : (Tryd.prog.info? 157).map (·.size) = some 1 := by kernel_rfl
theorem sz158 : (Tryd.prog.info? 158).map (·.size) = some 1 := by kernel_rfl
theorem ze158 : (Tryd.prog.info? 158).map (·.zero) = some (some (.nilFunc)) := by kernel_rfl
theorem zi158 : (Tryd.prog.info? 158).map (fun i => (i.zero, i.size, i.bytes)) = some (some (.nilFunc), 1, 8) := by kernel_rfl
theorem sz159 : (Tryd.prog.info? 159).map (·.size) = some 1 := by kernel_rfl
theorem ze159 : (Tryd.prog.info? 159).map (·.zero) = some (some (.nilFunc)) := by kernel_rfl
theorem zi159 : (Tryd.prog.info? 159).map (fun i => (i.zero, i.size, i.bytes)) = some (some (.nilFunc), 1, 8) := by kernel_rfl
theorem sz160 : (Tryd.prog.info? 160).map (·.size) = some 1 := by kernel_rfl
theorem ze160 : (Tryd.prog.info? 160).map (·.zero) = some (some (.nilFunc)) := by kernel_rfl
theorem zi160 : (Tryd.prog.info? 160).map (fun i => (i.zero, i.size, i.bytes)) = some (some (.nilFunc), 1, 8) := by kernel_rfl
theorem sz161 : (Tryd.prog.info? 161).map (·.size) = some 1 := by kernel_rfl
theorem ze161 : (Tryd.prog.info? 161).map (·.zero) = some (some (.nilFunc)) := by kernel_rfl
theorem zi161 : (Tryd.prog.info? 161).map (fun i => (i.zero, i.size, i.bytes)) = some (some (.nilFunc), 1, 8) := by kernel_rfl
theorem sz162 : (Tryd.prog.info? 162).map (·.size) = some 1 := by kernel_rfl
theorem ze162 : (Tryd.prog.info? 162).map (·.zero) = some (some (.nilFunc)) := by kernel_rfl
theorem zi162 : (Tryd.prog.info? 162).map (fun i => (i.zero, i.size, i.bytes)) = some (some (.nilFunc), 1, 8) := by kernel_rfl
theorem sz163 : (Tryd.prog.info? 163).map (·.size) = some 1 := by kernel_rfl
theorem ze163 : (Tryd.prog.info? 163).map (·.zero) = some (some (.nilFunc)) := by kernel_rfl
theorem zi163 : (Tryd.prog.info? 163).map (fun i => (i.zero, i.size, i.bytes)) = some (some (.nilFunc), 1, 8) := by kernel_rfl
theorem sz164 : (Tryd.prog.info? 164).map (·.size) = some 1 := by kernel_rfl
theorem ze164 : (Tryd.prog.info? 164).map (·.zero) = some (some (.nilFunc)) := by kernel_rfl
theorem zi164 : (Tryd.prog.info? 164).map (fun i => (i.zero, i.size, i.bytes)) = some (some (.nilFunc), 1, 8) := by kernel_rfl
theorem sz165 : (Tryd.prog.info? 165).map (·.size) = some 4 := by kernel_rfl
theorem ze165 : (Tryd.prog.info? 165).map (·.zero) = some (some (.agg #[.pointer none, .pointer none, .pointer none, .string (⟨#[]⟩ : ByteArray)])) := by kernel_rfl
theorem zi165 : (Tryd.prog.info? 165).map (fun i => (i.zero, i.size, i.bytes)) = some (some (.agg #[.pointer none, .pointer none, .pointer none, .string (⟨#[]⟩ : ByteArray)]), 4, 40) := by kernel_rfl
theorem sz166 : (Tryd.prog.info? 166).map (·.size) = some 4 := by kernel_rfl
theorem ze166 : (Tryd.prog.info? 166).map (·.zero) = some (some (.agg #[.pointer none, .pointer none, .pointer none, .string (⟨#[]⟩ : ByteArray)])) := by kernel_rfl
theorem zi166 : (Tryd.prog.info? 166).map (fun i => (i.zero, i.size, i.bytes)) = some (some (.agg #[.pointer none, .pointer none, .pointer none, .string (⟨#[]⟩ : ByteArray)]), 4, 40) := by kernel_rfl
theorem sz167 : (Tryd.prog.info? 167).map (·.size) = some 0 := by kernel_rfl
theorem ze167 : (Tryd.prog.info? 167).map (·.zero) = some (some (.agg #[])) := by kernel_rfl
theorem zi167 : (Tryd.prog.info? 167).map (fun i => (i.zero, i.size, i.bytes)) = some (some (.agg #[]), 0, 0) := by kernel_rfl
theorem sz168 : (Tryd.prog.info? 168).map (·.size) = some 0 := by kernel_rfl
theorem ze168 : (Tryd.prog.info? 168).map (·.zero) = some (some (.agg #[])) := by kernel_rfl
theorem zi168 : (Tryd.prog.info? 168).map (fun i => (i.zero, i.size, i.bytes)) = some (some (.agg #[]), 0, 0) := by kernel_rfl
theorem sz169 : (Tryd.prog.info? 169).map (·.size) = some 0 := by kernel_rfl
theorem ze169 : (Tryd.prog.info? 169).map (·.zero) = some (some (.agg #[])) := by kernel_rfl
theorem zi169 : (Tryd.prog.info? 169).map (fun i => (i.zero, i.size, i.bytes)) = some (some (.agg #[]), 0, 0) := by kernel_rfl
theorem sz170 : (Tryd.prog.info? 170).map (·.size) = some 1 := by kernel_rfl
theorem ze170 : (Tryd.prog.info? 170).map (·.zero) = some (some (.nilFunc)) := by kernel_rfl
theorem zi170 : (Tryd.prog.info? 170).map (fun i => (i.zero, i.size, i.bytes)) = some (some (.nilFunc), 1, 8) := by kernel_rfl
theorem sz171 : (Tryd.prog.info? 171).map (·.size) = some 1 := by kernel_rfl
theorem ze171 : (Tryd.prog.info? 171).map (·.zero) = some (some (.int .u32 0)) := by kernel_rfl
theorem zi171 : (Tryd.prog.info? 171).map (fun i => (i.zero, i.size, i.bytes)) = some (some (.int .u32 0), 1, 4) := by kernel_rfl
theorem sz172 : (Tryd.prog.info? 172).map (·.size) = some 1 := by kernel_rfl
theorem ze172 : (Tryd.prog.info? 172).map (·.zero) = some (some (.int .u8 0)) := by kernel_rfl
theorem zi172 : (Tryd.prog.info? 172).map (fun i => (i.zero, i.size, i.bytes)) = some (some (.int .u8 0), 1, 1) := by kernel_rfl
theorem sz173 : (Tryd.prog.info? 173).map (·.size) = some 1 := by kernel_rfl
theorem ze173 : (Tryd.prog.info? 173).map (·.zero) = some (some (.int .u8 0)) := by kernel_rfl
theorem zi173 : (Tryd.prog.info? 173).map (fun i => (i.zero, i.size, i.bytes)) = some (some (.int .u8 0), 1, 1) := by kernel_rfl
theorem sz174 : (Tryd.prog.info? 174).map (·.size) = some 1 := by kernel_rfl
theorem ze174 : (Tryd.prog.info? 174).map (·.zero) = some (some (.nilFunc)) := by kernel_rfl
theorem zi174 : (Tryd.prog.info? 174).map (fun i => (i.zero, i.size, i.bytes)) = some (some (.nilFunc), 1, 8) := by kernel_rfl
theorem sz175 : (Tryd.prog.info? 175).map (·.size) = some 1 := by kernel_rfl
theorem ze175 : (Tryd.prog.info? 175).map (·.zero) = some (some (.pointer none)) := by kernel_rfl
theorem zi175 : (Tryd.prog.info? 175).map (fun i => (i.zero, i.size, i.bytes)) = some (some (.pointer none), 1, 8) := by kernel_rfl
theorem sz176 : (Tryd.prog.info? 176).map (·.size) = some 1 := by kernel_rfl
theorem ze176 : (Tryd.prog.info? 176).map (·.zero) = some (some (.int .i32 0)) := by kernel_rfl
theorem zi176 : (Tryd.prog.info? 176).map (fun i => (i.zero, i.size, i.bytes)) = some (some (.int .i32 0), 1, 4) := by kernel_rfl
theorem sz177 : (Tryd.prog.info? 177).map (·.size) = some 1 := by kernel_rfl
theorem ze177 : (Tryd.prog.info? 177).map (·.zero) = some (some (.int .i32 0)) := by kernel_rfl
theorem zi177 : (Tryd.prog.info? 177).map (fun i => (i.zero, i.size, i.bytes)) = some (some (.int .i32 0), 1, 4) := by kernel_rfl
theorem sz178 : (Tryd.prog.info? 178).map (·.size) = some 11 := by kernel_rfl
theorem ze178 : (Tryd.prog.info? 178).map (·.zero) = some (some (.agg #[.int .u64 0, .int .u64 0, .int .u32 0, .int .u8 0, .int .u8 0, .int .u8 0, .int .u8 0, .nilFunc, .pointer none, .int .i32 0, .int .i32 0])) := by kernel_rfl
theorem zi178 : (Tryd.prog.info? 178).map (fun i => (i.zero, i.size, i.bytes)) = some (some (.agg #[.int .u64 0, .int .u64 0, .int .u32 0, .int .u8 0, .int .u8 0, .int .u8 0, .int .u8 0, .nilFunc, .pointer none, .int .i32 0, .int .i32 0]), 11, 48) := by kernel_rfl
theorem sz179 : (Tryd.prog.info? 179).map (·.size) = some 11 := by kernel_rfl
theorem ze179 : (Tryd.prog.info? 179).map (·.zero) = some (some (.agg #[.int .u64 0, .int .u64 0, .int .u32 0, .int .u8 0, .int .u8 0, .int .u8 0, .int .u8 0, .nilFunc, .pointer none, .int .i32 0, .int .i32 0])) := by kernel_rfl
theorem zi179 : (Tryd.prog.info? 179).map (fun i => (i.zero, i.size, i.bytes)) = some (some (.agg #[.int .u64 0, .int .u64 0, .int .u32 0, .int .u8 0, .int .u8 0, .int .u8 0, .int .u8 0, .nilFunc, .pointer none, .int .i32 0, .int .i32 0]), 11, 48) := by kernel_rfl
theorem sz180 : (Tryd.prog.info? 180).map (·.size) = some 1 := by kernel_rfl
theorem ze180 : (Tryd.prog.info? 180).map (·.zero) = some (some (.pointer none)) := by kernel_rfl
theorem zi180 : (Tryd.prog.info? 180).map (fun i => (i.zero, i.size, i.bytes)) = some (some (.pointer none), 1, 8) := by kernel_rfl
theorem ok2 : FOK Tryd.prog 2 := fok Tryd.func2 rfl rfl
theorem ok3 : FOK Tryd.prog 3 := fok Tryd.func3 rfl rfl
theorem ok4 : FOK Tryd.prog 4 := fok Tryd.func4 rfl rfl
theorem ok5 : FOK Tryd.prog 5 := fok Tryd.func5 rfl rfl
theorem ok6 : FOK Tryd.prog 6 := fok Tryd.func6 rfl rfl
theorem ok7 : FOK Tryd.prog 7 := fok Tryd.func7 rfl rfl
theorem ok8 : FOK Tryd.prog 8 := fok Tryd.func8 rfl rfl
theorem ok9 : FOK Tryd.prog 9 := fok Tryd.func9 rfl rfl
theorem ok10 : FOK Tryd.prog 10 := fok Tryd.func10 rfl rfl
theorem ok11 : FOK Tryd.prog 11 := fok Tryd.func11 rfl rfl
theorem ok12 : FOK Tryd.prog 12 := fok Tryd.func12 rfl rfl
theorem ok13 : FOK Tryd.prog 13 := fok Tryd.func13 rfl rfl
theorem ok14 : FOK Tryd.prog 14 := fok Tryd.func14 rfl rfl
theorem ok15 : FOK Tryd.prog 15 := fok Tryd.func15 rfl rfl
theorem ok16 : FOK Tryd.prog 16 := fok Tryd.func16 rfl rfl
theorem ok17 : FOK Tryd.prog 17 := fok Tryd.func17 rfl rfl
theorem ok18 : FOK Tryd.prog 18 := fok Tryd.func18 rfl rfl
theorem ok19 : FOK Tryd.prog 19 := fok Tryd.func19 rfl rfl
theorem ok20 : FOK Tryd.prog 20 := fok Tryd.func20 rfl rfl
theorem ok21 : FOK Tryd.prog 21 := fok Tryd.func21 rfl rfl
theorem ok22 : FOK Tryd.prog 22 := fok Tryd.func22 rfl rfl
theorem ok23 : FOK Tryd.prog 23 := fok Tryd.func23 rfl rfl
theorem ok24 : FOK Tryd.prog 24 := fok Tryd.func24 rfl rfl
theorem ok25 : FOK Tryd.prog 25 := fok Tryd.func25 rfl rfl
theorem ok26 : FOK Tryd.prog 26 := fok Tryd.func26 rfl rfl
theorem ok27 : FOK Tryd.prog 27 := fok Tryd.func27 rfl rfl
theorem ok28 : FOK Tryd.prog 28 := fok Tryd.func28 rfl rfl
theorem ok29 : FOK Tryd.prog 29 := fok Tryd.func29 rfl rfl
theorem ok30 : FOK Tryd.prog 30 := fok Tryd.func30 rfl rfl
theorem ok31 : FOK Tryd.prog 31 := fok Tryd.func31 rfl rfl
theorem ok32 : FOK Tryd.prog 32 := fok Tryd.func32 rfl rfl
theorem ok33 : FOK Tryd.prog 33 := fok Tryd.func33 rfl rfl
theorem ok34 : FOK Tryd.prog 34 := fok Tryd.func34 rfl rfl
theorem ok35 : FOK Tryd.prog 35 := fok Tryd.func35 rfl rfl
theorem ok36 : FOK Tryd.prog 36 := fok Tryd.func36 rfl rfl
theorem ok37 : FOK Tryd.prog 37 := fok Tryd.func37 rfl rfl
theorem ok38 : FOK Tryd.prog 38 := fok Tryd.func38 rfl rfl
theorem ok39 : FOK Tryd.prog 39 := fok Tryd.func39 rfl rfl
theorem ok40 : FOK Tryd.prog 40 := fok Tryd.func40 rfl rfl
theorem ok41 : FOK Tryd.prog 41 := fok Tryd.func41 rfl rfl
theorem ok42 : FOK Tryd.prog 42 := fok Tryd.func42 rfl rfl
theorem ok43 : FOK Tryd.prog 43 := fok Tryd.func43 rfl rfl
theorem ok44 : FOK Tryd.prog 44 := fok Tryd.func44 rfl rfl
theorem ok45 : FOK Tryd.prog 45 := fok Tryd.func45 rfl rfl
theorem ok46 : FOK Tryd.prog 46 := fok Tryd.func46 rfl rfl
theorem ok47 : FOK Tryd.prog 47 := fok Tryd.func47 rfl rfl
theorem ok48 : FOK Tryd.prog 48 := fok Tryd.func48 rfl rfl
theorem ok49 : FOK Tryd.prog 49 := fok Tryd.func49 rfl rfl
theorem ok50 : FOK Tryd.prog 50 := fok Tryd.func50 rfl rfl
theorem ok51 : FOK Tryd.prog 51 := fok Tryd.func51 rfl rfl
theorem ok52 : FOK Tryd.prog 52 := fok Tryd.func52 rfl rfl
theorem ok53 : FOK Tryd.prog 53 := fok Tryd.func53 rfl rfl
theorem ok54 : FOK Tryd.prog 54 := fok Tryd.func54 rfl rfl
theorem ok55 : FOK Tryd.prog 55 := fok Tryd.func55 rfl rfl
theorem ok56 : FOK Tryd.prog 56 := fok Tryd.func56 rfl rfl
theorem ok57 : FOK Tryd.prog 57 := fok Tryd.func57 rfl rfl
theorem ok58 : FOK Tryd.prog 58 := fok Tryd.func58 rfl rfl
theorem ok59 : FOK Tryd.prog 59 := fok Tryd.func59 rfl rfl
theorem ok60 : FOK Tryd.prog 60 := fok Tryd.func60 rfl rfl
theorem ok61 : FOK Tryd.prog 61 := fok Tryd.func61 rfl rfl
theorem ok62 : FOK Tryd.prog 62 := fok Tryd.func62 rfl rfl
theorem ok63 : FOK Tryd.prog 63 := fok Tryd.func63 rfl rfl
theorem ok64 : FOK Tryd.prog 64 := fok Tryd.func64 rfl rfl
theorem ok65 : FOK Tryd.prog 65 := fok Tryd.func65 rfl rfl
theorem ok66 : FOK Tryd.prog 66 := fok Tryd.func66 rfl rfl
theorem ok67 : FOK Tryd.prog 67 := fok Tryd.func67 rfl rfl
theorem ok68 : FOK Tryd.prog 68 := fok Tryd.func68 rfl rfl
theorem ok69 : FOK Tryd.prog 69 := fok Tryd.func69 rfl rfl
theorem ok70 : FOK Tryd.prog 70 := fok Tryd.func70 rfl rfl
theorem ok71 : FOK Tryd.prog 71 := fok Tryd.func71 rfl rfl
theorem ok72 : FOK Tryd.prog 72 := fok Tryd.func72 rfl rfl
theorem ok74 : FOK Tryd.prog 74 := fok Tryd.func74 rfl rfl
theorem ok75 : FOK Tryd.prog 75 := fok Tryd.func75 rfl rfl
theorem ok76 : FOK Tryd.prog 76 := fok Tryd.func76 rfl rfl
theorem ok77 : FOK Tryd.prog 77 := fok Tryd.func77 rfl rfl
theorem ok78 : FOK Tryd.prog 78 := fok Tryd.func78 rfl rfl
theorem ok79 : FOK Tryd.prog 79 := fok Tryd.func79 rfl rfl
theorem ok80 : FOK Tryd.prog 80 := fok Tryd.func80 rfl rfl
theorem ok81 : FOK Tryd.prog 81 := fok Tryd.func81 rfl rfl
theorem ok82 : FOK Tryd.prog 82 := fok Tryd.func82 rfl rfl
theorem ok83 : FOK Tryd.prog 83 := fok Tryd.func83 rfl rfl
theorem ok84 : FOK Tryd.prog 84 := fok Tryd.func84 rfl rfl
theorem ok85 : FOK Tryd.prog 85 := fok Tryd.func85 rfl rfl
theorem ok86 : FOK Tryd.prog 86 := fok Tryd.func86 rfl rfl
theorem ok87 : FOK Tryd.prog 87 := fok Tryd.func87 rfl rfl
theorem ok88 : FOK Tryd.prog 88 := fok Tryd.func88 rfl rfl
theorem ok89 : FOK Tryd.prog 89 := fok Tryd.func89 rfl rfl
theorem ok90 : FOK Tryd.prog 90 := fok Tryd.func90 rfl rfl
theorem ok91 : FOK Tryd.prog 91 := fok Tryd.func91 rfl rfl
theorem ok92 : FOK Tryd.prog 92 := fok Tryd.func92 rfl rfl
theorem ok93 : FOK Tryd.prog 93 := fok Tryd.func93 rfl rfl
theorem ok94 : FOK Tryd.prog 94 := fok Tryd.func94 rfl rfl
theorem ok95 : FOK Tryd.prog 95 := fok Tryd.func95 rfl rfl
theorem ok96 : FOK Tryd.prog 96 := fok Tryd.func96 rfl rfl
theorem ok97 : FOK Tryd.prog 97 := fok Tryd.func97 rfl rfl
theorem ok98 : FOK Tryd.prog 98 := fok Tryd.func98 rfl rfl
theorem ok99 : FOK Tryd.prog 99 := fok Tryd.func99 rfl rfl
theorem ok100 : FOK Tryd.prog 100 := fok Tryd.func100 rfl rfl
theorem ok101 : FOK Tryd.prog 101 := fok Tryd.func101 rfl rfl
theorem ok102 : FOK Tryd.prog 102 := fok Tryd.func102 rfl rfl
theorem ok103 : FOK Tryd.prog 103 := fok Tryd.func103 rfl rfl
theorem ok104 : FOK Tryd.prog 104 := fok Tryd.func104 rfl rfl
theorem ok105 : FOK Tryd.prog 105 := fok Tryd.func105 rfl rfl
theorem ok106 : FOK Tryd.prog 106 := fok Tryd.func106 rfl rfl
theorem ok107 : FOK Tryd.prog 107 := fok Tryd.func107 rfl rfl
theorem ok108 : FOK Tryd.prog 108 := fok Tryd.func108 rfl rfl
theorem ok109 : FOK Tryd.prog 109 := fok Tryd.func109 rfl rfl
theorem ok110 : FOK Tryd.prog 110 := fok Tryd.func110 rfl rfl
theorem ok111 : FOK Tryd.prog 111 := fok Tryd.func111 rfl rfl
theorem ok112 : FOK Tryd.prog 112 := fok Tryd.func112 rfl rfl
theorem ok113 : FOK Tryd.prog 113 := fok Tryd.func113 rfl rfl
theorem ok114 : FOK Tryd.prog 114 := fok Tryd.func114 rfl rfl
theorem ok115 : FOK Tryd.prog 115 := fok Tryd.func115 rfl rfl
theorem ok116 : FOK Tryd.prog 116 := fok Tryd.func116 rfl rfl
theorem ok117 : FOK Tryd.prog 117 := fok Tryd.func117 rfl rfl
theorem ok118 : FOK Tryd.prog 118 := fok Tryd.func118 rfl rfl
theorem ok119 : FOK Tryd.prog 119 := fok Tryd.func119 rfl rfl
theorem ok120 : FOK Tryd.prog 120 := fok Tryd.func120 rfl rfl
theorem ok121 : FOK Tryd.prog 121 := fok Tryd.func121 rfl rfl
theorem ok122 : FOK Tryd.prog 122 := fok Tryd.func122 rfl rfl
theorem ok123 : FOK Tryd.prog 123 := fok Tryd.func123 rfl rfl
theorem ok124 : FOK Tryd.prog 124 := fok Tryd.func124 rfl rfl
theorem ok125 : FOK Tryd.prog 125 := fok Tryd.func125 rfl rfl
theorem ok126 : FOK Tryd.prog 126 := fok Tryd.func126 rfl rfl
theorem ok127 : FOK Tryd.prog 127 := fok Tryd.func127 rfl rfl
theorem ok128 : FOK Tryd.prog 128 := fok Tryd.func128 rfl rfl
theorem ok129 : FOK Tryd.prog 129 := fok Tryd.func129 rfl rfl
theorem ok130 : FOK Tryd.prog 130 := fok Tryd.func130 rfl rfl
theorem ok131 : FOK Tryd.prog 131 := fok Tryd.func131 rfl rfl
theorem ok132 : FOK Tryd.prog 132 := fok Tryd.func132 rfl rfl
theorem ok133 : FOK Tryd.prog 133 := fok Tryd.func133 rfl rfl
theorem ok134 : FOK Tryd.prog 134 := fok Tryd.func134 rfl rfl
theorem ok135 : FOK Tryd.prog 135 := fok Tryd.func135 rfl rfl
theorem ok136 : FOK Tryd.prog 136 := fok Tryd.func136 rfl rfl
theorem ok137 : FOK Tryd.prog 137 := fok Tryd.func137 rfl rfl
theorem ok138 : FOK Tryd.prog 138 := fok Tryd.func138 rfl rfl
theorem ok139 : FOK Tryd.prog 139 := fok Tryd.func139 rfl rfl
theorem ok140 : FOK Tryd.prog 140 := fok Tryd.func140 rfl rfl
theorem ok141 : FOK Tryd.prog 141 := fok Tryd.func141 rfl rfl
theorem ok142 : FOK Tryd.prog 142 := fok Tryd.func142 rfl rfl
theorem ok143 : FOK Tryd.prog 143 := fok Tryd.func143 rfl rfl
theorem ok144 : FOK Tryd.prog 144 := fok Tryd.func144 rfl rfl
theorem ok145 : FOK Tryd.prog 145 := fok Tryd.func145 rfl rfl
theorem ok146 : FOK Tryd.prog 146 := fok Tryd.func146 rfl rfl
theorem ok147 : FOK Tryd.prog 147 := fok Tryd.func147 rfl rfl
theorem ok148 : FOK Tryd.prog 148 := fok Tryd.func148 rfl rfl
theorem ok149 : FOK Tryd.prog 149 := fok Tryd.func149 rfl rfl
theorem ok150 : FOK Tryd.prog 150 := fok Tryd.func150 rfl rfl
theorem ok151 : FOK Tryd.prog 151 := fok Tryd.func151 rfl rfl
theorem ok173 : FOK Tryd.prog 173 := fok Tryd.func173 rfl rfl
end Go.Proofs.YtobgdeffhdefeaaDoor
