import Derived.Test.YtgaaopjagcaojaaGreatProg
import Derived.Test.YtgaaopjagcaojaaGreatVm
import Derived.WalkKit
namespace Go.Proofs.YtgaaopjagcaojaaGreat
def tb:Tb where
 data:=[273]
 ty:=[
  (0,⟨1,false,.tuple ⟨[]⟩,[],false,false,none,0,0,[],0,0,0⟩),
  (1,⟨1,false,.nilFunc,[],false,false,none,0,0,[],0,0,0⟩),
  (2,⟨1,false,.int .i64 (0),[],false,false,some .i64,0,0,[],0,0,0⟩),
  (3,⟨1,false,.int .i64 (0),[],false,false,some .i64,0,0,[],0,0,0⟩),
  (4,⟨1,false,.bool false,[],false,true,none,0,0,[],0,0,0⟩),
  (5,⟨1,false,.int .u8 (0),[],false,false,some .u8,0,0,[],0,0,0⟩),
  (6,⟨1,false,.int .u8 (0),[],false,false,some .u8,0,0,[],0,0,0⟩),
  (7,⟨4,true,.agg ⟨[.int .i64 (0),.int .i64 (0),.bool false,.int .u8 (0)]⟩,[(0,1,false),(1,1,false),(2,1,false),(3,1,false)],true,false,none,0,0,[],0,0,0⟩),
  (8,⟨4,true,.agg ⟨[.int .i64 (0),.int .i64 (0),.bool false,.int .u8 (0)]⟩,[(0,1,false),(1,1,false),(2,1,false),(3,1,false)],true,false,none,0,0,[],0,0,0⟩),
  (9,⟨1,false,.string {data:=⟨[]⟩},[],false,false,none,2,0,[],0,0,0⟩),
  (10,⟨1,false,.string {data:=⟨[]⟩},[],false,false,none,2,0,[],0,0,0⟩),
  (11,⟨1,false,.string {data:=⟨[]⟩},[],false,false,none,2,0,[],0,0,0⟩),
  (12,⟨1,false,.int .u64 (0),[],false,false,some .u64,0,0,[],0,0,0⟩),
  (13,⟨2,true,.agg ⟨[.string {data:=⟨[]⟩},.int .u64 (0)]⟩,[(0,1,false),(1,1,false)],true,false,none,0,0,[],0,0,0⟩),
  (14,⟨2,true,.agg ⟨[.string {data:=⟨[]⟩},.int .u64 (0)]⟩,[(0,1,false),(1,1,false)],true,false,none,0,0,[],0,0,0⟩),
  (15,⟨1,false,.pointer none,[],false,false,none,0,0,[],0,0,0⟩),
  (16,⟨1,false,.pointer none,[],false,false,none,0,0,[],0,0,0⟩),
  (17,⟨1,false,.pointer none,[],false,false,none,0,0,[],0,0,0⟩),
  (18,⟨1,true,.agg ⟨[.pointer none]⟩,[(0,1,false)],true,false,none,0,0,[],0,0,0⟩),
  (19,⟨1,true,.agg ⟨[.pointer none]⟩,[(0,1,false)],true,false,none,0,0,[],0,0,0⟩),
  (20,⟨1,false,.nilIface,[],false,false,none,0,0,[],0,0,0⟩),
  (21,⟨1,false,.int .i32 (0),[],false,false,some .i32,0,0,[],0,0,0⟩),
  (22,⟨1,false,.slice none 0 0,[],false,false,none,3,3,[.int .u8 (0),.int .u8 (0),.slice none 0 0],45,32,0⟩),
  (23,⟨1,false,.slice none 0 0,[],false,false,none,3,2,[.slice none 0 0,.slice none 0 0],43,48,0⟩),
  (24,⟨2,true,.agg ⟨[.slice none 0 0,.slice none 0 0]⟩,[(0,1,false),(1,1,false)],true,false,none,0,0,[],0,0,0⟩),
  (25,⟨2,true,.agg ⟨[.slice none 0 0,.slice none 0 0]⟩,[(0,1,false),(1,1,false)],true,false,none,0,0,[],0,0,0⟩),
  (26,⟨1,false,.nilFunc,[],false,false,none,0,0,[],0,0,0⟩),
  (27,⟨1,false,.nilFunc,[],false,false,none,0,0,[],0,0,0⟩),
  (28,⟨1,false,.slice none 0 0,[],false,false,none,3,1,[.int .u8 (0)],5,1,0⟩),
  (29,⟨1,false,.tuple ⟨[.slice none 0 0,.int .i64 (0)]⟩,[],false,false,none,0,0,[],0,0,0⟩),
  (30,⟨1,false,.nilFunc,[],false,false,none,0,0,[],0,0,0⟩),
  (31,⟨1,false,.nilFunc,[],false,false,none,0,0,[],0,0,0⟩),
  (32,⟨1,false,.slice none 0 0,[],false,false,none,3,3,[.int .i64 (0),.int .i64 (0),.slice none 0 0],56,40,0⟩),
  (33,⟨1,false,.int .i64 (0),[],false,false,some .i64,0,0,[],0,0,0⟩),
  (34,⟨1,false,.tuple ⟨[.slice none 0 0,.int .i64 (0)]⟩,[],false,false,none,0,0,[],0,0,0⟩),
  (35,⟨1,false,.nilFunc,[],false,false,none,0,0,[],0,0,0⟩),
  (36,⟨1,false,.tuple ⟨[.slice none 0 0,.int .i64 (0)]⟩,[],false,false,none,0,0,[],0,0,0⟩),
  (37,⟨1,false,.nilFunc,[],false,false,none,0,0,[],0,0,0⟩),
  (38,⟨1,false,.nilFunc,[],false,false,none,0,0,[],0,0,0⟩),
  (39,⟨1,false,.nilFunc,[],false,false,none,0,0,[],0,0,0⟩),
  (40,⟨1,false,.int .u64 (0),[],false,false,some .u64,0,0,[],0,0,0⟩),
  (41,⟨1,false,.slice none 0 0,[],false,false,none,3,2,[.slice none 0 0,.slice none 0 0],49,48,0⟩),
  (42,⟨2,true,.agg ⟨[.slice none 0 0,.slice none 0 0]⟩,[(0,1,false),(1,1,false)],true,false,none,0,0,[],0,0,0⟩),
  (43,⟨2,true,.agg ⟨[.slice none 0 0,.slice none 0 0]⟩,[(0,1,false),(1,1,false)],true,false,none,0,0,[],0,0,0⟩),
  (44,⟨3,true,.agg ⟨[.int .u8 (0),.int .u8 (0),.slice none 0 0]⟩,[(0,1,false),(1,1,false),(2,1,false)],true,false,none,0,0,[],0,0,0⟩),
  (45,⟨3,true,.agg ⟨[.int .u8 (0),.int .u8 (0),.slice none 0 0]⟩,[(0,1,false),(1,1,false),(2,1,false)],true,false,none,0,0,[],0,0,0⟩),
  (46,⟨1,false,.tuple ⟨[.agg ⟨[.int .u8 (0),.int .u8 (0),.slice none 0 0]⟩,.bool false]⟩,[],false,false,none,0,0,[],0,0,0⟩),
  (47,⟨1,false,.nilFunc,[],false,false,none,0,0,[],0,0,0⟩),
  (48,⟨2,true,.agg ⟨[.slice none 0 0,.slice none 0 0]⟩,[(0,1,false),(1,1,false)],true,false,none,0,0,[],0,0,0⟩),
  (49,⟨2,true,.agg ⟨[.slice none 0 0,.slice none 0 0]⟩,[(0,1,false),(1,1,false)],true,false,none,0,0,[],0,0,0⟩),
  (50,⟨1,false,.nilFunc,[],false,false,none,0,0,[],0,0,0⟩),
  (51,⟨1,false,.nilFunc,[],false,false,none,0,0,[],0,0,0⟩),
  (52,⟨1,false,.nilFunc,[],false,false,none,0,0,[],0,0,0⟩),
  (53,⟨1,false,.nilFunc,[],false,false,none,0,0,[],0,0,0⟩),
  (54,⟨1,false,.slice none 0 0,[],false,false,none,3,2,[.int .i64 (0),.int .i64 (0)],58,16,0⟩),
  (55,⟨3,true,.agg ⟨[.int .i64 (0),.int .i64 (0),.slice none 0 0]⟩,[(0,1,false),(1,1,false),(2,1,false)],true,false,none,0,0,[],0,0,0⟩),
  (56,⟨3,true,.agg ⟨[.int .i64 (0),.int .i64 (0),.slice none 0 0]⟩,[(0,1,false),(1,1,false),(2,1,false)],true,false,none,0,0,[],0,0,0⟩),
  (57,⟨2,true,.agg ⟨[.int .i64 (0),.int .i64 (0)]⟩,[(0,1,false),(1,1,false)],true,false,none,0,0,[],0,0,0⟩),
  (58,⟨2,true,.agg ⟨[.int .i64 (0),.int .i64 (0)]⟩,[(0,1,false),(1,1,false)],true,false,none,0,0,[],0,0,0⟩),
  (59,⟨1,false,.nilFunc,[],false,false,none,0,0,[],0,0,0⟩),
  (60,⟨1,false,.nilFunc,[],false,false,none,0,0,[],0,0,0⟩),
  (61,⟨1,false,.nilFunc,[],false,false,none,0,0,[],0,0,0⟩),
  (62,⟨1,false,.nilFunc,[],false,false,none,0,0,[],0,0,0⟩),
  (63,⟨1,false,.nilFunc,[],false,false,none,0,0,[],0,0,0⟩),
  (64,⟨1,false,.nilFunc,[],false,false,none,0,0,[],0,0,0⟩),
  (65,⟨1,false,.nilFunc,[],false,false,none,0,0,[],0,0,0⟩),
  (66,⟨1,false,.nilFunc,[],false,false,none,0,0,[],0,0,0⟩),
  (67,⟨1,false,.nilFunc,[],false,false,none,0,0,[],0,0,0⟩),
  (68,⟨1,false,.pointer none,[],false,false,none,0,0,[],0,0,0⟩),
  (69,⟨1,false,.map none,[],false,false,none,0,0,[],0,0,0⟩),
  (70,⟨1,false,.map none,[],false,false,none,0,0,[],0,0,0⟩),
  (71,⟨6,true,.agg ⟨[.slice none 0 0,.map none,.map none,.map none,.int .i64 (0),.slice none 0 0]⟩,[(0,1,false),(1,1,false),(2,1,false),(3,1,false),(4,1,false),(5,1,false)],true,false,none,0,0,[],0,0,0⟩),
  (72,⟨6,true,.agg ⟨[.slice none 0 0,.map none,.map none,.map none,.int .i64 (0),.slice none 0 0]⟩,[(0,1,false),(1,1,false),(2,1,false),(3,1,false),(4,1,false),(5,1,false)],true,false,none,0,0,[],0,0,0⟩),
  (73,⟨1,false,.tuple ⟨[.int .i64 (0),.bool false]⟩,[],false,false,none,0,0,[],0,0,0⟩),
  (74,⟨1,false,.nilFunc,[],false,false,none,0,0,[],0,0,0⟩),
  (75,⟨1,false,.slice none 0 0,[],false,false,none,3,1,[.bool false],4,1,0⟩),
  (76,⟨1,false,.nilFunc,[],false,false,none,0,0,[],0,0,0⟩),
  (77,⟨1,false,.nilFunc,[],false,false,none,0,0,[],0,0,0⟩),
  (78,⟨1,false,.pointer none,[],false,false,none,0,0,[],0,0,0⟩),
  (79,⟨1,false,.slice none 0 0,[],false,false,none,3,1,[.int .i64 (0)],3,8,0⟩),
  (80,⟨5,true,.agg ⟨[.slice none 0 0,.slice none 0 0,.int .i64 (0),.slice none 0 0,.slice none 0 0]⟩,[(0,2,true),(2,1,false),(3,1,false),(4,1,false)],true,false,none,0,0,[],0,0,0⟩),
  (81,⟨5,true,.agg ⟨[.slice none 0 0,.slice none 0 0,.int .i64 (0),.slice none 0 0,.slice none 0 0]⟩,[(0,2,true),(2,1,false),(3,1,false),(4,1,false)],true,false,none,0,0,[],0,0,0⟩),
  (82,⟨1,false,.nilFunc,[],false,false,none,0,0,[],0,0,0⟩),
  (83,⟨1,true,.agg ⟨[.slice none 0 0]⟩,[(0,1,false)],true,false,none,0,0,[],0,0,0⟩),
  (84,⟨1,true,.agg ⟨[.slice none 0 0]⟩,[(0,1,false)],true,false,none,0,0,[],0,0,0⟩),
  (85,⟨2,true,.agg ⟨[.int .i64 (0),.slice none 0 0]⟩,[(0,1,false),(1,1,true)],true,false,none,0,0,[],0,0,0⟩),
  (86,⟨2,true,.agg ⟨[.int .i64 (0),.slice none 0 0]⟩,[(0,1,false),(1,1,true)],true,false,none,0,0,[],0,0,0⟩),
  (87,⟨4,true,.agg ⟨[.int .i64 (0),.slice none 0 0,.int .i64 (0),.slice none 0 0]⟩,[(0,2,true),(2,2,true)],true,false,none,0,0,[],0,0,0⟩),
  (88,⟨4,true,.agg ⟨[.int .i64 (0),.slice none 0 0,.int .i64 (0),.slice none 0 0]⟩,[(0,2,true),(2,2,true)],true,false,none,0,0,[],0,0,0⟩),
  (89,⟨16,true,.agg ⟨[.int .i64 (0),.slice none 0 0,.int .i64 (0),.slice none 0 0,.int .i64 (0),.slice none 0 0,.int .i64 (0),.slice none 0 0,.int .i64 (0),.slice none 0 0,.int .i64 (0),.slice none 0 0,.int .i64 (0),.slice none 0 0,.int .i64 (0),.slice none 0 0]⟩,[],false,false,none,4,4,[],88,0,4⟩),
  (90,⟨20,true,.agg ⟨[.int .i64 (0),.slice none 0 0,.int .i64 (0),.slice none 0 0,.int .i64 (0),.slice none 0 0,.int .i64 (0),.slice none 0 0,.int .i64 (0),.slice none 0 0,.int .i64 (0),.slice none 0 0,.int .i64 (0),.slice none 0 0,.int .i64 (0),.slice none 0 0,.int .i64 (0),.slice none 0 0,.int .i64 (0),.slice none 0 0]⟩,[(0,2,true),(2,2,true),(4,16,true)],true,false,none,0,0,[],0,0,0⟩),
  (91,⟨20,true,.agg ⟨[.int .i64 (0),.slice none 0 0,.int .i64 (0),.slice none 0 0,.int .i64 (0),.slice none 0 0,.int .i64 (0),.slice none 0 0,.int .i64 (0),.slice none 0 0,.int .i64 (0),.slice none 0 0,.int .i64 (0),.slice none 0 0,.int .i64 (0),.slice none 0 0,.int .i64 (0),.slice none 0 0,.int .i64 (0),.slice none 0 0]⟩,[(0,2,true),(2,2,true),(4,16,true)],true,false,none,0,0,[],0,0,0⟩),
  (92,⟨40,true,.agg ⟨[.int .i64 (0),.slice none 0 0,.int .i64 (0),.slice none 0 0,.int .i64 (0),.slice none 0 0,.int .i64 (0),.slice none 0 0,.int .i64 (0),.slice none 0 0,.int .i64 (0),.slice none 0 0,.int .i64 (0),.slice none 0 0,.int .i64 (0),.slice none 0 0,.int .i64 (0),.slice none 0 0,.int .i64 (0),.slice none 0 0,.int .i64 (0),.slice none 0 0,.int .i64 (0),.slice none 0 0,.int .i64 (0),.slice none 0 0,.int .i64 (0),.slice none 0 0,.int .i64 (0),.slice none 0 0,.int .i64 (0),.slice none 0 0,.int .i64 (0),.slice none 0 0,.int .i64 (0),.slice none 0 0,.int .i64 (0),.slice none 0 0,.int .i64 (0),.slice none 0 0]⟩,[(0,20,true),(20,20,true)],true,false,none,0,0,[],0,0,0⟩),
  (93,⟨40,true,.agg ⟨[.int .i64 (0),.slice none 0 0,.int .i64 (0),.slice none 0 0,.int .i64 (0),.slice none 0 0,.int .i64 (0),.slice none 0 0,.int .i64 (0),.slice none 0 0,.int .i64 (0),.slice none 0 0,.int .i64 (0),.slice none 0 0,.int .i64 (0),.slice none 0 0,.int .i64 (0),.slice none 0 0,.int .i64 (0),.slice none 0 0,.int .i64 (0),.slice none 0 0,.int .i64 (0),.slice none 0 0,.int .i64 (0),.slice none 0 0,.int .i64 (0),.slice none 0 0,.int .i64 (0),.slice none 0 0,.int .i64 (0),.slice none 0 0,.int .i64 (0),.slice none 0 0,.int .i64 (0),.slice none 0 0,.int .i64 (0),.slice none 0 0,.int .i64 (0),.slice none 0 0]⟩,[(0,20,true),(20,20,true)],true,false,none,0,0,[],0,0,0⟩),
  (94,⟨120,true,.agg ⟨[.int .i64 (0),.slice none 0 0,.int .i64 (0),.slice none 0 0,.int .i64 (0),.slice none 0 0,.int .i64 (0),.slice none 0 0,.int .i64 (0),.slice none 0 0,.int .i64 (0),.slice none 0 0,.int .i64 (0),.slice none 0 0,.int .i64 (0),.slice none 0 0,.int .i64 (0),.slice none 0 0,.int .i64 (0),.slice none 0 0,.int .i64 (0),.slice none 0 0,.int .i64 (0),.slice none 0 0,.int .i64 (0),.slice none 0 0,.int .i64 (0),.slice none 0 0,.int .i64 (0),.slice none 0 0,.int .i64 (0),.slice none 0 0,.int .i64 (0),.slice none 0 0,.int .i64 (0),.slice none 0 0,.int .i64 (0),.slice none 0 0,.int .i64 (0),.slice none 0 0,.int .i64 (0),.slice none 0 0,.int .i64 (0),.slice none 0 0,.int .i64 (0),.slice none 0 0,.int .i64 (0),.slice none 0 0,.int .i64 (0),.slice none 0 0,.int .i64 (0),.slice none 0 0,.int .i64 (0),.slice none 0 0,.int .i64 (0),.slice none 0 0,.int .i64 (0),.slice none 0 0,.int .i64 (0),.slice none 0 0,.int .i64 (0),.slice none 0 0,.int .i64 (0),.slice none 0 0,.int .i64 (0),.slice none 0 0,.int .i64 (0),.slice none 0 0,.int .i64 (0),.slice none 0 0,.int .i64 (0),.slice none 0 0,.int .i64 (0),.slice none 0 0,.int .i64 (0),.slice none 0 0,.int .i64 (0),.slice none 0 0,.int .i64 (0),.slice none 0 0,.int .i64 (0),.slice none 0 0,.int .i64 (0),.slice none 0 0,.int .i64 (0),.slice none 0 0,.int .i64 (0),.slice none 0 0,.int .i64 (0),.slice none 0 0,.int .i64 (0),.slice none 0 0,.int .i64 (0),.slice none 0 0,.int .i64 (0),.slice none 0 0,.int .i64 (0),.slice none 0 0,.int .i64 (0),.slice none 0 0,.int .i64 (0),.slice none 0 0,.int .i64 (0),.slice none 0 0,.int .i64 (0),.slice none 0 0,.int .i64 (0),.slice none 0 0,.int .i64 (0),.slice none 0 0,.int .i64 (0),.slice none 0 0,.int .i64 (0),.slice none 0 0,.int .i64 (0),.slice none 0 0,.int .i64 (0),.slice none 0 0,.int .i64 (0),.slice none 0 0]⟩,[(0,20,true),(20,20,true),(40,20,true),(60,20,true),(80,40,true)],true,false,none,0,0,[],0,0,0⟩),
  (95,⟨120,true,.agg ⟨[.int .i64 (0),.slice none 0 0,.int .i64 (0),.slice none 0 0,.int .i64 (0),.slice none 0 0,.int .i64 (0),.slice none 0 0,.int .i64 (0),.slice none 0 0,.int .i64 (0),.slice none 0 0,.int .i64 (0),.slice none 0 0,.int .i64 (0),.slice none 0 0,.int .i64 (0),.slice none 0 0,.int .i64 (0),.slice none 0 0,.int .i64 (0),.slice none 0 0,.int .i64 (0),.slice none 0 0,.int .i64 (0),.slice none 0 0,.int .i64 (0),.slice none 0 0,.int .i64 (0),.slice none 0 0,.int .i64 (0),.slice none 0 0,.int .i64 (0),.slice none 0 0,.int .i64 (0),.slice none 0 0,.int .i64 (0),.slice none 0 0,.int .i64 (0),.slice none 0 0,.int .i64 (0),.slice none 0 0,.int .i64 (0),.slice none 0 0,.int .i64 (0),.slice none 0 0,.int .i64 (0),.slice none 0 0,.int .i64 (0),.slice none 0 0,.int .i64 (0),.slice none 0 0,.int .i64 (0),.slice none 0 0,.int .i64 (0),.slice none 0 0,.int .i64 (0),.slice none 0 0,.int .i64 (0),.slice none 0 0,.int .i64 (0),.slice none 0 0,.int .i64 (0),.slice none 0 0,.int .i64 (0),.slice none 0 0,.int .i64 (0),.slice none 0 0,.int .i64 (0),.slice none 0 0,.int .i64 (0),.slice none 0 0,.int .i64 (0),.slice none 0 0,.int .i64 (0),.slice none 0 0,.int .i64 (0),.slice none 0 0,.int .i64 (0),.slice none 0 0,.int .i64 (0),.slice none 0 0,.int .i64 (0),.slice none 0 0,.int .i64 (0),.slice none 0 0,.int .i64 (0),.slice none 0 0,.int .i64 (0),.slice none 0 0,.int .i64 (0),.slice none 0 0,.int .i64 (0),.slice none 0 0,.int .i64 (0),.slice none 0 0,.int .i64 (0),.slice none 0 0,.int .i64 (0),.slice none 0 0,.int .i64 (0),.slice none 0 0,.int .i64 (0),.slice none 0 0,.int .i64 (0),.slice none 0 0,.int .i64 (0),.slice none 0 0,.int .i64 (0),.slice none 0 0,.int .i64 (0),.slice none 0 0,.int .i64 (0),.slice none 0 0,.int .i64 (0),.slice none 0 0,.int .i64 (0),.slice none 0 0,.int .i64 (0),.slice none 0 0]⟩,[(0,20,true),(20,20,true),(40,20,true),(60,20,true),(80,40,true)],true,false,none,0,0,[],0,0,0⟩),
  (96,⟨1,false,.nilFunc,[],false,false,none,0,0,[],0,0,0⟩),
  (97,⟨1,false,.nilFunc,[],false,false,none,0,0,[],0,0,0⟩),
  (98,⟨1,false,.nilFunc,[],false,false,none,0,0,[],0,0,0⟩),
  (99,⟨1,false,.int .u64 (0),[],false,false,some .u64,0,0,[],0,0,0⟩),
  (100,⟨1,false,.nilFunc,[],false,false,none,0,0,[],0,0,0⟩),
  (101,⟨1,false,.tuple ⟨[.agg ⟨[.slice none 0 0,.slice none 0 0]⟩,.int .i64 (0)]⟩,[],false,false,none,0,0,[],0,0,0⟩),
  (102,⟨1,false,.nilFunc,[],false,false,none,0,0,[],0,0,0⟩),
  (103,⟨1,false,.nilFunc,[],false,false,none,0,0,[],0,0,0⟩),
  (104,⟨1,false,.map none,[],false,false,none,0,0,[],0,0,0⟩),
  (105,⟨1,false,.nilFunc,[],false,false,none,0,0,[],0,0,0⟩),
  (106,⟨1,false,.nilFunc,[],false,false,none,0,0,[],0,0,0⟩),
  (107,⟨1,false,.nilFunc,[],false,false,none,0,0,[],0,0,0⟩),
  (108,⟨1,false,.slice none 0 0,[],false,false,none,3,1,[.int .u32 (0)],273,4,0⟩),
  (109,⟨1,true,.agg ⟨[.slice none 0 0]⟩,[(0,1,false)],true,false,none,0,0,[],0,0,0⟩),
  (110,⟨1,true,.agg ⟨[.slice none 0 0]⟩,[(0,1,false)],true,false,none,0,0,[],0,0,0⟩),
  (111,⟨2,true,.agg ⟨[.slice none 0 0,.bool false]⟩,[(0,1,true),(1,1,false)],true,false,none,0,0,[],0,0,0⟩),
  (112,⟨2,true,.agg ⟨[.slice none 0 0,.bool false]⟩,[(0,1,true),(1,1,false)],true,false,none,0,0,[],0,0,0⟩),
  (113,⟨4,true,.agg ⟨[.slice none 0 0,.bool false,.slice none 0 0,.bool false]⟩,[(0,2,true),(2,2,true)],true,false,none,0,0,[],0,0,0⟩),
  (114,⟨4,true,.agg ⟨[.slice none 0 0,.bool false,.slice none 0 0,.bool false]⟩,[(0,2,true),(2,2,true)],true,false,none,0,0,[],0,0,0⟩),
  (115,⟨8,true,.agg ⟨[.slice none 0 0,.bool false,.slice none 0 0,.bool false,.slice none 0 0,.bool false,.slice none 0 0,.bool false]⟩,[],false,false,none,4,4,[],114,0,2⟩),
  (116,⟨22,true,.agg ⟨[.bool false,.int .i64 (0),.slice none 0 0,.bool false,.slice none 0 0,.bool false,.slice none 0 0,.bool false,.slice none 0 0,.bool false,.slice none 0 0,.bool false,.slice none 0 0,.bool false,.slice none 0 0,.bool false,.slice none 0 0,.bool false,.slice none 0 0,.bool false,.slice none 0 0,.bool false]⟩,[(0,1,false),(1,1,false),(2,4,true),(6,8,true),(14,8,true)],true,false,none,0,0,[],0,0,0⟩),
  (117,⟨22,true,.agg ⟨[.bool false,.int .i64 (0),.slice none 0 0,.bool false,.slice none 0 0,.bool false,.slice none 0 0,.bool false,.slice none 0 0,.bool false,.slice none 0 0,.bool false,.slice none 0 0,.bool false,.slice none 0 0,.bool false,.slice none 0 0,.bool false,.slice none 0 0,.bool false,.slice none 0 0,.bool false]⟩,[(0,1,false),(1,1,false),(2,4,true),(6,8,true),(14,8,true)],true,false,none,0,0,[],0,0,0⟩),
  (118,⟨1,false,.tuple ⟨[.agg ⟨[.slice none 0 0,.slice none 0 0]⟩,.bool false]⟩,[],false,false,none,0,0,[],0,0,0⟩),
  (119,⟨1,false,.nilFunc,[],false,false,none,0,0,[],0,0,0⟩),
  (120,⟨1,false,.nilFunc,[],false,false,none,0,0,[],0,0,0⟩),
  (121,⟨1,false,.slice none 0 0,[],false,false,none,3,26,[.int .i64 (0),.int .i64 (0),.int .i64 (0),.int .i64 (0),.int .i64 (0),.slice none 0 0,.int .i64 (0),.slice none 0 0,.int .i64 (0),.slice none 0 0,.bool false,.int .i64 (0),.int .i64 (0),.int .i64 (0),.int .i64 (0),.int .i64 (0),.slice none 0 0,.int .i64 (0),.slice none 0 0,.int .i64 (0),.slice none 0 0,.bool false,.int .i64 (0),.slice none 0 0,.int .i64 (0),.slice none 0 0],135,336,0⟩),
  (122,⟨1,false,.tuple ⟨[.slice none 0 0,.int .i64 (0)]⟩,[],false,false,none,0,0,[],0,0,0⟩),
  (123,⟨1,false,.nilFunc,[],false,false,none,0,0,[],0,0,0⟩),
  (124,⟨1,false,.nilFunc,[],false,false,none,0,0,[],0,0,0⟩),
  (125,⟨1,false,.nilFunc,[],false,false,none,0,0,[],0,0,0⟩),
  (126,⟨1,false,.nilFunc,[],false,false,none,0,0,[],0,0,0⟩),
  (127,⟨1,false,.nilFunc,[],false,false,none,0,0,[],0,0,0⟩),
  (128,⟨1,false,.nilFunc,[],false,false,none,0,0,[],0,0,0⟩),
  (129,⟨1,false,.nilFunc,[],false,false,none,0,0,[],0,0,0⟩),
  (130,⟨1,false,.tuple ⟨[.agg ⟨[.int .i64 (0),.slice none 0 0,.int .i64 (0),.slice none 0 0,.int .i64 (0),.slice none 0 0,.int .i64 (0),.slice none 0 0,.int .i64 (0),.slice none 0 0,.int .i64 (0),.slice none 0 0,.int .i64 (0),.slice none 0 0,.int .i64 (0),.slice none 0 0,.int .i64 (0),.slice none 0 0,.int .i64 (0),.slice none 0 0]⟩,.agg ⟨[.int .i64 (0),.slice none 0 0,.int .i64 (0),.slice none 0 0,.int .i64 (0),.slice none 0 0,.int .i64 (0),.slice none 0 0,.int .i64 (0),.slice none 0 0,.int .i64 (0),.slice none 0 0,.int .i64 (0),.slice none 0 0,.int .i64 (0),.slice none 0 0,.int .i64 (0),.slice none 0 0,.int .i64 (0),.slice none 0 0]⟩]⟩,[],false,false,none,0,0,[],0,0,0⟩),
  (131,⟨1,false,.nilFunc,[],false,false,none,0,0,[],0,0,0⟩),
  (132,⟨11,true,.agg ⟨[.int .i64 (0),.int .i64 (0),.int .i64 (0),.int .i64 (0),.int .i64 (0),.slice none 0 0,.int .i64 (0),.slice none 0 0,.int .i64 (0),.slice none 0 0,.bool false]⟩,[(0,2,true),(2,2,true),(4,4,true),(8,2,true),(10,1,false)],true,false,none,0,0,[],0,0,0⟩),
  (133,⟨11,true,.agg ⟨[.int .i64 (0),.int .i64 (0),.int .i64 (0),.int .i64 (0),.int .i64 (0),.slice none 0 0,.int .i64 (0),.slice none 0 0,.int .i64 (0),.slice none 0 0,.bool false]⟩,[(0,2,true),(2,2,true),(4,4,true),(8,2,true),(10,1,false)],true,false,none,0,0,[],0,0,0⟩),
  (134,⟨26,true,.agg ⟨[.int .i64 (0),.int .i64 (0),.int .i64 (0),.int .i64 (0),.int .i64 (0),.slice none 0 0,.int .i64 (0),.slice none 0 0,.int .i64 (0),.slice none 0 0,.bool false,.int .i64 (0),.int .i64 (0),.int .i64 (0),.int .i64 (0),.int .i64 (0),.slice none 0 0,.int .i64 (0),.slice none 0 0,.int .i64 (0),.slice none 0 0,.bool false,.int .i64 (0),.slice none 0 0,.int .i64 (0),.slice none 0 0]⟩,[(0,11,true),(11,11,true),(22,2,true),(24,2,true)],true,false,none,0,0,[],0,0,0⟩),
  (135,⟨26,true,.agg ⟨[.int .i64 (0),.int .i64 (0),.int .i64 (0),.int .i64 (0),.int .i64 (0),.slice none 0 0,.int .i64 (0),.slice none 0 0,.int .i64 (0),.slice none 0 0,.bool false,.int .i64 (0),.int .i64 (0),.int .i64 (0),.int .i64 (0),.int .i64 (0),.slice none 0 0,.int .i64 (0),.slice none 0 0,.int .i64 (0),.slice none 0 0,.bool false,.int .i64 (0),.slice none 0 0,.int .i64 (0),.slice none 0 0]⟩,[(0,11,true),(11,11,true),(22,2,true),(24,2,true)],true,false,none,0,0,[],0,0,0⟩),
  (136,⟨1,false,.tuple ⟨[.agg ⟨[.int .i64 (0),.slice none 0 0,.int .i64 (0),.slice none 0 0,.int .i64 (0),.slice none 0 0,.int .i64 (0),.slice none 0 0,.int .i64 (0),.slice none 0 0,.int .i64 (0),.slice none 0 0,.int .i64 (0),.slice none 0 0,.int .i64 (0),.slice none 0 0,.int .i64 (0),.slice none 0 0,.int .i64 (0),.slice none 0 0,.int .i64 (0),.slice none 0 0,.int .i64 (0),.slice none 0 0,.int .i64 (0),.slice none 0 0,.int .i64 (0),.slice none 0 0,.int .i64 (0),.slice none 0 0,.int .i64 (0),.slice none 0 0,.int .i64 (0),.slice none 0 0,.int .i64 (0),.slice none 0 0,.int .i64 (0),.slice none 0 0,.int .i64 (0),.slice none 0 0]⟩,.bool false]⟩,[],false,false,none,0,0,[],0,0,0⟩),
  (137,⟨1,false,.nilFunc,[],false,false,none,0,0,[],0,0,0⟩),
  (138,⟨1,false,.nilFunc,[],false,false,none,0,0,[],0,0,0⟩),
  (139,⟨1,false,.nilFunc,[],false,false,none,0,0,[],0,0,0⟩),
  (140,⟨1,false,.tuple ⟨[.int .i64 (0),.int .i64 (0),.bool false]⟩,[],false,false,none,0,0,[],0,0,0⟩),
  (141,⟨1,false,.nilFunc,[],false,false,none,0,0,[],0,0,0⟩),
  (142,⟨1,false,.nilFunc,[],false,false,none,0,0,[],0,0,0⟩),
  (143,⟨1,false,.nilFunc,[],false,false,none,0,0,[],0,0,0⟩),
  (144,⟨1,false,.nilFunc,[],false,false,none,0,0,[],0,0,0⟩),
  (145,⟨1,false,.nilFunc,[],false,false,none,0,0,[],0,0,0⟩),
  (146,⟨1,false,.nilFunc,[],false,false,none,0,0,[],0,0,0⟩),
  (147,⟨1,false,.nilFunc,[],false,false,none,0,0,[],0,0,0⟩),
  (148,⟨0,true,.agg ⟨[]⟩,[],true,false,none,0,0,[],0,0,0⟩),
  (149,⟨0,true,.agg ⟨[]⟩,[],true,false,none,0,0,[],0,0,0⟩),
  (150,⟨1,false,.tuple ⟨[.agg ⟨[]⟩,.bool false]⟩,[],false,false,none,0,0,[],0,0,0⟩),
  (151,⟨1,false,.pointer none,[],false,false,none,0,0,[],0,0,0⟩),
  (152,⟨2,true,.agg ⟨[.slice none 0 0,.int .i64 (0)]⟩,[(0,1,false),(1,1,false)],true,false,none,0,0,[],0,0,0⟩),
  (153,⟨2,true,.agg ⟨[.slice none 0 0,.int .i64 (0)]⟩,[(0,1,false),(1,1,false)],true,false,none,0,0,[],0,0,0⟩),
  (154,⟨2,true,.agg ⟨[.slice none 0 0,.int .i64 (0)]⟩,[(0,2,true)],true,false,none,0,0,[],0,0,0⟩),
  (155,⟨2,true,.agg ⟨[.slice none 0 0,.int .i64 (0)]⟩,[(0,2,true)],true,false,none,0,0,[],0,0,0⟩),
  (156,⟨1,false,.nilFunc,[],false,false,none,0,0,[],0,0,0⟩),
  (157,⟨1,false,.nilFunc,[],false,false,none,0,0,[],0,0,0⟩),
  (158,⟨1,false,.nilFunc,[],false,false,none,0,0,[],0,0,0⟩),
  (159,⟨1,false,.nilFunc,[],false,false,none,0,0,[],0,0,0⟩),
  (160,⟨1,false,.tuple ⟨[.string {data:=⟨[]⟩},.bool false]⟩,[],false,false,none,0,0,[],0,0,0⟩),
  (161,⟨1,false,.nilFunc,[],false,false,none,0,0,[],0,0,0⟩),
  (162,⟨1,false,.nilFunc,[],false,false,none,0,0,[],0,0,0⟩),
  (163,⟨1,false,.slice none 0 0,[],false,false,none,3,40,[.slice none 0 0,.bool false,.slice none 0 0,.bool false,.slice none 0 0,.bool false,.slice none 0 0,.bool false,.slice none 0 0,.bool false,.slice none 0 0,.bool false,.slice none 0 0,.bool false,.slice none 0 0,.bool false,.slice none 0 0,.bool false,.slice none 0 0,.bool false,.slice none 0 0,.bool false,.slice none 0 0,.bool false,.slice none 0 0,.bool false,.slice none 0 0,.bool false,.slice none 0 0,.bool false,.slice none 0 0,.bool false,.slice none 0 0,.bool false,.slice none 0 0,.bool false,.slice none 0 0,.bool false,.slice none 0 0,.bool false],176,640,0⟩),
  (164,⟨1,false,.tuple ⟨[.slice none 0 0,.int .i64 (0)]⟩,[],false,false,none,0,0,[],0,0,0⟩),
  (165,⟨1,false,.nilFunc,[],false,false,none,0,0,[],0,0,0⟩),
  (166,⟨1,false,.tuple ⟨[.int .i64 (0),.int .i64 (0)]⟩,[],false,false,none,0,0,[],0,0,0⟩),
  (167,⟨1,false,.nilFunc,[],false,false,none,0,0,[],0,0,0⟩),
  (168,⟨1,false,.tuple ⟨[.bool false,.agg ⟨[.slice none 0 0,.bool false,.slice none 0 0,.bool false]⟩,.int .i64 (0),.bool false]⟩,[],false,false,none,0,0,[],0,0,0⟩),
  (169,⟨1,false,.nilFunc,[],false,false,none,0,0,[],0,0,0⟩),
  (170,⟨4,true,.agg ⟨[.slice none 0 0,.bool false,.slice none 0 0,.bool false]⟩,[(0,2,true),(2,2,true)],true,false,none,0,0,[],0,0,0⟩),
  (171,⟨4,true,.agg ⟨[.slice none 0 0,.bool false,.slice none 0 0,.bool false]⟩,[(0,2,true),(2,2,true)],true,false,none,0,0,[],0,0,0⟩),
  (172,⟨16,true,.agg ⟨[.slice none 0 0,.bool false,.slice none 0 0,.bool false,.slice none 0 0,.bool false,.slice none 0 0,.bool false,.slice none 0 0,.bool false,.slice none 0 0,.bool false,.slice none 0 0,.bool false,.slice none 0 0,.bool false]⟩,[],false,false,none,4,4,[],114,0,4⟩),
  (173,⟨20,true,.agg ⟨[.slice none 0 0,.bool false,.slice none 0 0,.bool false,.slice none 0 0,.bool false,.slice none 0 0,.bool false,.slice none 0 0,.bool false,.slice none 0 0,.bool false,.slice none 0 0,.bool false,.slice none 0 0,.bool false,.slice none 0 0,.bool false,.slice none 0 0,.bool false]⟩,[(0,4,true),(4,16,true)],true,false,none,0,0,[],0,0,0⟩),
  (174,⟨20,true,.agg ⟨[.slice none 0 0,.bool false,.slice none 0 0,.bool false,.slice none 0 0,.bool false,.slice none 0 0,.bool false,.slice none 0 0,.bool false,.slice none 0 0,.bool false,.slice none 0 0,.bool false,.slice none 0 0,.bool false,.slice none 0 0,.bool false,.slice none 0 0,.bool false]⟩,[(0,4,true),(4,16,true)],true,false,none,0,0,[],0,0,0⟩),
  (175,⟨40,true,.agg ⟨[.slice none 0 0,.bool false,.slice none 0 0,.bool false,.slice none 0 0,.bool false,.slice none 0 0,.bool false,.slice none 0 0,.bool false,.slice none 0 0,.bool false,.slice none 0 0,.bool false,.slice none 0 0,.bool false,.slice none 0 0,.bool false,.slice none 0 0,.bool false,.slice none 0 0,.bool false,.slice none 0 0,.bool false,.slice none 0 0,.bool false,.slice none 0 0,.bool false,.slice none 0 0,.bool false,.slice none 0 0,.bool false,.slice none 0 0,.bool false,.slice none 0 0,.bool false,.slice none 0 0,.bool false,.slice none 0 0,.bool false]⟩,[(0,20,true),(20,20,true)],true,false,none,0,0,[],0,0,0⟩),
  (176,⟨40,true,.agg ⟨[.slice none 0 0,.bool false,.slice none 0 0,.bool false,.slice none 0 0,.bool false,.slice none 0 0,.bool false,.slice none 0 0,.bool false,.slice none 0 0,.bool false,.slice none 0 0,.bool false,.slice none 0 0,.bool false,.slice none 0 0,.bool false,.slice none 0 0,.bool false,.slice none 0 0,.bool false,.slice none 0 0,.bool false,.slice none 0 0,.bool false,.slice none 0 0,.bool false,.slice none 0 0,.bool false,.slice none 0 0,.bool false,.slice none 0 0,.bool false,.slice none 0 0,.bool false,.slice none 0 0,.bool false,.slice none 0 0,.bool false]⟩,[(0,20,true),(20,20,true)],true,false,none,0,0,[],0,0,0⟩),
  (177,⟨1,false,.nilFunc,[],false,false,none,0,0,[],0,0,0⟩),
  (178,⟨1,false,.nilFunc,[],false,false,none,0,0,[],0,0,0⟩),
  (179,⟨1,false,.tuple ⟨[.agg ⟨[.slice none 0 0,.bool false,.slice none 0 0,.bool false,.slice none 0 0,.bool false,.slice none 0 0,.bool false,.slice none 0 0,.bool false,.slice none 0 0,.bool false,.slice none 0 0,.bool false,.slice none 0 0,.bool false,.slice none 0 0,.bool false,.slice none 0 0,.bool false,.slice none 0 0,.bool false,.slice none 0 0,.bool false,.slice none 0 0,.bool false,.slice none 0 0,.bool false,.slice none 0 0,.bool false,.slice none 0 0,.bool false,.slice none 0 0,.bool false,.slice none 0 0,.bool false,.slice none 0 0,.bool false,.slice none 0 0,.bool false]⟩,.int .i64 (0)]⟩,[],false,false,none,0,0,[],0,0,0⟩),
  (180,⟨1,false,.nilFunc,[],false,false,none,0,0,[],0,0,0⟩),
  (181,⟨1,false,.nilFunc,[],false,false,none,0,0,[],0,0,0⟩),
  (182,⟨1,false,.nilFunc,[],false,false,none,0,0,[],0,0,0⟩),
  (183,⟨1,false,.nilFunc,[],false,false,none,0,0,[],0,0,0⟩),
  (184,⟨1,false,.nilFunc,[],false,false,none,0,0,[],0,0,0⟩),
  (185,⟨1,false,.nilFunc,[],false,false,none,0,0,[],0,0,0⟩),
  (186,⟨1,false,.tuple ⟨[.slice none 0 0,.int .i64 (0)]⟩,[],false,false,none,0,0,[],0,0,0⟩),
  (187,⟨1,false,.nilFunc,[],false,false,none,0,0,[],0,0,0⟩),
  (188,⟨1,false,.nilFunc,[],false,false,none,0,0,[],0,0,0⟩),
  (189,⟨1,false,.nilFunc,[],false,false,none,0,0,[],0,0,0⟩),
  (190,⟨1,false,.nilFunc,[],false,false,none,0,0,[],0,0,0⟩),
  (191,⟨1,false,.nilFunc,[],false,false,none,0,0,[],0,0,0⟩),
  (192,⟨1,false,.nilFunc,[],false,false,none,0,0,[],0,0,0⟩),
  (193,⟨1,false,.nilFunc,[],false,false,none,0,0,[],0,0,0⟩),
  (194,⟨1,false,.nilFunc,[],false,false,none,0,0,[],0,0,0⟩),
  (195,⟨1,false,.nilFunc,[],false,false,none,0,0,[],0,0,0⟩),
  (196,⟨1,false,.nilFunc,[],false,false,none,0,0,[],0,0,0⟩),
  (197,⟨1,false,.nilFunc,[],false,false,none,0,0,[],0,0,0⟩),
  (198,⟨1,false,.nilFunc,[],false,false,none,0,0,[],0,0,0⟩),
  (199,⟨1,false,.nilFunc,[],false,false,none,0,0,[],0,0,0⟩),
  (200,⟨1,false,.nilFunc,[],false,false,none,0,0,[],0,0,0⟩),
  (201,⟨1,false,.tuple ⟨[.agg ⟨[.int .i64 (0),.slice none 0 0,.int .i64 (0),.slice none 0 0,.int .i64 (0),.slice none 0 0,.int .i64 (0),.slice none 0 0,.int .i64 (0),.slice none 0 0,.int .i64 (0),.slice none 0 0,.int .i64 (0),.slice none 0 0,.int .i64 (0),.slice none 0 0,.int .i64 (0),.slice none 0 0,.int .i64 (0),.slice none 0 0]⟩,.bool false]⟩,[],false,false,none,0,0,[],0,0,0⟩),
  (202,⟨1,false,.nilFunc,[],false,false,none,0,0,[],0,0,0⟩),
  (203,⟨1,false,.nilFunc,[],false,false,none,0,0,[],0,0,0⟩),
  (204,⟨1,false,.nilFunc,[],false,false,none,0,0,[],0,0,0⟩),
  (205,⟨1,false,.tuple ⟨[.agg ⟨[.int .i64 (0),.slice none 0 0]⟩,.agg ⟨[.int .i64 (0),.slice none 0 0]⟩]⟩,[],false,false,none,0,0,[],0,0,0⟩),
  (206,⟨1,false,.nilFunc,[],false,false,none,0,0,[],0,0,0⟩),
  (207,⟨1,false,.nilFunc,[],false,false,none,0,0,[],0,0,0⟩),
  (208,⟨1,false,.nilFunc,[],false,false,none,0,0,[],0,0,0⟩),
  (209,⟨1,false,.tuple ⟨[.agg ⟨[.int .i64 (0),.slice none 0 0,.int .i64 (0),.slice none 0 0]⟩,.int .i64 (0)]⟩,[],false,false,none,0,0,[],0,0,0⟩),
  (210,⟨1,false,.nilFunc,[],false,false,none,0,0,[],0,0,0⟩),
  (211,⟨1,false,.nilFunc,[],false,false,none,0,0,[],0,0,0⟩),
  (212,⟨1,false,.nilFunc,[],false,false,none,0,0,[],0,0,0⟩),
  (213,⟨1,false,.nilFunc,[],false,false,none,0,0,[],0,0,0⟩),
  (214,⟨1,false,.nilFunc,[],false,false,none,0,0,[],0,0,0⟩),
  (215,⟨1,false,.tuple ⟨[.slice none 0 0,.int .i64 (0)]⟩,[],false,false,none,0,0,[],0,0,0⟩),
  (216,⟨1,false,.nilFunc,[],false,false,none,0,0,[],0,0,0⟩),
  (217,⟨1,false,.nilFunc,[],false,false,none,0,0,[],0,0,0⟩),
  (218,⟨1,false,.nilFunc,[],false,false,none,0,0,[],0,0,0⟩),
  (219,⟨1,false,.nilFunc,[],false,false,none,0,0,[],0,0,0⟩),
  (220,⟨1,false,.nilFunc,[],false,false,none,0,0,[],0,0,0⟩),
  (221,⟨1,false,.tuple ⟨[.agg ⟨[.slice none 0 0,.bool false,.slice none 0 0,.bool false]⟩,.int .i64 (0)]⟩,[],false,false,none,0,0,[],0,0,0⟩),
  (222,⟨1,false,.nilFunc,[],false,false,none,0,0,[],0,0,0⟩),
  (223,⟨1,false,.nilFunc,[],false,false,none,0,0,[],0,0,0⟩),
  (224,⟨1,false,.tuple ⟨[.agg ⟨[.slice none 0 0,.bool false]⟩,.agg ⟨[.slice none 0 0,.bool false]⟩,.int .i64 (0)]⟩,[],false,false,none,0,0,[],0,0,0⟩),
  (225,⟨1,false,.nilFunc,[],false,false,none,0,0,[],0,0,0⟩),
  (226,⟨1,false,.nilFunc,[],false,false,none,0,0,[],0,0,0⟩),
  (227,⟨1,false,.nilFunc,[],false,false,none,0,0,[],0,0,0⟩),
  (228,⟨1,false,.nilFunc,[],false,false,none,0,0,[],0,0,0⟩),
  (229,⟨1,false,.nilFunc,[],false,false,none,0,0,[],0,0,0⟩),
  (230,⟨1,false,.tuple ⟨[.agg ⟨[.slice none 0 0,.bool false,.slice none 0 0,.bool false,.slice none 0 0,.bool false,.slice none 0 0,.bool false]⟩,.agg ⟨[.slice none 0 0,.bool false,.slice none 0 0,.bool false,.slice none 0 0,.bool false,.slice none 0 0,.bool false]⟩]⟩,[],false,false,none,0,0,[],0,0,0⟩),
  (231,⟨1,false,.nilFunc,[],false,false,none,0,0,[],0,0,0⟩),
  (232,⟨1,false,.nilFunc,[],false,false,none,0,0,[],0,0,0⟩),
  (233,⟨1,false,.tuple ⟨[.agg ⟨[.slice none 0 0,.bool false]⟩,.agg ⟨[.slice none 0 0,.bool false]⟩]⟩,[],false,false,none,0,0,[],0,0,0⟩),
  (234,⟨1,false,.nilFunc,[],false,false,none,0,0,[],0,0,0⟩),
  (235,⟨1,false,.nilFunc,[],false,false,none,0,0,[],0,0,0⟩),
  (236,⟨1,false,.tuple ⟨[.agg ⟨[.int .i64 (0),.int .i64 (0)]⟩,.int .i64 (0)]⟩,[],false,false,none,0,0,[],0,0,0⟩),
  (237,⟨1,false,.nilFunc,[],false,false,none,0,0,[],0,0,0⟩),
  (238,⟨1,false,.tuple ⟨[.agg ⟨[.slice none 0 0,.bool false,.slice none 0 0,.bool false,.slice none 0 0,.bool false,.slice none 0 0,.bool false]⟩,.bool false]⟩,[],false,false,none,0,0,[],0,0,0⟩),
  (239,⟨1,false,.nilFunc,[],false,false,none,0,0,[],0,0,0⟩),
  (240,⟨1,false,.tuple ⟨[.agg ⟨[.slice none 0 0,.bool false,.slice none 0 0,.bool false,.slice none 0 0,.bool false,.slice none 0 0,.bool false,.slice none 0 0,.bool false,.slice none 0 0,.bool false,.slice none 0 0,.bool false,.slice none 0 0,.bool false,.slice none 0 0,.bool false,.slice none 0 0,.bool false]⟩,.int .i64 (0)]⟩,[],false,false,none,0,0,[],0,0,0⟩),
  (241,⟨1,false,.nilFunc,[],false,false,none,0,0,[],0,0,0⟩),
  (242,⟨1,false,.nilFunc,[],false,false,none,0,0,[],0,0,0⟩),
  (243,⟨1,false,.nilFunc,[],false,false,none,0,0,[],0,0,0⟩),
  (244,⟨1,false,.nilFunc,[],false,false,none,0,0,[],0,0,0⟩),
  (245,⟨1,false,.nilFunc,[],false,false,none,0,0,[],0,0,0⟩),
  (246,⟨1,false,.nilFunc,[],false,false,none,0,0,[],0,0,0⟩),
  (247,⟨1,false,.nilFunc,[],false,false,none,0,0,[],0,0,0⟩),
  (248,⟨1,false,.nilFunc,[],false,false,none,0,0,[],0,0,0⟩),
  (249,⟨1,false,.tuple ⟨[.agg ⟨[.bool false,.int .i64 (0),.slice none 0 0,.bool false,.slice none 0 0,.bool false,.slice none 0 0,.bool false,.slice none 0 0,.bool false,.slice none 0 0,.bool false,.slice none 0 0,.bool false,.slice none 0 0,.bool false,.slice none 0 0,.bool false,.slice none 0 0,.bool false,.slice none 0 0,.bool false]⟩,.int .i64 (0)]⟩,[],false,false,none,0,0,[],0,0,0⟩),
  (250,⟨1,false,.nilFunc,[],false,false,none,0,0,[],0,0,0⟩),
  (251,⟨1,false,.nilFunc,[],false,false,none,0,0,[],0,0,0⟩),
  (252,⟨1,false,.nilFunc,[],false,false,none,0,0,[],0,0,0⟩),
  (253,⟨1,false,.nilFunc,[],false,false,none,0,0,[],0,0,0⟩),
  (254,⟨1,false,.nilFunc,[],false,false,none,0,0,[],0,0,0⟩),
  (255,⟨1,false,.nilFunc,[],false,false,none,0,0,[],0,0,0⟩),
  (256,⟨1,false,.nilFunc,[],false,false,none,0,0,[],0,0,0⟩),
  (257,⟨1,false,.nilFunc,[],false,false,none,0,0,[],0,0,0⟩),
  (258,⟨1,false,.nilFunc,[],false,false,none,0,0,[],0,0,0⟩),
  (259,⟨1,false,.nilFunc,[],false,false,none,0,0,[],0,0,0⟩),
  (260,⟨1,false,.slice none 0 0,[],false,false,none,3,4,[.int .i64 (0),.slice none 0 0,.int .i64 (0),.slice none 0 0],88,64,0⟩),
  (261,⟨1,false,.nilFunc,[],false,false,none,0,0,[],0,0,0⟩),
  (262,⟨1,false,.nilFunc,[],false,false,none,0,0,[],0,0,0⟩),
  (263,⟨1,false,.nilFunc,[],false,false,none,0,0,[],0,0,0⟩),
  (264,⟨1,false,.nilFunc,[],false,false,none,0,0,[],0,0,0⟩),
  (265,⟨1,false,.tuple ⟨[.agg ⟨[.slice none 0 0]⟩,.agg ⟨[.slice none 0 0]⟩]⟩,[],false,false,none,0,0,[],0,0,0⟩),
  (266,⟨1,false,.nilFunc,[],false,false,none,0,0,[],0,0,0⟩),
  (267,⟨1,false,.nilFunc,[],false,false,none,0,0,[],0,0,0⟩),
  (268,⟨1,false,.pointer none,[],false,false,none,0,0,[],0,0,0⟩),
  (269,⟨1,false,.nilFunc,[],false,false,none,0,0,[],0,0,0⟩),
  (270,⟨1,false,.nilFunc,[],false,false,none,0,0,[],0,0,0⟩),
  (271,⟨1,false,.nilFunc,[],false,false,none,0,0,[],0,0,0⟩),
  (272,⟨1,false,.nilFunc,[],false,false,none,0,0,[],0,0,0⟩),
  (273,⟨1,false,.int .u32 (0),[],false,false,some .u32,0,0,[],0,0,0⟩),
  (274,⟨1,false,.nilFunc,[],false,false,none,0,0,[],0,0,0⟩),
  (275,⟨1,false,.nilFunc,[],false,false,none,0,0,[],0,0,0⟩),
  (276,⟨1,false,.nilFunc,[],false,false,none,0,0,[],0,0,0⟩),
  (277,⟨1,false,.nilFunc,[],false,false,none,0,0,[],0,0,0⟩),
  (278,⟨1,false,.slice none 0 0,[],false,false,none,3,2,[.int .i64 (0),.int .i64 (0)],282,16,0⟩),
  (279,⟨1,false,.tuple ⟨[.slice none 0 0,.slice none 0 0]⟩,[],false,false,none,0,0,[],0,0,0⟩),
  (280,⟨1,false,.nilFunc,[],false,false,none,0,0,[],0,0,0⟩),
  (281,⟨2,true,.agg ⟨[.int .i64 (0),.int .i64 (0)]⟩,[(0,1,false),(1,1,false)],true,false,none,0,0,[],0,0,0⟩),
  (282,⟨2,true,.agg ⟨[.int .i64 (0),.int .i64 (0)]⟩,[(0,1,false),(1,1,false)],true,false,none,0,0,[],0,0,0⟩),
  (283,⟨1,false,.nilFunc,[],false,false,none,0,0,[],0,0,0⟩),
  (284,⟨1,false,.nilFunc,[],false,false,none,0,0,[],0,0,0⟩),
  (285,⟨1,false,.int .i16 (0),[],false,false,some .i16,0,0,[],0,0,0⟩),
  (286,⟨1,false,.int .u16 (0),[],false,false,some .u16,0,0,[],0,0,0⟩),
  (287,⟨1,false,.nilFunc,[],false,false,none,0,0,[],0,0,0⟩),
  (288,⟨1,false,.nilFunc,[],false,false,none,0,0,[],0,0,0⟩),
  (289,⟨7,true,.agg ⟨[.int .u8 (0),.int .u8 (0),.int .u8 (0),.int .u8 (0),.int .u8 (0),.int .u8 (0),.int .u8 (0)]⟩,[],false,false,none,4,1,[],5,0,7⟩),
  (290,⟨1,false,.nilFunc,[],false,false,none,0,0,[],0,0,0⟩),
  (291,⟨1,false,.nilFunc,[],false,false,none,0,0,[],0,0,0⟩),
  (292,⟨1,false,.nilFunc,[],false,false,none,0,0,[],0,0,0⟩),
  (293,⟨1,false,.tuple ⟨[.agg ⟨[.slice none 0 0]⟩,.agg ⟨[.slice none 0 0]⟩,.int .i64 (0)]⟩,[],false,false,none,0,0,[],0,0,0⟩),
  (294,⟨1,false,.nilFunc,[],false,false,none,0,0,[],0,0,0⟩),
  (295,⟨1,false,.tuple ⟨[.int .u64 (0),.bool false]⟩,[],false,false,none,0,0,[],0,0,0⟩),
  (296,⟨1,false,.nilFunc,[],false,false,none,0,0,[],0,0,0⟩),
  (297,⟨1,false,.nilFunc,[],false,false,none,0,0,[],0,0,0⟩),
  (298,⟨1,false,.nilFunc,[],false,false,none,0,0,[],0,0,0⟩),
  (299,⟨4,true,.agg ⟨[.int .i64 (0),.int .i64 (0),.int .i64 (0),.int .i64 (0)]⟩,[(0,1,false),(1,1,false),(2,1,false),(3,1,false)],true,false,none,0,0,[],0,0,0⟩),
  (300,⟨4,true,.agg ⟨[.int .i64 (0),.int .i64 (0),.int .i64 (0),.int .i64 (0)]⟩,[(0,1,false),(1,1,false),(2,1,false),(3,1,false)],true,false,none,0,0,[],0,0,0⟩),
  (301,⟨1,false,.nilFunc,[],false,false,none,0,0,[],0,0,0⟩),
  (302,⟨1,false,.nilFunc,[],false,false,none,0,0,[],0,0,0⟩),
  (303,⟨1,false,.nilFunc,[],false,false,none,0,0,[],0,0,0⟩),
  (304,⟨1,false,.nilFunc,[],false,false,none,0,0,[],0,0,0⟩),
  (305,⟨32,true,.agg ⟨[.slice none 0 0,.bool false,.slice none 0 0,.bool false,.slice none 0 0,.bool false,.slice none 0 0,.bool false,.slice none 0 0,.bool false,.slice none 0 0,.bool false,.slice none 0 0,.bool false,.slice none 0 0,.bool false,.slice none 0 0,.bool false,.slice none 0 0,.bool false,.slice none 0 0,.bool false,.slice none 0 0,.bool false,.slice none 0 0,.bool false,.slice none 0 0,.bool false,.slice none 0 0,.bool false,.slice none 0 0,.bool false]⟩,[],false,false,none,4,8,[],115,0,4⟩),
  (306,⟨1,false,.nilFunc,[],false,false,none,0,0,[],0,0,0⟩),
  (307,⟨1,false,.slice none 0 0,[],false,false,none,3,4,[.slice none 0 0,.bool false,.slice none 0 0,.bool false],114,64,0⟩),
  (308,⟨1,false,.nilFunc,[],false,false,none,0,0,[],0,0,0⟩),
  (309,⟨1,false,.nilFunc,[],false,false,none,0,0,[],0,0,0⟩),
  (310,⟨1,false,.nilFunc,[],false,false,none,0,0,[],0,0,0⟩),
  (311,⟨1,false,.nilFunc,[],false,false,none,0,0,[],0,0,0⟩),
  (312,⟨1,false,.nilFunc,[],false,false,none,0,0,[],0,0,0⟩),
  (313,⟨1,false,.nilFunc,[],false,false,none,0,0,[],0,0,0⟩),
  (314,⟨1,false,.nilFunc,[],false,false,none,0,0,[],0,0,0⟩),
  (315,⟨1,false,.tuple ⟨[.agg ⟨[.int .i64 (0),.slice none 0 0,.int .i64 (0),.slice none 0 0]⟩,.agg ⟨[.int .i64 (0),.slice none 0 0,.int .i64 (0),.slice none 0 0]⟩]⟩,[],false,false,none,0,0,[],0,0,0⟩),
  (316,⟨1,false,.nilFunc,[],false,false,none,0,0,[],0,0,0⟩),
  (317,⟨1,false,.nilFunc,[],false,false,none,0,0,[],0,0,0⟩),
  (318,⟨1,false,.nilFunc,[],false,false,none,0,0,[],0,0,0⟩),
  (319,⟨1,false,.nilFunc,[],false,false,none,0,0,[],0,0,0⟩),
  (320,⟨1,false,.nilFunc,[],false,false,none,0,0,[],0,0,0⟩),
  (321,⟨4,true,.agg ⟨[.int .u8 (0),.int .i64 (0),.int .i64 (0),.int .i64 (0)]⟩,[(0,1,false),(1,1,false),(2,1,false),(3,1,false)],true,false,none,0,0,[],0,0,0⟩),
  (322,⟨4,true,.agg ⟨[.int .u8 (0),.int .i64 (0),.int .i64 (0),.int .i64 (0)]⟩,[(0,1,false),(1,1,false),(2,1,false),(3,1,false)],true,false,none,0,0,[],0,0,0⟩),
  (323,⟨1,false,.tuple ⟨[.agg ⟨[.int .u8 (0),.int .i64 (0),.int .i64 (0),.int .i64 (0)]⟩,.bool false]⟩,[],false,false,none,0,0,[],0,0,0⟩),
  (324,⟨1,false,.nilFunc,[],false,false,none,0,0,[],0,0,0⟩),
  (325,⟨1,false,.nilFunc,[],false,false,none,0,0,[],0,0,0⟩),
  (326,⟨1,false,.nilFunc,[],false,false,none,0,0,[],0,0,0⟩),
  (327,⟨1,false,.nilFunc,[],false,false,none,0,0,[],0,0,0⟩),
  (328,⟨1,false,.nilFunc,[],false,false,none,0,0,[],0,0,0⟩),
  (329,⟨1,false,.nilFunc,[],false,false,none,0,0,[],0,0,0⟩),
  (330,⟨1,false,.nilFunc,[],false,false,none,0,0,[],0,0,0⟩),
  (331,⟨18,true,.agg ⟨[.int .i64 (0),.int .i64 (0),.slice none 0 0,.bool false,.slice none 0 0,.bool false,.slice none 0 0,.bool false,.slice none 0 0,.bool false,.slice none 0 0,.bool false,.slice none 0 0,.bool false,.slice none 0 0,.bool false,.slice none 0 0,.bool false]⟩,[(0,2,true),(2,16,true)],true,false,none,0,0,[],0,0,0⟩),
  (332,⟨18,true,.agg ⟨[.int .i64 (0),.int .i64 (0),.slice none 0 0,.bool false,.slice none 0 0,.bool false,.slice none 0 0,.bool false,.slice none 0 0,.bool false,.slice none 0 0,.bool false,.slice none 0 0,.bool false,.slice none 0 0,.bool false,.slice none 0 0,.bool false]⟩,[(0,2,true),(2,16,true)],true,false,none,0,0,[],0,0,0⟩),
  (333,⟨1,false,.nilFunc,[],false,false,none,0,0,[],0,0,0⟩),
  (334,⟨1,false,.nilFunc,[],false,false,none,0,0,[],0,0,0⟩),
  (335,⟨1,false,.nilFunc,[],false,false,none,0,0,[],0,0,0⟩),
  (336,⟨1,false,.nilFunc,[],false,false,none,0,0,[],0,0,0⟩),
  (337,⟨1,false,.tuple ⟨[.agg ⟨[.slice none 0 0]⟩,.int .i64 (0)]⟩,[],false,false,none,0,0,[],0,0,0⟩),
  (338,⟨1,false,.nilFunc,[],false,false,none,0,0,[],0,0,0⟩),
  (339,⟨1,false,.nilFunc,[],false,false,none,0,0,[],0,0,0⟩),
  (340,⟨1,false,.tuple ⟨[.slice none 0 0,.int .u32 (0)]⟩,[],false,false,none,0,0,[],0,0,0⟩),
  (341,⟨1,false,.nilFunc,[],false,false,none,0,0,[],0,0,0⟩),
  (342,⟨1,false,.nilFunc,[],false,false,none,0,0,[],0,0,0⟩),
  (343,⟨1,false,.nilFunc,[],false,false,none,0,0,[],0,0,0⟩),
  (344,⟨1,false,.nilFunc,[],false,false,none,0,0,[],0,0,0⟩),
  (345,⟨32,true,.agg ⟨[.int .i64 (0),.int .i64 (0),.int .i64 (0),.int .i64 (0),.int .i64 (0),.int .i64 (0),.int .i64 (0),.int .i64 (0),.int .i64 (0),.int .i64 (0),.int .i64 (0),.int .i64 (0),.int .i64 (0),.int .i64 (0),.int .i64 (0),.int .i64 (0),.int .i64 (0),.int .i64 (0),.int .i64 (0),.int .i64 (0),.int .i64 (0),.int .i64 (0),.int .i64 (0),.int .i64 (0),.int .i64 (0),.int .i64 (0),.int .i64 (0),.int .i64 (0),.int .i64 (0),.int .i64 (0),.int .i64 (0),.int .i64 (0)]⟩,[],false,false,none,4,4,[],300,0,8⟩),
  (346,⟨1,false,.nilFunc,[],false,false,none,0,0,[],0,0,0⟩),
  (347,⟨8,true,.agg ⟨[.int .i64 (0),.slice none 0 0,.int .i64 (0),.slice none 0 0,.int .i64 (0),.slice none 0 0,.int .i64 (0),.slice none 0 0]⟩,[],false,false,none,4,2,[],86,0,4⟩),
  (348,⟨1,false,.nilFunc,[],false,false,none,0,0,[],0,0,0⟩),
  (349,⟨1,false,.tuple ⟨[.agg ⟨[.int .i64 (0),.slice none 0 0,.int .i64 (0),.slice none 0 0]⟩,.bool false]⟩,[],false,false,none,0,0,[],0,0,0⟩),
  (350,⟨1,false,.nilFunc,[],false,false,none,0,0,[],0,0,0⟩),
  (351,⟨1,false,.nilFunc,[],false,false,none,0,0,[],0,0,0⟩),
  (352,⟨1,false,.slice none 0 0,[],false,false,none,3,18,[.int .i64 (0),.int .i64 (0),.slice none 0 0,.bool false,.slice none 0 0,.bool false,.slice none 0 0,.bool false,.slice none 0 0,.bool false,.slice none 0 0,.bool false,.slice none 0 0,.bool false,.slice none 0 0,.bool false,.slice none 0 0,.bool false],332,272,0⟩),
  (353,⟨8,true,.agg ⟨[.slice none 0 0,.bool false,.slice none 0 0,.bool false,.slice none 0 0,.bool false,.slice none 0 0,.bool false]⟩,[],false,false,none,4,2,[],112,0,4⟩),
  (354,⟨1,false,.nilFunc,[],false,false,none,0,0,[],0,0,0⟩),
  (355,⟨1,false,.nilFunc,[],false,false,none,0,0,[],0,0,0⟩),
  (356,⟨1,false,.nilFunc,[],false,false,none,0,0,[],0,0,0⟩),
  (357,⟨1,false,.nilFunc,[],false,false,none,0,0,[],0,0,0⟩),
  (358,⟨1,false,.tuple ⟨[.agg ⟨[.slice none 0 0]⟩,.agg ⟨[.slice none 0 0]⟩]⟩,[],false,false,none,0,0,[],0,0,0⟩),
  (359,⟨1,false,.nilFunc,[],false,false,none,0,0,[],0,0,0⟩),
  (360,⟨1,false,.nilFunc,[],false,false,none,0,0,[],0,0,0⟩),
  (361,⟨1,false,.nilFunc,[],false,false,none,0,0,[],0,0,0⟩),
  (362,⟨4,true,.agg ⟨[.pointer none,.pointer none,.pointer none,.string {data:=⟨[]⟩}]⟩,[(0,1,false),(1,1,false),(2,1,false),(3,1,false)],true,false,none,0,0,[],0,0,0⟩),
  (363,⟨4,true,.agg ⟨[.pointer none,.pointer none,.pointer none,.string {data:=⟨[]⟩}]⟩,[(0,1,false),(1,1,false),(2,1,false),(3,1,false)],true,false,none,0,0,[],0,0,0⟩),
  (364,⟨0,true,.agg ⟨[]⟩,[],false,false,none,4,1,[],16,0,0⟩),
  (365,⟨0,true,.agg ⟨[]⟩,[(0,0,true)],true,false,none,0,0,[],0,0,0⟩),
  (366,⟨0,true,.agg ⟨[]⟩,[(0,0,true)],true,false,none,0,0,[],0,0,0⟩),
  (367,⟨1,false,.int .u8 (0),[],false,false,some .u8,0,0,[],0,0,0⟩),
  (368,⟨1,false,.int .u8 (0),[],false,false,some .u8,0,0,[],0,0,0⟩),
  (369,⟨1,false,.nilFunc,[],false,false,none,0,0,[],0,0,0⟩),
  (370,⟨1,false,.pointer none,[],false,false,none,0,0,[],0,0,0⟩),
  (371,⟨1,false,.int .i32 (0),[],false,false,some .i32,0,0,[],0,0,0⟩),
  (372,⟨1,false,.int .i32 (0),[],false,false,some .i32,0,0,[],0,0,0⟩),
  (373,⟨11,true,.agg ⟨[.int .u64 (0),.int .u64 (0),.int .u32 (0),.int .u8 (0),.int .u8 (0),.int .u8 (0),.int .u8 (0),.nilFunc,.pointer none,.int .i32 (0),.int .i32 (0)]⟩,[(0,1,false),(1,1,false),(2,1,false),(3,1,false),(4,1,false),(5,1,false),(6,1,false),(7,1,false),(8,1,false),(9,1,false),(10,1,false)],true,false,none,0,0,[],0,0,0⟩),
  (374,⟨11,true,.agg ⟨[.int .u64 (0),.int .u64 (0),.int .u32 (0),.int .u8 (0),.int .u8 (0),.int .u8 (0),.int .u8 (0),.nilFunc,.pointer none,.int .i32 (0),.int .i32 (0)]⟩,[(0,1,false),(1,1,false),(2,1,false),(3,1,false),(4,1,false),(5,1,false),(6,1,false),(7,1,false),(8,1,false),(9,1,false),(10,1,false)],true,false,none,0,0,[],0,0,0⟩),
  (375,⟨1,false,.pointer none,[],false,false,none,0,0,[],0,0,0⟩)]
theorem au:tb.Ok Tryz.prog:=Nk
end Go.Proofs.YtgaaopjagcaojaaGreat
set_option linter.unusedSimpArgs false
set_option linter.unusedVariables false
namespace Go.Proofs.YtgaaopjagcaojaaGreat
def dg(l:List Nat)(i:Nat):Nat:=l.getD i 0
theorem tC{l:List Nat}{i:Nat}(h:i<l.length):dg l i=l[i]:=by simp[dg,h]
theorem jh{l:List Nat}{B:Nat}(h:∀d∈l,d<B)(i:Nat)(hB:0<B:=by omega):dg l i<B:=by
 by_cases hi:i<l.length
 ·rw[tC hi];exact h _ (d_ hi)
 ·simp[dg,lY (gV hi),hB]
def val(B:Nat):List Nat→Nat
 | []=>0
 |d::l=>d+B*val B l
theorem Lo(B:Nat):val B []=0:=rfl
theorem lr(B d:Nat)(l:List Nat):val B (d::l)=d+B*val B l:=rfl
theorem Cj(B:Nat)(l m:List Nat):val B (l++m)=val B l+B^l.length*val B m:=by
 induction l with
 |nil=>simp[val]
 |cons d l ih=>
  simp only[dA,lr,ih,aB,eF];grind
theorem kK(B:Nat)(l:List Nat)(d:Nat):val B (l++[d])=val B l+B^l.length*d:=by
 rw[Cj];simp[val]
theorem mG(B:Nat)(l:List Nat)(h:∀d∈l,d<B):val B l<B^l.length:=by
 induction l with
 |nil=>simp[val]
 |cons d l ih=>
  have h1:d<B:=h d (by simp);have h2:=ih (fun x hx=>h x (by simp[hx]));simp only[lr,aB,eF];have h3:B*(val B l+1)≤B*B^l.length:=cI B h2;grind
theorem yT(B:Nat)(l:List Nat)(h:∀d∈l,d=0):val B l=0:=by
 induction l with
 |nil=>rfl
 |cons d l ih=>simp[val,h d (by simp),ih (fun x hx=>h x (by simp[hx]))]
theorem vM(B n:Nat):val B (List.replicate n 0)=0:=yT B _ (by simp)
theorem iE(B:Nat)(l:List Nat)(k:Nat)(hk:k≤l.length):val B l=val B (l.take k)+B^k*val B (l.drop k):=by
 conv=>lhs;rw[←j2 k l,Cj]
 simp[fy hk]
theorem qN(B:Nat)(l:List Nat)(k:Nat)(hk:k<l.length):val B (l.take (k+1))=val B (l.take k)+B^k*dg l k:=by
 rw[List.take_succ_eq_append_getElem hk,kK];simp[fy (gg hk),dg,hk]
theorem eP(B:Nat)(l:List Nat)(k:Nat)(hk:l.length≤k):val B (l.take k)=val B l:=by
 rw[aR hk]
theorem Ff(B:Nat)(l:List Nat)(k:Nat)(hk:l.length≤k):val B (l.take (k+1))=val B (l.take k):=by
 rw[aR hk,aR (by omega)]
def qR(l:List Nat):Prop:=l.getLast?≠some 0
theorem G2:qR []:=by simp[qR]
theorem qR.pos(B:Nat){l:List Nat}(h:qR l)(hl:l≠ []):B^(l.length-1)≤val B l:=by
 obtain⟨m,d,rfl⟩:∃m d,l=m++[d]:=⟨l.dropLast,l.getLast hl,(List.dropLast_concat_getLast hl).symm⟩;have hd:d≠0:=by simpa [qR]using h
 simp only[kK,aA,aB,a_];have:B^m.length*1≤B^m.length*d:=cI _ (by omega);simp only[bU,eI];omega
theorem qR.zero_iff{B:Nat}{l:List Nat}(hB:0<B)(h:qR l):val B l=0↔l=[]:=by
 constructor
 ·intro h0;by_cases hl:l=[]
  ·exact hl
  ·have:=h.pos B hl;have:=gW (n:=l.length-1) hB;omega
 ·rintro rfl;rfl
theorem qR.len_lt{B:Nat}{l m:List Nat}(hB:0<B)(hm:qR m)(hl:∀d∈l,d<B)(h:l.length<m.length):val B l<val B m:=by
 have h1:=mG B l hl;have h2:=hm.pos B (fun e=>by simp[e]at h);have h3:B^l.length≤B^(m.length-1):=da hB (by omega);omega
theorem qR.len_le{B:Nat}{l m:List Nat}(hB:0<B)(hl:qR l)(hm:∀d∈m,d<B)(h:val B l≤val B m):l.length≤m.length:=by
 by_cases hh:m.length<l.length
 ·have:=hl.len_lt hB hm hh;omega
 ·omega
theorem qR.len_of_lt{B:Nat}{l:List Nat}{k:Nat}(hB:1<B)(hl:qR l)(h:val B l<B^k):l.length≤k:=by
 by_cases hh:l=[]
 ·simp[hh]
 ·have:=hl.pos B hh;have h2:B^(l.length-1)<B^k:=iN this h;have:=(Nat.pow_lt_pow_iff_right hB).1 h2;omega
theorem Mt{l:List Nat}{k:Nat}(hk:k≤l.length)(hz:∀i,k≤i→i<l.length→dg l i=0)(hp:0<k→dg l (k-1)≠0)(B:Nat):
  qR (l.take k)∧val B (l.take k)=val B l:=by
 constructor
 ·intro h;rw[fo]at h;simp only[dP,fy hk]at h;by_cases h0:0<k
  ·have:=hp h0;rw[List.getElem?_take_of_lt (by omega)]at h;simp[dg,h]at this
  ·obtain rfl:k=0:=by omega
   simp at h
 ·rw[iE B l k hk,yT B (l.drop k)]
  ·simp
  ·intro d hd;obtain⟨i,hi,rfl⟩:=List.mem_iff_getElem.1 hd;simp only[jK]at hi;have:=hz (k+i) (by omega) (by omega);simpa [dg,show k+i<l.length by omega]using this
theorem DR{B:Nat}{l m:List Nat}{i:Nat}(hlen:l.length=m.length)(hi:i<l.length)(hl:∀d∈l,d<B)
  (hlt:dg l i<dg m i)(hs:∀j,i<j→j<l.length→dg l j=dg m j):val B l<val B m:=by
 have e:l.drop (i+1)=m.drop (i+1):=by
  apply rE (by simp[hlen]);intro j h1 h2;simp only[jK]at h1;have:=hs (i+1+j) (by omega) (by omega);simpa [dg,show i+1+j<l.length by omega,show i+1+j<m.length by omega]using this
 rw[iE B l (i+1) (by omega),iE B m (i+1) (by omega),e,qN B l i hi,qN B m i (by omega)];have h1:val B (l.take i)<B^(l.take i).length:=mG B _ (fun d hd=>hl d (fm hd));simp only[dP,fy (gg hi)]at h1;have h2:B^i*(dg l i+1)≤B^i*dg m i:=cI _ hlt;rw[fD]at h2;omega
theorem El{l m:List Nat}(hlen:l.length=m.length)(hs:∀j,j<l.length→dg l j=dg m j):l=m:=by
 apply rE hlen;intro j h1 h2;simpa [dg,h1,h2]using hs j h1
theorem tB{l:List Nat}{k:Nat}(h:l.length≤k):dg l k=0:=by simp[dg,lY h]
theorem dj(B:Nat)(l:List Nat)(k:Nat):val B (l.take (k+1))=val B (l.take k)+B^k*dg l k:=by
 by_cases h:k<l.length
 ·exact qN B l k h
 ·rw[Ff B l k (by omega),tB (by omega)];simp
theorem wO{B k q x y z:Nat}{o l r:List Nat}(hlen:o.length=k)(hx:dg l k=x)(hy:dg r k=y)(hz:q+x+y=z)(h:val B o+B^k*q=val B (l.take k)+val B (r.take k)):
  val B (o++[z % B])+B^(k+1)*(z/B)=val B (l.take (k+1))+val B (r.take (k+1)):=by
 rw[kK,hlen,dj B l k,dj B r k,hx,hy,eF];have h1:=fY z B;generalize z/B=u at*;generalize z % B=v at*;grind
theorem Bi{B k q x y:Nat}{o l r:List Nat}(hlen:o.length=k)(hx:dg l k=x)(hy:dg r k=y)(h:val B (l.take k)+B^k*q=val B o+val B (r.take k))(hz:q+y≤x:=by omega):
  val B (l.take (k+1))+B^(k+1)*0=val B (o++[x-(q+y)])+val B (r.take (k+1)):=by
 rw[kK,hlen,dj B l k,dj B r k,hx,hy];obtain⟨z,rfl⟩:∃z,x=q+y+z:=⟨x-(q+y),by omega⟩;rw[Nat.add_sub_cancel_left];grind
theorem Bj{B k q x y:Nat}{o l r:List Nat}(hlen:o.length=k)(hx:dg l k=x)(hy:dg r k=y)(h:val B (l.take k)+B^k*q=val B o+val B (r.take k))(hz:q+y≤x+B:=by omega):
  val B (l.take (k+1))+B^(k+1)*1=val B (o++[x+B-(q+y)])+val B (r.take (k+1)):=by
 rw[kK,hlen,dj B l k,dj B r k,hx,hy,eF];obtain⟨z,hz'⟩:∃z,x+B=q+y+z:=⟨x+B-(q+y),by omega⟩;rw[hz',Nat.add_sub_cancel_left];have h2:B^k*(x+B)=B^k*(q+y+z):=by rw[hz']
 grind
theorem Pe{B n q:Nat}{o l r:List Nat}(ho:∀d∈o,d<B)(hol:o.length=n)(hrl:val B r≤val B l)(h:val B l+B^n*q=val B o+val B r):val B o=val B l-val B r:=by
 have h1:=mG B o ho;rw[hol]at h1;cases q with
 |zero=>simp at h;omega
 |succ q=>
  have:B^n*1≤B^n*(q+1):=cI _ (by omega);omega
theorem Sf{B d j q x:Nat}{o l:List Nat}(hj:j<l.length)(hlen:l.length=o.length)(hx:dg l j=x)(h:val B (l.drop (j+1))=d*val B (o.drop (j+1))+q):
  val B (l.drop j)=d*val B ((o.set j ((q*B+x)/d)).drop j)+(q*B+x) % d:=by
 have h1:=fY (q*B+x) d;generalize(q*B+x)/d=u at*;generalize(q*B+x) % d=v at*;have h2:j<(o.set j u).length:=by rw[fx];omega
 have h3:(o.set j u).drop j=u::o.drop (j+1):=by
  rw[bA h2,List.getElem_set_self,List.drop_set_of_lt (by omega)]
 rw[tC hj]at hx;rw[h3,bA hj,lr,h,lr,hx];grind
theorem NY{q x d:Nat}(hq:q<d)(hx:x<4294967296):(q*4294967296+x)/d<4294967296:=by
 rw[eW (by omega)];have:(q+1)*4294967296≤d*4294967296:=cj _ hq;grind
theorem pR{B:Nat}{o:List Nat}{j d:Nat}(h:∀x∈o,x<B)(hd:d<B):∀x∈o.set j d,x<B:=by
 intro x hx;rcases List.mem_or_eq_of_mem_set hx with hx|rfl
 ·exact h x hx
 ·exact hd
theorem jZ{B:Nat}{o:List Nat}{d:Nat}(h:∀x∈o,x<B)(hd:d<B):∀x∈o++[d],x<B:=by
 intro x hx;rcases List.mem_append.1 hx with hx|hx
 ·exact h x hx
 ·simp at hx;omega
theorem Pz(q x:Nat)(hx:x<4294967296):q*4294967296|||x=q*4294967296+x:=by
 have h:=Nat.two_pow_add_eq_or_of_lt (i:=32) (b:=x) (by omega) q;rw[show(2:Nat)^32=4294967296 from rfl,fp]at h;exact h.symm
theorem zY(q x:Nat)(hq:q<4294967296)(hx:x<4294967296):bits .or .u64 ((q:Int)*4294967296) (x:Int)=((q*4294967296+x:Nat):Int):=by
 have h:=u64_or_nat (q*4294967296) x (by omega) (by omega);rw[Pz q x hx]at h;rw[←h];rfl
def mY(x y:Nat):Int:=if x<y then-1 else if x=y then 0 else 1
theorem wT{x y:Nat}(h:x<y):mY x y= -1:=by simp[mY,h]
theorem uQ{x y:Nat}(h:y<x):mY x y=1:=by unfold mY;rw[if_neg (by omega),if_neg (by omega)]
theorem wS(x:Nat):mY x x=0:=by unfold mY;rw[if_neg (by omega),if_pos rfl]
theorem TY(B a b:Nat):val B [a,b]=a+B*b:=by simp[val]
theorem vq{B:Nat}{l:List Nat}{j:Nat}(h:l.length=j+1):val B l=val B (l.take j)+B^j*dg l j:=by
 have h1:=dj B l j;rw[eP B l (j+1) (by omega)]at h1;exact h1
theorem Hg(q x:Nat)(hq:q<4294967296)(hx:x<4294967296):bits .or .u64 (q:Int) ((x:Int)*4294967296)=((q+x*4294967296:Nat):Int):=by
 have h:=u64_or_nat q (x*4294967296) (by omega) (by omega);rw[Nat.or_comm,Pz x q hq]at h;rw[Nat.add_comm,←h];rfl
theorem Mw(x:Nat)(hx:x<18446744073709551616):bits .or .u64 0 (x:Int)=(x:Int):=by
 have h:=u64_or_nat 0 x (by omega) hx;simpa using h
theorem sA(B:Nat)(l:List Nat)(j d:Nat)(hj:j<l.length):val B (l.set j d)+B^j*dg l j=val B l+B^j*d:=by
 have h1:=iE B l j (by omega);have h2:=iE B (l.set j d) j (by simp;omega);rw[bA hj,lr]at h1;have h3:(l.set j d).drop j=d::l.drop (j+1):=by
  rw[bA (by simp;omega),List.getElem_set_self,List.drop_set_of_lt (by omega)]
 rw[List.take_set_of_le (by omega),h3,lr]at h2;rw[h1,h2,tC hj];grind
theorem oW{l:List Nat}{i j d:Nat}(h:i≠j:=by omega):dg (l.set i d) j=dg l j:=by simp[dg,List.getElem?_set_ne h]
theorem Mq(q x y z:Nat)(hq:q<4294967296)(hx:x<4294967296)(hy:y<4294967296)(hz:z<4294967296):(q+(x*y+z))/4294967296<4294967296∧q+(x*y+z)<18446744073709551616:=by
 have:x*y≤4294967295*4294967295:=aX (by omega) (by omega);omega
theorem Pn{B i k q x y z a:Nat}{o r:List Nat}(hp:i+k<o.length)(hy:dg r k=y)(hz:dg o (i+k)=z)
  (h:val B o+B^(i+k)*q=a+B^i*x*val B (r.take k)):
  val B (o.set (i+k) ((q+(x*y+z)) % B))+B^(i+(k+1))*((q+(x*y+z))/B)=a+B^i*x*val B (r.take (k+1)):=by
 have h1:=sA B o (i+k) ((q+(x*y+z)) % B) hp;rw[hz]at h1;rw[dj B r k,hy];have h2:=fY (q+(x*y+z)) B;generalize(q+(x*y+z))/B=u at*;generalize(q+(x*y+z)) % B=v at*;have e1:B^(i+(k+1))=B^(i+k)*B:=by rw[←g_,eF]
 have e2:B^(i+k)=B^i*B^k:=cR B i k;have h3:B^(i+k)*(B*u+v)=B^(i+k)*(q+(x*y+z)):=by rw[h2]
 rw[e1];have h4:val B (o.set (i+k) v)+B^(i+k)*z+B^(i+k)*(B*u)=val B o+B^(i+k)*(q+(x*y+z)):=by rw[←h3,h1];grind
 have h5:val B (o.set (i+k) v)+B^(i+k)*(B*u)=val B o+B^(i+k)*q+B^(i+k)*(x*y):=by grind
 rw[lW,h5,h,e2];grind
theorem SY{B i m q x:Nat}{o l r:List Nat}(hp:i+m<o.length)(hm:r.length=m)(hx:dg l i=x)(hz:dg o (i+m)=0)
  (h:val B o+B^(i+m)*q=val B (l.take i)*val B r+B^i*x*val B (r.take m)):
  val B (o.set (i+m) q)=val B (l.take (i+1))*val B r:=by
 have h1:=sA B o (i+m) q hp;rw[hz]at h1;rw[eP B r m (by omega)]at h;rw[dj B l i,hx];grind
theorem QT{q x sh:Nat}(hq:q<2^sh)(hx:x<4294967296)(hs:sh<32):q+x*2^sh<18446744073709551616∧(q+x*2^sh)/4294967296<2^sh∧q<4294967296:=by
 have h1:2^sh≤2^31:=da (by omega) (by omega);have h2:(x+1)*2^sh≤4294967296*2^sh:=cj _ hx;rw[eD]at h2;refine⟨by omega,?_,by omega⟩;rw[eW (by omega)];omega
theorem PA(q x sh:Nat)(hq:q<2^sh)(hx:x<4294967296)(hs:sh<32):bits .or .u64 (q:Int) (IntKind.u64.wrap ((x:Int)*2^sh))=((q+x*2^sh:Nat):Int):=by
 obtain⟨h1,_,h2⟩:=QT hq hx hs;have e:(x:Int)*2^sh=((x*2^sh:Nat):Int):=by simp
 rw[e,IntWalk.u64_in _ (by omega),u64_or_nat q (x*2^sh) (by omega) (by omega)];congr 1;have h:=Nat.two_pow_add_eq_or_of_lt hq x;rw[fp,Nat.or_comm,←h,Nat.add_comm,fp]
theorem TW{B K k q x P N:Nat}{o l:List Nat}(hlen:o.length=K+k)(hx:dg l k=x)(hN:q+x*P=N)(h:val B o+B^(K+k)*q=B^K*(val B (l.take k)*P)):
  val B (o++[N % B])+B^(K+(k+1))*(N/B)=B^K*(val B (l.take (k+1))*P):=by
 rw[kK,hlen,dj B l k,hx];have h1:=fY N B;generalize N/B=u at*;generalize N % B=v at*;have e1:B^(K+(k+1))=B^(K+k)*B:=by rw[←g_,eF]
 have e2:B^(K+k)=B^K*B^k:=cR B K k;have h3:B^(K+k)*(B*u+v)=B^(K+k)*(q+x*P):=by rw[h1,hN]
 have h4:val B o+B^(K+k)*v+B^(K+(k+1))*u=val B o+B^(K+k)*q+B^(K+k)*(x*P):=by rw[e1];grind
 rw[h4,h,e2];grind
theorem zV(x m:Nat)(hx:x<4294967296)(hm:m<4294967296):0≤(x:Int)*m∧(x:Int)*m≤18446744065119617025:=by
 have h:x*m≤18446744065119617025:=by
  have:x*m≤4294967295*4294967295:=aX (by omega) (by omega);omega
 rw[←dQ];omega
theorem IU{B P Q m y R:Nat}(hB:B=P*Q)(hP:0<P):(m+B*(y+B*R))/P % B=(m+B*y)/P % B:=by
 have e:m+B*(y+B*R)=(m+B*y)+P*(B*(Q*R)):=by subst hB;grind
 rw[e,mU _ _ hP,Nat.add_mul_mod_self_left]
theorem C4{B P Q k x y:Nat}{o l:List Nat}(hB:B=P*Q)(hP:0<P)(hlen:o.length=k)(hk:k<l.length)(hx:dg l k=x)(hy:dg l (k+1)=y)(hl:∀d∈l,d<B)
  (h:val B o+B^k*(val B (l.drop k)/P)=val B l/P)(xY:0<B:=by omega):
  val B (o++[(x+y*B)/P % B])+B^(k+1)*(val B (l.drop (k+1))/P)=val B l/P:=by
 have e1:val B (l.drop k)=x+B*val B (l.drop (k+1)):=by
  rw[bA hk,lr,←tC hk,hx]
 have hx':x<B:=by rw[←hx];exact jh hl (hB:=xY) k
 obtain⟨R,e2⟩:∃R,val B (l.drop (k+1))=y+B*R:=by
  by_cases h2:k+1<l.length
  ·exact⟨val B (l.drop (k+1+1)),by rw[bA h2,lr,←tC h2,hy]⟩
  ·refine⟨0,?_⟩;rw[bp (by omega),←hy,tB (by omega)];rfl
 have e3:val B (l.drop k)/P % B=(x+y*B)/P % B:=by rw[e1,e2,IU hB hP,fp y B]
 have e4:val B (l.drop k)/P/B=val B (l.drop (k+1))/P:=by
  rw[Nat.div_div_eq_div_mul,fp P B,←Nat.div_div_eq_div_mul,e1,mU _ _ xY,jL hx',bU]
 rw[kK,hlen,←e3,←e4,←h,eF];have h1:=fY (val B (l.drop k)/P) B;generalize val B (l.drop k)/P=D at*;generalize D/B=u at*;generalize D % B=v at*;rw[←h1];grind
theorem H_(B:Nat)(hB:0<B)(l:List Nat)(k:Nat)(hl:∀d∈l,d<B):val B (l.drop k)=val B l/B^k:=by
 by_cases hk:k≤l.length
 ·have h1:=iE B l k hk;have h2:=mG B (l.take k) (fun d hd=>hl d (fm hd));simp only[dP,fy hk]at h2;rw[h1,mU _ _ (gW hB),jL h2,bU]
 ·have h1:=mG B l hl;have h2:B^l.length≤B^k:=da hB (by omega);rw[bp (by omega),jL (by omega)];rfl
theorem wV(l:List Nat)(k i:Nat):dg (l.drop k) i=dg l (k+i):=by simp[dg]
theorem MH{sh:Nat}(hs:sh≤32):4294967296=2^sh*2^(32-sh):=by
 rw[←cR,show sh+(32-sh)=32 from by omega]
theorem NU{B m:Nat}{l:List Nat}(hB:0<B)(h:val B l<B^m)(j:Nat)(hj:m≤j):dg l j=0:=by
 by_cases hl:j<l.length
 ·apply Nat.eq_zero_of_not_pos;intro hp;have h1:=iE B l j (by omega);rw[bA hl,lr,←tC hl]at h1;have h2:B^m≤B^j:=da hB hj;have h3:B^j*1≤B^j*(dg l j+B*val B (l.drop (j+1))):=cI _ (by omega);omega
 ·exact tB (by omega)
theorem Ck{B:Nat}{l:List Nat}(m:Nat)(h:∀j,m≤j→dg l j=0):val B l=val B (l.take m):=by
 by_cases hm:m≤l.length
 ·rw[iE B l m hm,yT B (l.drop m)]
  ·simp
  ·intro d hd;obtain⟨i,hi,rfl⟩:=List.mem_iff_getElem.1 hd;simp only[jK]at hi;have:=h (m+i) (by omega);rw[tC (by omega)]at this;simpa using this
 ·rw[eP _ _ _ (by omega)]
theorem xR{B:Nat}{l:List Nat}(hl:∀d∈l,d<B)(m:Nat)(hB:0<B:=by omega):val B (l.take m)<B^m:=by
 have h1:=mG B (l.take m) (fun d hd=>hl d (fm hd));have h2:B^(l.take m).length≤B^m:=da hB (by simp;omega);omega
section
variable{B P t s D2 D two x W2 W:Nat}
theorem Om(hD:D=(t*B+s)*P+D2)(hW:W=(two*B+x)*P+W2)(ht:0<t)(hx:x<B)(hW2:W2<P):W/D≤two/t:=by
 rw[j3 ht];have h1:W/D*D≤W:=Nat.div_mul_le_self W D;generalize W/D=g at*;apply gV;intro hlt;have h2:(two+1)*(B*P)≤g*t*(B*P):=cj _ hlt;have h3:g*t*(B*P)≤g*D:=by
  rw[hD];have:t*(B*P)≤(t*B+s)*P+D2:=by
   have:t*B*P≤(t*B+s)*P:=cj _ (by omega);rw[←lW];omega
  rw[lW];exact cI _ this
 have h4:W<(two+1)*(B*P):=by
  rw[hW];have:(two*B+x+1)*P≤(two*B+B)*P:=cj _ (by omega);have e:(two+1)*(B*P)=(two*B+B)*P:=by grind
  rw[e];rw[eD _ 1]at this;omega
 omega
theorem C_{g left:Nat}(hD:D=(t*B+s)*P+D2)(hW:W=(two*B+x)*P+W2)(hW2:W2<P)(hD0:0<D)(hWB:W<B*D)(_hg:W/D≤g)(hl:g*t+left=two)
  (hc:B≤g∨left*B+x<g*s):W/D≤g-1∧0<g:=by
 have key:W<g*D:=by
  rcases hc with hc|hc
  ·exact cN hWB (cj _ hc)
  ·have h1:two*B+x+1≤g*(t*B+s):=by
    rw[←hl];have:g*(t*B+s)=g*t*B+g*s:=by grind
    rw[this,eD];omega
   have h2:(two*B+x+1)*P≤g*(t*B+s)*P:=cj _ h1;have h3:g*(t*B+s)*P≤g*D:=by
    rw[hD,lW];exact cI _ (by omega)
   rw[eD _ 1]at h2;omega
 have:W/D<g:=by
  rw[eW hD0];exact key
 generalize W/D=q at*;omega
theorem AV{g left:Nat}(hD:D=(t*B+s)*P+D2)(hW:W=(two*B+x)*P+W2)(hD2:D2<P)(hD0:0<D)(hl:g*t+left=two)(hgB:g≤B)
  (hc:g*s≤left*B+x)(ht:0<t:=by omega):g≤W/D+1:=by
 have h1:g*(t*B+s)≤two*B+x:=by
  rw[←hl];have:g*(t*B+s)=g*t*B+g*s:=by grind
  rw[this,eD];omega
 have h2:g*(t*B+s)*P≤(two*B+x)*P:=cj _ h1;have h3:g*D=g*(t*B+s)*P+g*D2:=by rw[hD];grind
 have h4:g*D2≤B*D2:=cj _ hgB;have h5:B*D2≤B*P:=cI _ (by omega);have h6:B*P≤D:=by
  rw[hD];have:1*(B*P)≤t*(B*P):=cj _ ht;have e:(t*B+s)*P=t*(B*P)+s*P:=by grind
  rw[e];omega
 have h7:g*D≤W+D:=by omega
 have h8:(g-1)*D≤W:=by
  rw[Nat.sub_mul,ly];omega
 have:=(j3 hD0).2 h8;omega
theorem za{g left:Nat}(hgB:g≤B)(hs:s<B)(hl:B≤left):g*s≤left*B+x:=by
 have h1:g*s≤B*B:=aX hgB (by omega);have h2:B*B≤left*B:=cj _ hl;omega
theorem Gk(hD:D=(t*B+s)*P+D2)(hW:W=(two*B+x)*P+W2)(hs:s<B)(hD2:D2<P)(UQ:B≤2*t)(_hB:0<B)(hWB:W<B*D):two/t≤B+1:=by
 have ht:0<t:=by omega
 have h1:two<(t+1)*B:=by
  apply Nat.lt_of_not_le;intro hle;have h2:(t+1)*B*(B*P)≤two*(B*P):=cj _ hle;have h3:two*(B*P)≤W:=by
   rw[hW];have:two*B*P≤(two*B+x)*P:=cj _ (by omega);rw[←lW];omega
  have h4:D<(t+1)*B*P:=by
   rw[hD];have:(t*B+s+1)*P≤(t+1)*B*P:=cj _ (by rw[eD];omega);rw[eD _ 1]at this;omega
  have h5:B*D≤B*((t+1)*B*P):=cI _ (by omega);have e:(t+1)*B*(B*P)=B*((t+1)*B*P):=by grind
  omega
 have h6:two/t<B+2:=by
  rw[eW ht];have:(t+1)*B=t*B+B:=by grind
  have:(B+2)*t=t*B+2*t:=by grind
  omega
 omega
end
theorem Dn{B i k g c bo bo' y z x' R:Nat}{p d:List Nat}(hp:i+k<p.length)(hz:dg p (i+k)=z)(hy:dg d k=y)
  (hx:x'+(c+g*y) % B+bo=z+B*bo')
  (h:val B p+B^i*(g*val B (d.take k))=R+B^(i+k)*(c+bo)):
  val B (p.set (i+k) x')+B^i*(g*val B (d.take (k+1)))=R+B^(i+(k+1))*((c+g*y)/B+bo'):=by
 have h1:=sA B p (i+k) x' hp;rw[hz]at h1;rw[dj B d k,hy];have h2:=fY (c+g*y) B;generalize(c+g*y)/B=u at*;generalize(c+g*y) % B=v at*;have e1:B^(i+(k+1))=B^(i+k)*B:=by rw[←g_,eF]
 have e2:B^(i+k)=B^i*B^k:=cR B i k;have e3:B^i*(g*(val B (d.take k)+B^k*y))=B^i*(g*val B (d.take k))+B^(i+k)*(g*y):=by rw[e2];grind
 rw[e3,e1];generalize B^i*(g*val B (d.take k))=S at*;generalize B^(i+k)=Q at*;generalize val B (p.set (i+k) x')=V' at*;generalize val B p=V at*;have h3:Q*(x'+v+bo)=Q*(z+B*bo'):=by rw[hx]
 have h4:Q*(B*u+v)=Q*(c+g*y):=by rw[h2]
 generalize g*y=G at*;grind
theorem Mn{B i n z cb R S:Nat}{p:List Nat}(hp:i+n<p.length)(hz:dg p (i+n)=z)(hzc:cb≤z)
  (h:val B p+S=R+B^(i+n)*cb):val B (p.set (i+n) (z-cb))+S=R:=by
 have h1:=sA B p (i+n) (z-cb) hp;rw[hz]at h1;obtain⟨y,rfl⟩:∃y,z=cb+y:=⟨z-cb,by omega⟩;rw[Nat.add_sub_cancel_left]at*;rw[fD]at h1;omega
theorem Mo{B i n z cb R S:Nat}{p:List Nat}(hp:i+n<p.length)(hz:dg p (i+n)=z)(hzc:z<cb)(hcb:cb≤z+B)
  (h:val B p+S=R+B^(i+n)*cb):val B (p.set (i+n) (z+B-cb))+S=R+B^(i+n)*B:=by
 have h1:=sA B p (i+n) (z+B-cb) hp;rw[hz]at h1;obtain⟨y,hy⟩:∃y,z+B=cb+y:=⟨z+B-cb,by omega⟩;have e:z+B-cb=y:=by omega
 rw[e]at h1⊢;have h2:B^(i+n)*(z+B)=B^(i+n)*(cb+y):=by rw[hy]
 rw[fD,fD]at h2;omega
theorem LB{B i k c y z R:Nat}{p d:List Nat}(hp:i+k<p.length)(hz:dg p (i+k)=z)(hy:dg d k=y)
  (h:val B p+B^(i+k)*c=R+B^i*val B (d.take k)):
  val B (p.set (i+k) ((c+(z+y)) % B))+B^(i+(k+1))*((c+(z+y))/B)=R+B^i*val B (d.take (k+1)):=by
 have h1:=sA B p (i+k) ((c+(z+y)) % B) hp;rw[hz]at h1;rw[dj B d k,hy];have h2:=fY (c+(z+y)) B;generalize(c+(z+y))/B=u at*;generalize(c+(z+y)) % B=v at*;have e1:B^(i+(k+1))=B^(i+k)*B:=by rw[←g_,eF]
 have e2:B^(i+k)=B^i*B^k:=cR B i k;have e3:B^i*(val B (d.take k)+B^k*y)=B^i*val B (d.take k)+B^(i+k)*y:=by rw[e2];grind
 rw[e3,e1];generalize B^i*val B (d.take k)=S at*;generalize B^(i+k)=Q at*;have h4:Q*(B*u+v)=Q*(c+(z+y)):=by rw[h2]
 grind
theorem Nz{B m z c T:Nat}{p:List Nat}(hB:1<B)(hp:m<p.length)(hl:∀d∈p,d<B)(hz:dg p m=z)(hab:∀j,m<j→dg p j=0)(hT:T<B^m)
  (h:val B p+B^m*c=T+B^m*B):z+c=B∧val B (p.set m 0)=T:=by
 have h1:=sA B p m 0 hp;rw[hz]at h1;have h2:val B p=val B (p.take m)+B^m*z:=by
  rw[Ck (B:=B) (m+1) (fun j hj=>hab j (by omega)),dj,hz]
 have h3:=xR (B:=B) hl m;have hP:0<B^m:=gW (by omega);have h4:val B (p.take m)+B^m*(z+c)=T+B^m*B:=by rw[fD];omega
 have h5:z+c=B:=by
  have e1:(val B (p.take m)+B^m*(z+c))/B^m=z+c:=by rw[mU _ _ hP,jL h3,bU]
  have e2:(T+B^m*B)/B^m=B:=by rw[mU _ _ hP,jL hT,bU]
  rw[←e1,h4,e2]
 refine⟨h5,?_⟩;rw[h5]at h4;omega
theorem Yq{B i n:Nat}{p:List Nat}(hB:0<B)(hl:∀d∈p,d<B)(hab:∀j,i+(n+2)<j→dg p j=0)(_hi:i≤p.length):
  val B p/B^i=((dg p (i+(n+2))*B+dg p (i+(n+1)))*B+dg p (i+n))*B^n+val B ((p.drop i).take n):=by
 rw[←H_ B hB p i hl];have h1:val B (p.drop i)=val B ((p.drop i).take (n+3)):=Ck (n+3) (fun j hj=>by rw[wV];exact hab _ (by omega));rw[h1,dj,dj,dj,wV,wV,wV];have e1:B^(n+1)=B^n*B:=eF ..;have e2:B^(n+2)=B^n*B*B:=by rw[show n+2=(n+1)+1 from rfl,eF,eF]
 rw[show n+1+1=n+2 from rfl,e1,e2];grind
theorem TO{B n:Nat}{d:List Nat}(h:d.length=n+2):val B d=(dg d (n+1)*B+dg d n)*B^n+val B (d.take n):=by
 have h1:val B d=val B (d.take (n+2)):=by rw[eP _ _ _ (by omega)]
 rw[h1,dj,dj,eF];grind
theorem vZ{B i g D R V:Nat}(hD:0<D)(hB:0<B^i)(hlo:R/B^i/D≤g)(h:V+B^i*(g*D)=R):g=R/B^i/D∧V<D*B^i:=by
 have h1:g*D≤R/B^i:=by
  rw[j3 hB,fp];omega
 have h2:g≤R/B^i/D:=by rw[j3 hD];exact h1
 have h3:g=R/B^i/D:=by omega
 refine⟨h3,?_⟩;have h4:R/B^i<(g+1)*D:=by
  rw[h3,←eW hD];omega
 have h5:R<(g+1)*D*B^i:=by
  rw[←eW hB];exact h4
 have e:(g+1)*D*B^i=B^i*(g*D)+D*B^i:=by grind
 omega
theorem Kh{B j g D R U V:Nat}{qs:List Nat}(hj:j<qs.length)(h1:V+B^j*(g*D)=R)(h2:R+D*(B^(j+1)*val B (qs.drop (j+1)))=U):
  V+D*(B^j*val B ((qs.set j g).drop j))=U:=by
 have h3:(qs.set j g).drop j=g::qs.drop (j+1):=by
  rw[bA (by simp;omega),List.getElem_set_self,List.drop_set_of_lt (by omega)]
 rw[h3,lr,←h2,←h1,eF];grind
theorem Mp{B j M g D z cb R:Nat}{p:List Nat}(hB:1<B)(hl:∀d∈p,d<B)(hz:dg p M=z)(hzc:z<cb)(hab:∀j',M<j'→dg p j'=0)(hD:0<D)
  (h:val B p+B^j*(g*D)=R+B^M*cb):R/B^j/D<g:=by
 have h2:val B p=val B (p.take M)+B^M*z:=by
  rw[Ck (B:=B) (M+1) (fun j' hj=>hab j' (by omega)),dj,hz]
 have h3:=xR (B:=B) hl M;have h4:B^M*(z+1)≤B^M*cb:=cI _ hzc;rw[fD,fE]at h4;rw[eW hD,eW (gW (by omega))];have e:g*D*B^j=B^j*(g*D):=fp _ _;omega
theorem VX{B j M g D R V V3 c:Nat}(hB:1<B)(hD:0<D)(hDM:D*B^j≤B^M)(hg:R/B^j/D=g)(h:V+B^j*((g+1)*D)=R+B^M*B)(h3:V3+B^M*c=V+B^j*D):
  ∃T,V3+B^M*c=T+B^M*B∧T<B^M∧T+B^j*(g*D)=R:=by
 have hP:0<B^j:=gW (by omega);have h4:B^j*(g*D)≤R:=by
  have h5:g*D≤R/B^j:=by rw[←hg];exact Nat.div_mul_le_self _ _
  have:=(j3 hP).1 h5;rw[fp];exact this
 obtain⟨T,hT⟩:∃T,R=T+B^j*(g*D):=⟨R-B^j*(g*D),by omega⟩;have h6:T<D*B^j:=(vZ (B:=B) (i:=j) (g:=g) (D:=D) (R:=R) (V:=T) hD hP (by omega) hT.symm).2;refine⟨T,?_,by omega,hT.symm⟩;have e:B^j*((g+1)*D)=B^j*(g*D)+B^j*D:=by grind
 omega
theorem Gb{p q x y P:Nat}(hP:0<P)(hy:0<y)(h:p+y*P*q=x*P)(hp:p<y*P):q=x/y∧p/P=x % y:=by
 have e:x*P=y*P*q+p:=by omega
 have h1:x*P/(y*P)=q:=by
  rw[e,Nat.mul_add_div (iw hy hP),jL hp,fK]
 have h2:x*P % (y*P)=p:=by
  rw[e,Nat.mul_add_mod,Nat.mod_eq_of_lt hp]
 rw[Nat.mul_div_mul_right _ _ hP]at h1;rw[Nat.mul_mod_mul_right]at h2;exact⟨h1.symm,by rw[←h2,Nat.mul_div_cancel _ hP]⟩
def dl(x:Nat):List Nat:=if h:x=0 then []else x % 10::dl (x/10)
termination_by x
decreasing_by exact Nat.div_lt_self (by omega) (by omega)
def Vu(l:List Nat):Prop:=∀d∈l,48≤d∧d≤57
theorem Vu.nil:Vu []:=by intro d h;simp at h
theorem Cu{a b:Int}(ha:0≤a)(hb:b≠0):
  (a/b=if b<0 then-((a.natAbs/b.natAbs:Nat):Int)else((a.natAbs/b.natAbs:Nat):Int))∧a % b=((a.natAbs % b.natAbs:Nat):Int):=by
 obtain⟨n,rfl⟩:=Int.eq_ofNat_of_zero_le ha;by_cases h:b<0
 ·obtain⟨m,rfl⟩:∃m:Nat,b= -(m:Int):=⟨b.natAbs,by omega⟩;simp only[Int.ediv_neg,Int.emod_neg,Int.natAbs_neg,Int.natAbs_natCast,if_pos h];exact⟨by rw[kZ],by rw[rB]⟩
 ·obtain⟨m,rfl⟩:=Int.eq_ofNat_of_zero_le (Int.not_lt.1 h);simp only[Int.natAbs_natCast,if_neg h];exact⟨by rw[kZ],by rw[rB]⟩
theorem AT{a b:Int}(ha:a<0)(hb:b≠0)(hr:a.natAbs % b.natAbs=0):
  (a/b=if b<0 then((a.natAbs/b.natAbs:Nat):Int)else-((a.natAbs/b.natAbs:Nat):Int))∧a % b=0:=by
 have hd:b∣a:=Int.natAbs_dvd_natAbs.1 (Nat.dvd_of_mod_eq_zero hr);have h0:a % b=0:=Int.emod_eq_zero_of_dvd hd;refine⟨?_,h0⟩;have h1:=fY a.natAbs b.natAbs;have h2:=Int.mul_ediv_add_emod a b;have h3:((a.natAbs:Nat):Int)= -a:=by omega
 have h4:((b.natAbs*(a.natAbs/b.natAbs):Nat):Int)= -a:=by rw[←h3];congr 1;omega
 rw[dQ]at h4;split
 ·rename_i h;have h5:((b.natAbs:Nat):Int)= -b:=by omega
  rw[h5]at h4;have:b*(a/b)=b*((a.natAbs/b.natAbs:Nat):Int):=by rw[Int.neg_mul]at h4;omega
  exact Int.eq_of_mul_eq_mul_left hb this
 ·rename_i h;have h5:((b.natAbs:Nat):Int)=b:=by omega
  rw[h5]at h4;have:b*(a/b)=b* -((a.natAbs/b.natAbs:Nat):Int):=by rw[Int.mul_neg];omega
  exact Int.eq_of_mul_eq_mul_left hb this
theorem Ct{a b:Int}(ha:a<0)(hb:b≠0)(hr:a.natAbs % b.natAbs≠0):
  (a/b=if b<0 then((a.natAbs/b.natAbs:Nat):Int)+1 else-((a.natAbs/b.natAbs:Nat):Int)-1)∧a % b=((b.natAbs:Nat):Int)-((a.natAbs % b.natAbs:Nat):Int):=by
 have h1:=fY a.natAbs b.natAbs;have hb0:0<b.natAbs:=by omega
 have hlt:=fG a.natAbs hb0;have h3:((a.natAbs:Nat):Int)= -a:=by omega
 have h4:((b.natAbs*(a.natAbs/b.natAbs):Nat):Int)= -a-((a.natAbs % b.natAbs:Nat):Int):=by rw[←h3];omega
 rw[dQ]at h4;generalize((a.natAbs/b.natAbs:Nat):Int)=q at*;have sU:((a.natAbs % b.natAbs:Nat):Int)<((b.natAbs:Nat):Int):=by omega
 have hr':0<((a.natAbs % b.natAbs:Nat):Int):=by omega
 generalize((a.natAbs % b.natAbs:Nat):Int)=r at*;split
 ·rename_i h;have h5:((b.natAbs:Nat):Int)= -b:=by omega
  rw[h5]at h4 sU⊢;have e:a=b*(q+1)+(-b-r):=by rw[Int.mul_add,Int.mul_one];rw[Int.neg_mul]at h4;omega
  have:=(Int.ediv_emod_unique' (a:=a) (b:=b) (r:= -b-r) (q:=q+1) h).2 ⟨by omega,by omega,by omega⟩;exact⟨this.1,this.2⟩
 ·rename_i h;have h5:((b.natAbs:Nat):Int)=b:=by omega
  rw[h5]at h4 sU⊢;have e:a=b*(-q-1)+(b-r):=by rw[Int.mul_sub,Int.mul_one,Int.mul_neg];omega
  have:=(Int.ediv_emod_unique (a:=a) (b:=b) (r:=b-r) (q:= -q-1) (by omega)).2 ⟨by omega,by omega,by omega⟩;exact⟨this.1,this.2⟩
end Go.Proofs.YtgaaopjagcaojaaGreat
