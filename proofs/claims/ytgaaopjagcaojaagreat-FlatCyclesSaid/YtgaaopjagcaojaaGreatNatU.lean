import Derived.Test.YtgaaopjagcaojaaGreatProg
import Derived.Test.YtgaaopjagcaojaaGreatVm
import Derived.WalkKit
import Derived.WalkSpells
import Derived.WalkLawsBesides
import Derived.Lib.Hide
import Derived.KernelRfl
import Derived.Lib.Strings
import Derived.Lib.Slices
import Derived.Lib.Small
import Derived.Lib.Walk
import Derived.Lib.BitFns
import Derived.Deep.RegionHeld3
import Derived.Deep.RegionWith
import Derived.Deep.DrawnRows
import Derived.BigRegion
import Derived.Deep.Upon
import Derived.Deep.AppendSrc
import Derived.RegionTactic
import Derived.Deep.QuietTactic
import Derived.BigQuiet
namespace Go.Proofs.YtgaaopjagcaojaaGreat
abbrev bk:=@Go.Lib.hid
abbrev eY:=@Go.bodyPost_ret
abbrev jL:=@Go.below_drewN
abbrev kQ:=@Go.Value.slice.injEq
abbrev pR:=@Go.Addr.mk.injEq
def tb:Tb where
 data:=[273]
 ty:=[
  (0,⟨1,false,.tuple ⟨[]⟩,[],false,false,none,0,0,[],0,0,0⟩),
  (1,⟨1,false,.nilFunc,[],false,false,none,0,0,[],0,0,0⟩),
  (2,⟨1,false,.int .i64 (0),[],false,false,some .i64,0,0,[],0,0,0⟩),
  (3,⟨1,false,.int .i64 (0),[],false,false,some .i64,0,0,[],0,0,0⟩),
  (4,⟨1,false,.bool false,[],false,true,none,0,0,[],0,0,0⟩),
  (5,⟨1,false,.int .u8 (0),[],false,false,some .u8,0,0,[],0,0,0⟩),
  (6,⟨1,false,.int .u8 (0),[],false,false,some .u8,0,0,[],0,0,0⟩),
  (7,⟨4,true,.agg ⟨[.int .i64 (0),.int .i64 (0),.bool false,.int .u8 (0)]⟩,[(0,1,false),(1,1,false),(2,1,false),(3,1,false)],true,false,none,0,0,[],0,0,0⟩),
  (8,⟨4,true,.agg ⟨[.int .i64 (0),.int .i64 (0),.bool false,.int .u8 (0)]⟩,[(0,1,false),(1,1,false),(2,1,false),(3,1,false)],true,false,none,0,0,[],0,0,0⟩),
  (9,⟨1,false,.string {data:=⟨[]⟩},[],false,false,none,2,0,[],0,0,0⟩),
  (10,⟨1,false,.string {data:=⟨[]⟩},[],false,false,none,2,0,[],0,0,0⟩),
  (11,⟨1,false,.string {data:=⟨[]⟩},[],false,false,none,2,0,[],0,0,0⟩),
  (12,⟨1,false,.int .u64 (0),[],false,false,some .u64,0,0,[],0,0,0⟩),
  (13,⟨2,true,.agg ⟨[.string {data:=⟨[]⟩},.int .u64 (0)]⟩,[(0,1,false),(1,1,false)],true,false,none,0,0,[],0,0,0⟩),
  (14,⟨2,true,.agg ⟨[.string {data:=⟨[]⟩},.int .u64 (0)]⟩,[(0,1,false),(1,1,false)],true,false,none,0,0,[],0,0,0⟩),
  (15,⟨1,false,.pointer none,[],false,false,none,0,0,[],0,0,0⟩),
  (16,⟨1,false,.pointer none,[],false,false,none,0,0,[],0,0,0⟩),
  (17,⟨1,false,.pointer none,[],false,false,none,0,0,[],0,0,0⟩),
  (18,⟨1,true,.agg ⟨[.pointer none]⟩,[(0,1,false)],true,false,none,0,0,[],0,0,0⟩),
  (19,⟨1,true,.agg ⟨[.pointer none]⟩,[(0,1,false)],true,false,none,0,0,[],0,0,0⟩),
  (20,⟨1,false,.nilIface,[],false,false,none,0,0,[],0,0,0⟩),
  (21,⟨1,false,.int .i32 (0),[],false,false,some .i32,0,0,[],0,0,0⟩),
  (22,⟨1,false,.slice none 0 0,[],false,false,none,3,3,[.int .u8 (0),.int .u8 (0),.slice none 0 0],45,32,0⟩),
  (23,⟨1,false,.slice none 0 0,[],false,false,none,3,2,[.slice none 0 0,.slice none 0 0],43,48,0⟩),
  (24,⟨2,true,.agg ⟨[.slice none 0 0,.slice none 0 0]⟩,[(0,1,false),(1,1,false)],true,false,none,0,0,[],0,0,0⟩),
  (25,⟨2,true,.agg ⟨[.slice none 0 0,.slice none 0 0]⟩,[(0,1,false),(1,1,false)],true,false,none,0,0,[],0,0,0⟩),
  (26,⟨1,false,.nilFunc,[],false,false,none,0,0,[],0,0,0⟩),
  (27,⟨1,false,.nilFunc,[],false,false,none,0,0,[],0,0,0⟩),
  (28,⟨1,false,.slice none 0 0,[],false,false,none,3,1,[.int .u8 (0)],5,1,0⟩),
  (29,⟨1,false,.tuple ⟨[.slice none 0 0,.int .i64 (0)]⟩,[],false,false,none,0,0,[],0,0,0⟩),
  (30,⟨1,false,.nilFunc,[],false,false,none,0,0,[],0,0,0⟩),
  (31,⟨1,false,.nilFunc,[],false,false,none,0,0,[],0,0,0⟩),
  (32,⟨1,false,.slice none 0 0,[],false,false,none,3,3,[.int .i64 (0),.int .i64 (0),.slice none 0 0],56,40,0⟩),
  (33,⟨1,false,.int .i64 (0),[],false,false,some .i64,0,0,[],0,0,0⟩),
  (34,⟨1,false,.tuple ⟨[.slice none 0 0,.int .i64 (0)]⟩,[],false,false,none,0,0,[],0,0,0⟩),
  (35,⟨1,false,.nilFunc,[],false,false,none,0,0,[],0,0,0⟩),
  (36,⟨1,false,.tuple ⟨[.slice none 0 0,.int .i64 (0)]⟩,[],false,false,none,0,0,[],0,0,0⟩),
  (37,⟨1,false,.nilFunc,[],false,false,none,0,0,[],0,0,0⟩),
  (38,⟨1,false,.nilFunc,[],false,false,none,0,0,[],0,0,0⟩),
  (39,⟨1,false,.nilFunc,[],false,false,none,0,0,[],0,0,0⟩),
  (40,⟨1,false,.int .u64 (0),[],false,false,some .u64,0,0,[],0,0,0⟩),
  (41,⟨1,false,.slice none 0 0,[],false,false,none,3,2,[.slice none 0 0,.slice none 0 0],49,48,0⟩),
  (42,⟨2,true,.agg ⟨[.slice none 0 0,.slice none 0 0]⟩,[(0,1,false),(1,1,false)],true,false,none,0,0,[],0,0,0⟩),
  (43,⟨2,true,.agg ⟨[.slice none 0 0,.slice none 0 0]⟩,[(0,1,false),(1,1,false)],true,false,none,0,0,[],0,0,0⟩),
  (44,⟨3,true,.agg ⟨[.int .u8 (0),.int .u8 (0),.slice none 0 0]⟩,[(0,1,false),(1,1,false),(2,1,false)],true,false,none,0,0,[],0,0,0⟩),
  (45,⟨3,true,.agg ⟨[.int .u8 (0),.int .u8 (0),.slice none 0 0]⟩,[(0,1,false),(1,1,false),(2,1,false)],true,false,none,0,0,[],0,0,0⟩),
  (46,⟨1,false,.tuple ⟨[.agg ⟨[.int .u8 (0),.int .u8 (0),.slice none 0 0]⟩,.bool false]⟩,[],false,false,none,0,0,[],0,0,0⟩),
  (47,⟨1,false,.nilFunc,[],false,false,none,0,0,[],0,0,0⟩),
  (48,⟨2,true,.agg ⟨[.slice none 0 0,.slice none 0 0]⟩,[(0,1,false),(1,1,false)],true,false,none,0,0,[],0,0,0⟩),
  (49,⟨2,true,.agg ⟨[.slice none 0 0,.slice none 0 0]⟩,[(0,1,false),(1,1,false)],true,false,none,0,0,[],0,0,0⟩),
  (50,⟨1,false,.nilFunc,[],false,false,none,0,0,[],0,0,0⟩),
  (51,⟨1,false,.nilFunc,[],false,false,none,0,0,[],0,0,0⟩),
  (52,⟨1,false,.nilFunc,[],false,false,none,0,0,[],0,0,0⟩),
  (53,⟨1,false,.nilFunc,[],false,false,none,0,0,[],0,0,0⟩),
  (54,⟨1,false,.slice none 0 0,[],false,false,none,3,2,[.int .i64 (0),.int .i64 (0)],58,16,0⟩),
  (55,⟨3,true,.agg ⟨[.int .i64 (0),.int .i64 (0),.slice none 0 0]⟩,[(0,1,false),(1,1,false),(2,1,false)],true,false,none,0,0,[],0,0,0⟩),
  (56,⟨3,true,.agg ⟨[.int .i64 (0),.int .i64 (0),.slice none 0 0]⟩,[(0,1,false),(1,1,false),(2,1,false)],true,false,none,0,0,[],0,0,0⟩),
  (57,⟨2,true,.agg ⟨[.int .i64 (0),.int .i64 (0)]⟩,[(0,1,false),(1,1,false)],true,false,none,0,0,[],0,0,0⟩),
  (58,⟨2,true,.agg ⟨[.int .i64 (0),.int .i64 (0)]⟩,[(0,1,false),(1,1,false)],true,false,none,0,0,[],0,0,0⟩),
  (59,⟨1,false,.nilFunc,[],false,false,none,0,0,[],0,0,0⟩),
  (60,⟨1,false,.nilFunc,[],false,false,none,0,0,[],0,0,0⟩),
  (61,⟨1,false,.nilFunc,[],false,false,none,0,0,[],0,0,0⟩),
  (62,⟨1,false,.nilFunc,[],false,false,none,0,0,[],0,0,0⟩),
  (63,⟨1,false,.nilFunc,[],false,false,none,0,0,[],0,0,0⟩),
  (64,⟨1,false,.nilFunc,[],false,false,none,0,0,[],0,0,0⟩),
  (65,⟨1,false,.nilFunc,[],false,false,none,0,0,[],0,0,0⟩),
  (66,⟨1,false,.nilFunc,[],false,false,none,0,0,[],0,0,0⟩),
  (67,⟨1,false,.nilFunc,[],false,false,none,0,0,[],0,0,0⟩),
  (68,⟨1,false,.pointer none,[],false,false,none,0,0,[],0,0,0⟩),
  (69,⟨1,false,.map none,[],false,false,none,0,0,[],0,0,0⟩),
  (70,⟨1,false,.map none,[],false,false,none,0,0,[],0,0,0⟩),
  (71,⟨6,true,.agg ⟨[.slice none 0 0,.map none,.map none,.map none,.int .i64 (0),.slice none 0 0]⟩,[(0,1,false),(1,1,false),(2,1,false),(3,1,false),(4,1,false),(5,1,false)],true,false,none,0,0,[],0,0,0⟩),
  (72,⟨6,true,.agg ⟨[.slice none 0 0,.map none,.map none,.map none,.int .i64 (0),.slice none 0 0]⟩,[(0,1,false),(1,1,false),(2,1,false),(3,1,false),(4,1,false),(5,1,false)],true,false,none,0,0,[],0,0,0⟩),
  (73,⟨1,false,.tuple ⟨[.int .i64 (0),.bool false]⟩,[],false,false,none,0,0,[],0,0,0⟩),
  (74,⟨1,false,.nilFunc,[],false,false,none,0,0,[],0,0,0⟩),
  (75,⟨1,false,.slice none 0 0,[],false,false,none,3,1,[.bool false],4,1,0⟩),
  (76,⟨1,false,.nilFunc,[],false,false,none,0,0,[],0,0,0⟩),
  (77,⟨1,false,.nilFunc,[],false,false,none,0,0,[],0,0,0⟩),
  (78,⟨1,false,.pointer none,[],false,false,none,0,0,[],0,0,0⟩),
  (79,⟨1,false,.slice none 0 0,[],false,false,none,3,1,[.int .i64 (0)],3,8,0⟩),
  (80,⟨5,true,.agg ⟨[.slice none 0 0,.slice none 0 0,.int .i64 (0),.slice none 0 0,.slice none 0 0]⟩,[(0,2,true),(2,1,false),(3,1,false),(4,1,false)],true,false,none,0,0,[],0,0,0⟩),
  (81,⟨5,true,.agg ⟨[.slice none 0 0,.slice none 0 0,.int .i64 (0),.slice none 0 0,.slice none 0 0]⟩,[(0,2,true),(2,1,false),(3,1,false),(4,1,false)],true,false,none,0,0,[],0,0,0⟩),
  (82,⟨1,false,.nilFunc,[],false,false,none,0,0,[],0,0,0⟩),
  (83,⟨1,true,.agg ⟨[.slice none 0 0]⟩,[(0,1,false)],true,false,none,0,0,[],0,0,0⟩),
  (84,⟨1,true,.agg ⟨[.slice none 0 0]⟩,[(0,1,false)],true,false,none,0,0,[],0,0,0⟩),
  (85,⟨2,true,.agg ⟨[.int .i64 (0),.slice none 0 0]⟩,[(0,1,false),(1,1,true)],true,false,none,0,0,[],0,0,0⟩),
  (86,⟨2,true,.agg ⟨[.int .i64 (0),.slice none 0 0]⟩,[(0,1,false),(1,1,true)],true,false,none,0,0,[],0,0,0⟩),
  (87,⟨4,true,.agg ⟨[.int .i64 (0),.slice none 0 0,.int .i64 (0),.slice none 0 0]⟩,[(0,2,true),(2,2,true)],true,false,none,0,0,[],0,0,0⟩),
  (88,⟨4,true,.agg ⟨[.int .i64 (0),.slice none 0 0,.int .i64 (0),.slice none 0 0]⟩,[(0,2,true),(2,2,true)],true,false,none,0,0,[],0,0,0⟩),
  (89,⟨16,true,.agg ⟨[.int .i64 (0),.slice none 0 0,.int .i64 (0),.slice none 0 0,.int .i64 (0),.slice none 0 0,.int .i64 (0),.slice none 0 0,.int .i64 (0),.slice none 0 0,.int .i64 (0),.slice none 0 0,.int .i64 (0),.slice none 0 0,.int .i64 (0),.slice none 0 0]⟩,[],false,false,none,4,4,[],88,0,4⟩),
  (90,⟨20,true,.agg ⟨[.int .i64 (0),.slice none 0 0,.int .i64 (0),.slice none 0 0,.int .i64 (0),.slice none 0 0,.int .i64 (0),.slice none 0 0,.int .i64 (0),.slice none 0 0,.int .i64 (0),.slice none 0 0,.int .i64 (0),.slice none 0 0,.int .i64 (0),.slice none 0 0,.int .i64 (0),.slice none 0 0,.int .i64 (0),.slice none 0 0]⟩,[(0,2,true),(2,2,true),(4,16,true)],true,false,none,0,0,[],0,0,0⟩),
  (91,⟨20,true,.agg ⟨[.int .i64 (0),.slice none 0 0,.int .i64 (0),.slice none 0 0,.int .i64 (0),.slice none 0 0,.int .i64 (0),.slice none 0 0,.int .i64 (0),.slice none 0 0,.int .i64 (0),.slice none 0 0,.int .i64 (0),.slice none 0 0,.int .i64 (0),.slice none 0 0,.int .i64 (0),.slice none 0 0,.int .i64 (0),.slice none 0 0]⟩,[(0,2,true),(2,2,true),(4,16,true)],true,false,none,0,0,[],0,0,0⟩),
  (92,⟨40,true,.agg ⟨[.int .i64 (0),.slice none 0 0,.int .i64 (0),.slice none 0 0,.int .i64 (0),.slice none 0 0,.int .i64 (0),.slice none 0 0,.int .i64 (0),.slice none 0 0,.int .i64 (0),.slice none 0 0,.int .i64 (0),.slice none 0 0,.int .i64 (0),.slice none 0 0,.int .i64 (0),.slice none 0 0,.int .i64 (0),.slice none 0 0,.int .i64 (0),.slice none 0 0,.int .i64 (0),.slice none 0 0,.int .i64 (0),.slice none 0 0,.int .i64 (0),.slice none 0 0,.int .i64 (0),.slice none 0 0,.int .i64 (0),.slice none 0 0,.int .i64 (0),.slice none 0 0,.int .i64 (0),.slice none 0 0,.int .i64 (0),.slice none 0 0,.int .i64 (0),.slice none 0 0]⟩,[(0,20,true),(20,20,true)],true,false,none,0,0,[],0,0,0⟩),
  (93,⟨40,true,.agg ⟨[.int .i64 (0),.slice none 0 0,.int .i64 (0),.slice none 0 0,.int .i64 (0),.slice none 0 0,.int .i64 (0),.slice none 0 0,.int .i64 (0),.slice none 0 0,.int .i64 (0),.slice none 0 0,.int .i64 (0),.slice none 0 0,.int .i64 (0),.slice none 0 0,.int .i64 (0),.slice none 0 0,.int .i64 (0),.slice none 0 0,.int .i64 (0),.slice none 0 0,.int .i64 (0),.slice none 0 0,.int .i64 (0),.slice none 0 0,.int .i64 (0),.slice none 0 0,.int .i64 (0),.slice none 0 0,.int .i64 (0),.slice none 0 0,.int .i64 (0),.slice none 0 0,.int .i64 (0),.slice none 0 0,.int .i64 (0),.slice none 0 0,.int .i64 (0),.slice none 0 0]⟩,[(0,20,true),(20,20,true)],true,false,none,0,0,[],0,0,0⟩),
  (94,⟨120,true,.agg ⟨[.int .i64 (0),.slice none 0 0,.int .i64 (0),.slice none 0 0,.int .i64 (0),.slice none 0 0,.int .i64 (0),.slice none 0 0,.int .i64 (0),.slice none 0 0,.int .i64 (0),.slice none 0 0,.int .i64 (0),.slice none 0 0,.int .i64 (0),.slice none 0 0,.int .i64 (0),.slice none 0 0,.int .i64 (0),.slice none 0 0,.int .i64 (0),.slice none 0 0,.int .i64 (0),.slice none 0 0,.int .i64 (0),.slice none 0 0,.int .i64 (0),.slice none 0 0,.int .i64 (0),.slice none 0 0,.int .i64 (0),.slice none 0 0,.int .i64 (0),.slice none 0 0,.int .i64 (0),.slice none 0 0,.int .i64 (0),.slice none 0 0,.int .i64 (0),.slice none 0 0,.int .i64 (0),.slice none 0 0,.int .i64 (0),.slice none 0 0,.int .i64 (0),.slice none 0 0,.int .i64 (0),.slice none 0 0,.int .i64 (0),.slice none 0 0,.int .i64 (0),.slice none 0 0,.int .i64 (0),.slice none 0 0,.int .i64 (0),.slice none 0 0,.int .i64 (0),.slice none 0 0,.int .i64 (0),.slice none 0 0,.int .i64 (0),.slice none 0 0,.int .i64 (0),.slice none 0 0,.int .i64 (0),.slice none 0 0,.int .i64 (0),.slice none 0 0,.int .i64 (0),.slice none 0 0,.int .i64 (0),.slice none 0 0,.int .i64 (0),.slice none 0 0,.int .i64 (0),.slice none 0 0,.int .i64 (0),.slice none 0 0,.int .i64 (0),.slice none 0 0,.int .i64 (0),.slice none 0 0,.int .i64 (0),.slice none 0 0,.int .i64 (0),.slice none 0 0,.int .i64 (0),.slice none 0 0,.int .i64 (0),.slice none 0 0,.int .i64 (0),.slice none 0 0,.int .i64 (0),.slice none 0 0,.int .i64 (0),.slice none 0 0,.int .i64 (0),.slice none 0 0,.int .i64 (0),.slice none 0 0,.int .i64 (0),.slice none 0 0,.int .i64 (0),.slice none 0 0,.int .i64 (0),.slice none 0 0,.int .i64 (0),.slice none 0 0,.int .i64 (0),.slice none 0 0,.int .i64 (0),.slice none 0 0,.int .i64 (0),.slice none 0 0,.int .i64 (0),.slice none 0 0,.int .i64 (0),.slice none 0 0,.int .i64 (0),.slice none 0 0]⟩,[(0,20,true),(20,20,true),(40,20,true),(60,20,true),(80,40,true)],true,false,none,0,0,[],0,0,0⟩),
  (95,⟨120,true,.agg ⟨[.int .i64 (0),.slice none 0 0,.int .i64 (0),.slice none 0 0,.int .i64 (0),.slice none 0 0,.int .i64 (0),.slice none 0 0,.int .i64 (0),.slice none 0 0,.int .i64 (0),.slice none 0 0,.int .i64 (0),.slice none 0 0,.int .i64 (0),.slice none 0 0,.int .i64 (0),.slice none 0 0,.int .i64 (0),.slice none 0 0,.int .i64 (0),.slice none 0 0,.int .i64 (0),.slice none 0 0,.int .i64 (0),.slice none 0 0,.int .i64 (0),.slice none 0 0,.int .i64 (0),.slice none 0 0,.int .i64 (0),.slice none 0 0,.int .i64 (0),.slice none 0 0,.int .i64 (0),.slice none 0 0,.int .i64 (0),.slice none 0 0,.int .i64 (0),.slice none 0 0,.int .i64 (0),.slice none 0 0,.int .i64 (0),.slice none 0 0,.int .i64 (0),.slice none 0 0,.int .i64 (0),.slice none 0 0,.int .i64 (0),.slice none 0 0,.int .i64 (0),.slice none 0 0,.int .i64 (0),.slice none 0 0,.int .i64 (0),.slice none 0 0,.int .i64 (0),.slice none 0 0,.int .i64 (0),.slice none 0 0,.int .i64 (0),.slice none 0 0,.int .i64 (0),.slice none 0 0,.int .i64 (0),.slice none 0 0,.int .i64 (0),.slice none 0 0,.int .i64 (0),.slice none 0 0,.int .i64 (0),.slice none 0 0,.int .i64 (0),.slice none 0 0,.int .i64 (0),.slice none 0 0,.int .i64 (0),.slice none 0 0,.int .i64 (0),.slice none 0 0,.int .i64 (0),.slice none 0 0,.int .i64 (0),.slice none 0 0,.int .i64 (0),.slice none 0 0,.int .i64 (0),.slice none 0 0,.int .i64 (0),.slice none 0 0,.int .i64 (0),.slice none 0 0,.int .i64 (0),.slice none 0 0,.int .i64 (0),.slice none 0 0,.int .i64 (0),.slice none 0 0,.int .i64 (0),.slice none 0 0,.int .i64 (0),.slice none 0 0,.int .i64 (0),.slice none 0 0,.int .i64 (0),.slice none 0 0,.int .i64 (0),.slice none 0 0,.int .i64 (0),.slice none 0 0,.int .i64 (0),.slice none 0 0,.int .i64 (0),.slice none 0 0,.int .i64 (0),.slice none 0 0,.int .i64 (0),.slice none 0 0,.int .i64 (0),.slice none 0 0]⟩,[(0,20,true),(20,20,true),(40,20,true),(60,20,true),(80,40,true)],true,false,none,0,0,[],0,0,0⟩),
  (96,⟨1,false,.nilFunc,[],false,false,none,0,0,[],0,0,0⟩),
  (97,⟨1,false,.nilFunc,[],false,false,none,0,0,[],0,0,0⟩),
  (98,⟨1,false,.nilFunc,[],false,false,none,0,0,[],0,0,0⟩),
  (99,⟨1,false,.int .u64 (0),[],false,false,some .u64,0,0,[],0,0,0⟩),
  (100,⟨1,false,.nilFunc,[],false,false,none,0,0,[],0,0,0⟩),
  (101,⟨1,false,.tuple ⟨[.agg ⟨[.slice none 0 0,.slice none 0 0]⟩,.int .i64 (0)]⟩,[],false,false,none,0,0,[],0,0,0⟩),
  (102,⟨1,false,.nilFunc,[],false,false,none,0,0,[],0,0,0⟩),
  (103,⟨1,false,.nilFunc,[],false,false,none,0,0,[],0,0,0⟩),
  (104,⟨1,false,.map none,[],false,false,none,0,0,[],0,0,0⟩),
  (105,⟨1,false,.nilFunc,[],false,false,none,0,0,[],0,0,0⟩),
  (106,⟨1,false,.nilFunc,[],false,false,none,0,0,[],0,0,0⟩),
  (107,⟨1,false,.nilFunc,[],false,false,none,0,0,[],0,0,0⟩),
  (108,⟨1,false,.slice none 0 0,[],false,false,none,3,1,[.int .u32 (0)],273,4,0⟩),
  (109,⟨1,true,.agg ⟨[.slice none 0 0]⟩,[(0,1,false)],true,false,none,0,0,[],0,0,0⟩),
  (110,⟨1,true,.agg ⟨[.slice none 0 0]⟩,[(0,1,false)],true,false,none,0,0,[],0,0,0⟩),
  (111,⟨2,true,.agg ⟨[.slice none 0 0,.bool false]⟩,[(0,1,true),(1,1,false)],true,false,none,0,0,[],0,0,0⟩),
  (112,⟨2,true,.agg ⟨[.slice none 0 0,.bool false]⟩,[(0,1,true),(1,1,false)],true,false,none,0,0,[],0,0,0⟩),
  (113,⟨4,true,.agg ⟨[.slice none 0 0,.bool false,.slice none 0 0,.bool false]⟩,[(0,2,true),(2,2,true)],true,false,none,0,0,[],0,0,0⟩),
  (114,⟨4,true,.agg ⟨[.slice none 0 0,.bool false,.slice none 0 0,.bool false]⟩,[(0,2,true),(2,2,true)],true,false,none,0,0,[],0,0,0⟩),
  (115,⟨8,true,.agg ⟨[.slice none 0 0,.bool false,.slice none 0 0,.bool false,.slice none 0 0,.bool false,.slice none 0 0,.bool false]⟩,[],false,false,none,4,4,[],114,0,2⟩),
  (116,⟨22,true,.agg ⟨[.bool false,.int .i64 (0),.slice none 0 0,.bool false,.slice none 0 0,.bool false,.slice none 0 0,.bool false,.slice none 0 0,.bool false,.slice none 0 0,.bool false,.slice none 0 0,.bool false,.slice none 0 0,.bool false,.slice none 0 0,.bool false,.slice none 0 0,.bool false,.slice none 0 0,.bool false]⟩,[(0,1,false),(1,1,false),(2,4,true),(6,8,true),(14,8,true)],true,false,none,0,0,[],0,0,0⟩),
  (117,⟨22,true,.agg ⟨[.bool false,.int .i64 (0),.slice none 0 0,.bool false,.slice none 0 0,.bool false,.slice none 0 0,.bool false,.slice none 0 0,.bool false,.slice none 0 0,.bool false,.slice none 0 0,.bool false,.slice none 0 0,.bool false,.slice none 0 0,.bool false,.slice none 0 0,.bool false,.slice none 0 0,.bool false]⟩,[(0,1,false),(1,1,false),(2,4,true),(6,8,true),(14,8,true)],true,false,none,0,0,[],0,0,0⟩),
  (118,⟨1,false,.tuple ⟨[.agg ⟨[.slice none 0 0,.slice none 0 0]⟩,.bool false]⟩,[],false,false,none,0,0,[],0,0,0⟩),
  (119,⟨1,false,.nilFunc,[],false,false,none,0,0,[],0,0,0⟩),
  (120,⟨1,false,.nilFunc,[],false,false,none,0,0,[],0,0,0⟩),
  (121,⟨1,false,.slice none 0 0,[],false,false,none,3,26,[.int .i64 (0),.int .i64 (0),.int .i64 (0),.int .i64 (0),.int .i64 (0),.slice none 0 0,.int .i64 (0),.slice none 0 0,.int .i64 (0),.slice none 0 0,.bool false,.int .i64 (0),.int .i64 (0),.int .i64 (0),.int .i64 (0),.int .i64 (0),.slice none 0 0,.int .i64 (0),.slice none 0 0,.int .i64 (0),.slice none 0 0,.bool false,.int .i64 (0),.slice none 0 0,.int .i64 (0),.slice none 0 0],135,336,0⟩),
  (122,⟨1,false,.tuple ⟨[.slice none 0 0,.int .i64 (0)]⟩,[],false,false,none,0,0,[],0,0,0⟩),
  (123,⟨1,false,.nilFunc,[],false,false,none,0,0,[],0,0,0⟩),
  (124,⟨1,false,.nilFunc,[],false,false,none,0,0,[],0,0,0⟩),
  (125,⟨1,false,.nilFunc,[],false,false,none,0,0,[],0,0,0⟩),
  (126,⟨1,false,.nilFunc,[],false,false,none,0,0,[],0,0,0⟩),
  (127,⟨1,false,.nilFunc,[],false,false,none,0,0,[],0,0,0⟩),
  (128,⟨1,false,.nilFunc,[],false,false,none,0,0,[],0,0,0⟩),
  (129,⟨1,false,.nilFunc,[],false,false,none,0,0,[],0,0,0⟩),
  (130,⟨1,false,.tuple ⟨[.agg ⟨[.int .i64 (0),.slice none 0 0,.int .i64 (0),.slice none 0 0,.int .i64 (0),.slice none 0 0,.int .i64 (0),.slice none 0 0,.int .i64 (0),.slice none 0 0,.int .i64 (0),.slice none 0 0,.int .i64 (0),.slice none 0 0,.int .i64 (0),.slice none 0 0,.int .i64 (0),.slice none 0 0,.int .i64 (0),.slice none 0 0]⟩,.agg ⟨[.int .i64 (0),.slice none 0 0,.int .i64 (0),.slice none 0 0,.int .i64 (0),.slice none 0 0,.int .i64 (0),.slice none 0 0,.int .i64 (0),.slice none 0 0,.int .i64 (0),.slice none 0 0,.int .i64 (0),.slice none 0 0,.int .i64 (0),.slice none 0 0,.int .i64 (0),.slice none 0 0,.int .i64 (0),.slice none 0 0]⟩]⟩,[],false,false,none,0,0,[],0,0,0⟩),
  (131,⟨1,false,.nilFunc,[],false,false,none,0,0,[],0,0,0⟩),
  (132,⟨11,true,.agg ⟨[.int .i64 (0),.int .i64 (0),.int .i64 (0),.int .i64 (0),.int .i64 (0),.slice none 0 0,.int .i64 (0),.slice none 0 0,.int .i64 (0),.slice none 0 0,.bool false]⟩,[(0,2,true),(2,2,true),(4,4,true),(8,2,true),(10,1,false)],true,false,none,0,0,[],0,0,0⟩),
  (133,⟨11,true,.agg ⟨[.int .i64 (0),.int .i64 (0),.int .i64 (0),.int .i64 (0),.int .i64 (0),.slice none 0 0,.int .i64 (0),.slice none 0 0,.int .i64 (0),.slice none 0 0,.bool false]⟩,[(0,2,true),(2,2,true),(4,4,true),(8,2,true),(10,1,false)],true,false,none,0,0,[],0,0,0⟩),
  (134,⟨26,true,.agg ⟨[.int .i64 (0),.int .i64 (0),.int .i64 (0),.int .i64 (0),.int .i64 (0),.slice none 0 0,.int .i64 (0),.slice none 0 0,.int .i64 (0),.slice none 0 0,.bool false,.int .i64 (0),.int .i64 (0),.int .i64 (0),.int .i64 (0),.int .i64 (0),.slice none 0 0,.int .i64 (0),.slice none 0 0,.int .i64 (0),.slice none 0 0,.bool false,.int .i64 (0),.slice none 0 0,.int .i64 (0),.slice none 0 0]⟩,[(0,11,true),(11,11,true),(22,2,true),(24,2,true)],true,false,none,0,0,[],0,0,0⟩),
  (135,⟨26,true,.agg ⟨[.int .i64 (0),.int .i64 (0),.int .i64 (0),.int .i64 (0),.int .i64 (0),.slice none 0 0,.int .i64 (0),.slice none 0 0,.int .i64 (0),.slice none 0 0,.bool false,.int .i64 (0),.int .i64 (0),.int .i64 (0),.int .i64 (0),.int .i64 (0),.slice none 0 0,.int .i64 (0),.slice none 0 0,.int .i64 (0),.slice none 0 0,.bool false,.int .i64 (0),.slice none 0 0,.int .i64 (0),.slice none 0 0]⟩,[(0,11,true),(11,11,true),(22,2,true),(24,2,true)],true,false,none,0,0,[],0,0,0⟩),
  (136,⟨1,false,.tuple ⟨[.agg ⟨[.int .i64 (0),.slice none 0 0,.int .i64 (0),.slice none 0 0,.int .i64 (0),.slice none 0 0,.int .i64 (0),.slice none 0 0,.int .i64 (0),.slice none 0 0,.int .i64 (0),.slice none 0 0,.int .i64 (0),.slice none 0 0,.int .i64 (0),.slice none 0 0,.int .i64 (0),.slice none 0 0,.int .i64 (0),.slice none 0 0,.int .i64 (0),.slice none 0 0,.int .i64 (0),.slice none 0 0,.int .i64 (0),.slice none 0 0,.int .i64 (0),.slice none 0 0,.int .i64 (0),.slice none 0 0,.int .i64 (0),.slice none 0 0,.int .i64 (0),.slice none 0 0,.int .i64 (0),.slice none 0 0,.int .i64 (0),.slice none 0 0,.int .i64 (0),.slice none 0 0]⟩,.bool false]⟩,[],false,false,none,0,0,[],0,0,0⟩),
  (137,⟨1,false,.nilFunc,[],false,false,none,0,0,[],0,0,0⟩),
  (138,⟨1,false,.nilFunc,[],false,false,none,0,0,[],0,0,0⟩),
  (139,⟨1,false,.nilFunc,[],false,false,none,0,0,[],0,0,0⟩),
  (140,⟨1,false,.tuple ⟨[.int .i64 (0),.int .i64 (0),.bool false]⟩,[],false,false,none,0,0,[],0,0,0⟩),
  (141,⟨1,false,.nilFunc,[],false,false,none,0,0,[],0,0,0⟩),
  (142,⟨1,false,.nilFunc,[],false,false,none,0,0,[],0,0,0⟩),
  (143,⟨1,false,.nilFunc,[],false,false,none,0,0,[],0,0,0⟩),
  (144,⟨1,false,.nilFunc,[],false,false,none,0,0,[],0,0,0⟩),
  (145,⟨1,false,.nilFunc,[],false,false,none,0,0,[],0,0,0⟩),
  (146,⟨1,false,.nilFunc,[],false,false,none,0,0,[],0,0,0⟩),
  (147,⟨1,false,.nilFunc,[],false,false,none,0,0,[],0,0,0⟩),
  (148,⟨0,true,.agg ⟨[]⟩,[],true,false,none,0,0,[],0,0,0⟩),
  (149,⟨0,true,.agg ⟨[]⟩,[],true,false,none,0,0,[],0,0,0⟩),
  (150,⟨1,false,.tuple ⟨[.agg ⟨[]⟩,.bool false]⟩,[],false,false,none,0,0,[],0,0,0⟩),
  (151,⟨1,false,.pointer none,[],false,false,none,0,0,[],0,0,0⟩),
  (152,⟨2,true,.agg ⟨[.slice none 0 0,.int .i64 (0)]⟩,[(0,1,false),(1,1,false)],true,false,none,0,0,[],0,0,0⟩),
  (153,⟨2,true,.agg ⟨[.slice none 0 0,.int .i64 (0)]⟩,[(0,1,false),(1,1,false)],true,false,none,0,0,[],0,0,0⟩),
  (154,⟨2,true,.agg ⟨[.slice none 0 0,.int .i64 (0)]⟩,[(0,2,true)],true,false,none,0,0,[],0,0,0⟩),
  (155,⟨2,true,.agg ⟨[.slice none 0 0,.int .i64 (0)]⟩,[(0,2,true)],true,false,none,0,0,[],0,0,0⟩),
  (156,⟨1,false,.nilFunc,[],false,false,none,0,0,[],0,0,0⟩),
  (157,⟨1,false,.nilFunc,[],false,false,none,0,0,[],0,0,0⟩),
  (158,⟨1,false,.nilFunc,[],false,false,none,0,0,[],0,0,0⟩),
  (159,⟨1,false,.nilFunc,[],false,false,none,0,0,[],0,0,0⟩),
  (160,⟨1,false,.tuple ⟨[.string {data:=⟨[]⟩},.bool false]⟩,[],false,false,none,0,0,[],0,0,0⟩),
  (161,⟨1,false,.nilFunc,[],false,false,none,0,0,[],0,0,0⟩),
  (162,⟨1,false,.nilFunc,[],false,false,none,0,0,[],0,0,0⟩),
  (163,⟨1,false,.slice none 0 0,[],false,false,none,3,40,[.slice none 0 0,.bool false,.slice none 0 0,.bool false,.slice none 0 0,.bool false,.slice none 0 0,.bool false,.slice none 0 0,.bool false,.slice none 0 0,.bool false,.slice none 0 0,.bool false,.slice none 0 0,.bool false,.slice none 0 0,.bool false,.slice none 0 0,.bool false,.slice none 0 0,.bool false,.slice none 0 0,.bool false,.slice none 0 0,.bool false,.slice none 0 0,.bool false,.slice none 0 0,.bool false,.slice none 0 0,.bool false,.slice none 0 0,.bool false,.slice none 0 0,.bool false,.slice none 0 0,.bool false,.slice none 0 0,.bool false],176,640,0⟩),
  (164,⟨1,false,.tuple ⟨[.slice none 0 0,.int .i64 (0)]⟩,[],false,false,none,0,0,[],0,0,0⟩),
  (165,⟨1,false,.nilFunc,[],false,false,none,0,0,[],0,0,0⟩),
  (166,⟨1,false,.tuple ⟨[.int .i64 (0),.int .i64 (0)]⟩,[],false,false,none,0,0,[],0,0,0⟩),
  (167,⟨1,false,.nilFunc,[],false,false,none,0,0,[],0,0,0⟩),
  (168,⟨1,false,.tuple ⟨[.bool false,.agg ⟨[.slice none 0 0,.bool false,.slice none 0 0,.bool false]⟩,.int .i64 (0),.bool false]⟩,[],false,false,none,0,0,[],0,0,0⟩),
  (169,⟨1,false,.nilFunc,[],false,false,none,0,0,[],0,0,0⟩),
  (170,⟨4,true,.agg ⟨[.slice none 0 0,.bool false,.slice none 0 0,.bool false]⟩,[(0,2,true),(2,2,true)],true,false,none,0,0,[],0,0,0⟩),
  (171,⟨4,true,.agg ⟨[.slice none 0 0,.bool false,.slice none 0 0,.bool false]⟩,[(0,2,true),(2,2,true)],true,false,none,0,0,[],0,0,0⟩),
  (172,⟨16,true,.agg ⟨[.slice none 0 0,.bool false,.slice none 0 0,.bool false,.slice none 0 0,.bool false,.slice none 0 0,.bool false,.slice none 0 0,.bool false,.slice none 0 0,.bool false,.slice none 0 0,.bool false,.slice none 0 0,.bool false]⟩,[],false,false,none,4,4,[],114,0,4⟩),
  (173,⟨20,true,.agg ⟨[.slice none 0 0,.bool false,.slice none 0 0,.bool false,.slice none 0 0,.bool false,.slice none 0 0,.bool false,.slice none 0 0,.bool false,.slice none 0 0,.bool false,.slice none 0 0,.bool false,.slice none 0 0,.bool false,.slice none 0 0,.bool false,.slice none 0 0,.bool false]⟩,[(0,4,true),(4,16,true)],true,false,none,0,0,[],0,0,0⟩),
  (174,⟨20,true,.agg ⟨[.slice none 0 0,.bool false,.slice none 0 0,.bool false,.slice none 0 0,.bool false,.slice none 0 0,.bool false,.slice none 0 0,.bool false,.slice none 0 0,.bool false,.slice none 0 0,.bool false,.slice none 0 0,.bool false,.slice none 0 0,.bool false,.slice none 0 0,.bool false]⟩,[(0,4,true),(4,16,true)],true,false,none,0,0,[],0,0,0⟩),
  (175,⟨40,true,.agg ⟨[.slice none 0 0,.bool false,.slice none 0 0,.bool false,.slice none 0 0,.bool false,.slice none 0 0,.bool false,.slice none 0 0,.bool false,.slice none 0 0,.bool false,.slice none 0 0,.bool false,.slice none 0 0,.bool false,.slice none 0 0,.bool false,.slice none 0 0,.bool false,.slice none 0 0,.bool false,.slice none 0 0,.bool false,.slice none 0 0,.bool false,.slice none 0 0,.bool false,.slice none 0 0,.bool false,.slice none 0 0,.bool false,.slice none 0 0,.bool false,.slice none 0 0,.bool false,.slice none 0 0,.bool false,.slice none 0 0,.bool false]⟩,[(0,20,true),(20,20,true)],true,false,none,0,0,[],0,0,0⟩),
  (176,⟨40,true,.agg ⟨[.slice none 0 0,.bool false,.slice none 0 0,.bool false,.slice none 0 0,.bool false,.slice none 0 0,.bool false,.slice none 0 0,.bool false,.slice none 0 0,.bool false,.slice none 0 0,.bool false,.slice none 0 0,.bool false,.slice none 0 0,.bool false,.slice none 0 0,.bool false,.slice none 0 0,.bool false,.slice none 0 0,.bool false,.slice none 0 0,.bool false,.slice none 0 0,.bool false,.slice none 0 0,.bool false,.slice none 0 0,.bool false,.slice none 0 0,.bool false,.slice none 0 0,.bool false,.slice none 0 0,.bool false,.slice none 0 0,.bool false]⟩,[(0,20,true),(20,20,true)],true,false,none,0,0,[],0,0,0⟩),
  (177,⟨1,false,.nilFunc,[],false,false,none,0,0,[],0,0,0⟩),
  (178,⟨1,false,.nilFunc,[],false,false,none,0,0,[],0,0,0⟩),
  (179,⟨1,false,.tuple ⟨[.agg ⟨[.slice none 0 0,.bool false,.slice none 0 0,.bool false,.slice none 0 0,.bool false,.slice none 0 0,.bool false,.slice none 0 0,.bool false,.slice none 0 0,.bool false,.slice none 0 0,.bool false,.slice none 0 0,.bool false,.slice none 0 0,.bool false,.slice none 0 0,.bool false,.slice none 0 0,.bool false,.slice none 0 0,.bool false,.slice none 0 0,.bool false,.slice none 0 0,.bool false,.slice none 0 0,.bool false,.slice none 0 0,.bool false,.slice none 0 0,.bool false,.slice none 0 0,.bool false,.slice none 0 0,.bool false,.slice none 0 0,.bool false]⟩,.int .i64 (0)]⟩,[],false,false,none,0,0,[],0,0,0⟩),
  (180,⟨1,false,.nilFunc,[],false,false,none,0,0,[],0,0,0⟩),
  (181,⟨1,false,.nilFunc,[],false,false,none,0,0,[],0,0,0⟩),
  (182,⟨1,false,.nilFunc,[],false,false,none,0,0,[],0,0,0⟩),
  (183,⟨1,false,.nilFunc,[],false,false,none,0,0,[],0,0,0⟩),
  (184,⟨1,false,.nilFunc,[],false,false,none,0,0,[],0,0,0⟩),
  (185,⟨1,false,.nilFunc,[],false,false,none,0,0,[],0,0,0⟩),
  (186,⟨1,false,.tuple ⟨[.slice none 0 0,.int .i64 (0)]⟩,[],false,false,none,0,0,[],0,0,0⟩),
  (187,⟨1,false,.nilFunc,[],false,false,none,0,0,[],0,0,0⟩),
  (188,⟨1,false,.nilFunc,[],false,false,none,0,0,[],0,0,0⟩),
  (189,⟨1,false,.nilFunc,[],false,false,none,0,0,[],0,0,0⟩),
  (190,⟨1,false,.nilFunc,[],false,false,none,0,0,[],0,0,0⟩),
  (191,⟨1,false,.nilFunc,[],false,false,none,0,0,[],0,0,0⟩),
  (192,⟨1,false,.nilFunc,[],false,false,none,0,0,[],0,0,0⟩),
  (193,⟨1,false,.nilFunc,[],false,false,none,0,0,[],0,0,0⟩),
  (194,⟨1,false,.nilFunc,[],false,false,none,0,0,[],0,0,0⟩),
  (195,⟨1,false,.nilFunc,[],false,false,none,0,0,[],0,0,0⟩),
  (196,⟨1,false,.nilFunc,[],false,false,none,0,0,[],0,0,0⟩),
  (197,⟨1,false,.nilFunc,[],false,false,none,0,0,[],0,0,0⟩),
  (198,⟨1,false,.nilFunc,[],false,false,none,0,0,[],0,0,0⟩),
  (199,⟨1,false,.nilFunc,[],false,false,none,0,0,[],0,0,0⟩),
  (200,⟨1,false,.nilFunc,[],false,false,none,0,0,[],0,0,0⟩),
  (201,⟨1,false,.tuple ⟨[.agg ⟨[.int .i64 (0),.slice none 0 0,.int .i64 (0),.slice none 0 0,.int .i64 (0),.slice none 0 0,.int .i64 (0),.slice none 0 0,.int .i64 (0),.slice none 0 0,.int .i64 (0),.slice none 0 0,.int .i64 (0),.slice none 0 0,.int .i64 (0),.slice none 0 0,.int .i64 (0),.slice none 0 0,.int .i64 (0),.slice none 0 0]⟩,.bool false]⟩,[],false,false,none,0,0,[],0,0,0⟩),
  (202,⟨1,false,.nilFunc,[],false,false,none,0,0,[],0,0,0⟩),
  (203,⟨1,false,.nilFunc,[],false,false,none,0,0,[],0,0,0⟩),
  (204,⟨1,false,.nilFunc,[],false,false,none,0,0,[],0,0,0⟩),
  (205,⟨1,false,.tuple ⟨[.agg ⟨[.int .i64 (0),.slice none 0 0]⟩,.agg ⟨[.int .i64 (0),.slice none 0 0]⟩]⟩,[],false,false,none,0,0,[],0,0,0⟩),
  (206,⟨1,false,.nilFunc,[],false,false,none,0,0,[],0,0,0⟩),
  (207,⟨1,false,.nilFunc,[],false,false,none,0,0,[],0,0,0⟩),
  (208,⟨1,false,.nilFunc,[],false,false,none,0,0,[],0,0,0⟩),
  (209,⟨1,false,.tuple ⟨[.agg ⟨[.int .i64 (0),.slice none 0 0,.int .i64 (0),.slice none 0 0]⟩,.int .i64 (0)]⟩,[],false,false,none,0,0,[],0,0,0⟩),
  (210,⟨1,false,.nilFunc,[],false,false,none,0,0,[],0,0,0⟩),
  (211,⟨1,false,.nilFunc,[],false,false,none,0,0,[],0,0,0⟩),
  (212,⟨1,false,.nilFunc,[],false,false,none,0,0,[],0,0,0⟩),
  (213,⟨1,false,.nilFunc,[],false,false,none,0,0,[],0,0,0⟩),
  (214,⟨1,false,.nilFunc,[],false,false,none,0,0,[],0,0,0⟩),
  (215,⟨1,false,.tuple ⟨[.slice none 0 0,.int .i64 (0)]⟩,[],false,false,none,0,0,[],0,0,0⟩),
  (216,⟨1,false,.nilFunc,[],false,false,none,0,0,[],0,0,0⟩),
  (217,⟨1,false,.nilFunc,[],false,false,none,0,0,[],0,0,0⟩),
  (218,⟨1,false,.nilFunc,[],false,false,none,0,0,[],0,0,0⟩),
  (219,⟨1,false,.nilFunc,[],false,false,none,0,0,[],0,0,0⟩),
  (220,⟨1,false,.nilFunc,[],false,false,none,0,0,[],0,0,0⟩),
  (221,⟨1,false,.tuple ⟨[.agg ⟨[.slice none 0 0,.bool false,.slice none 0 0,.bool false]⟩,.int .i64 (0)]⟩,[],false,false,none,0,0,[],0,0,0⟩),
  (222,⟨1,false,.nilFunc,[],false,false,none,0,0,[],0,0,0⟩),
  (223,⟨1,false,.nilFunc,[],false,false,none,0,0,[],0,0,0⟩),
  (224,⟨1,false,.tuple ⟨[.agg ⟨[.slice none 0 0,.bool false]⟩,.agg ⟨[.slice none 0 0,.bool false]⟩,.int .i64 (0)]⟩,[],false,false,none,0,0,[],0,0,0⟩),
  (225,⟨1,false,.nilFunc,[],false,false,none,0,0,[],0,0,0⟩),
  (226,⟨1,false,.nilFunc,[],false,false,none,0,0,[],0,0,0⟩),
  (227,⟨1,false,.nilFunc,[],false,false,none,0,0,[],0,0,0⟩),
  (228,⟨1,false,.nilFunc,[],false,false,none,0,0,[],0,0,0⟩),
  (229,⟨1,false,.nilFunc,[],false,false,none,0,0,[],0,0,0⟩),
  (230,⟨1,false,.tuple ⟨[.agg ⟨[.slice none 0 0,.bool false,.slice none 0 0,.bool false,.slice none 0 0,.bool false,.slice none 0 0,.bool false]⟩,.agg ⟨[.slice none 0 0,.bool false,.slice none 0 0,.bool false,.slice none 0 0,.bool false,.slice none 0 0,.bool false]⟩]⟩,[],false,false,none,0,0,[],0,0,0⟩),
  (231,⟨1,false,.nilFunc,[],false,false,none,0,0,[],0,0,0⟩),
  (232,⟨1,false,.nilFunc,[],false,false,none,0,0,[],0,0,0⟩),
  (233,⟨1,false,.tuple ⟨[.agg ⟨[.slice none 0 0,.bool false]⟩,.agg ⟨[.slice none 0 0,.bool false]⟩]⟩,[],false,false,none,0,0,[],0,0,0⟩),
  (234,⟨1,false,.nilFunc,[],false,false,none,0,0,[],0,0,0⟩),
  (235,⟨1,false,.nilFunc,[],false,false,none,0,0,[],0,0,0⟩),
  (236,⟨1,false,.tuple ⟨[.agg ⟨[.int .i64 (0),.int .i64 (0)]⟩,.int .i64 (0)]⟩,[],false,false,none,0,0,[],0,0,0⟩),
  (237,⟨1,false,.nilFunc,[],false,false,none,0,0,[],0,0,0⟩),
  (238,⟨1,false,.tuple ⟨[.agg ⟨[.slice none 0 0,.bool false,.slice none 0 0,.bool false,.slice none 0 0,.bool false,.slice none 0 0,.bool false]⟩,.bool false]⟩,[],false,false,none,0,0,[],0,0,0⟩),
  (239,⟨1,false,.nilFunc,[],false,false,none,0,0,[],0,0,0⟩),
  (240,⟨1,false,.tuple ⟨[.agg ⟨[.slice none 0 0,.bool false,.slice none 0 0,.bool false,.slice none 0 0,.bool false,.slice none 0 0,.bool false,.slice none 0 0,.bool false,.slice none 0 0,.bool false,.slice none 0 0,.bool false,.slice none 0 0,.bool false,.slice none 0 0,.bool false,.slice none 0 0,.bool false]⟩,.int .i64 (0)]⟩,[],false,false,none,0,0,[],0,0,0⟩),
  (241,⟨1,false,.nilFunc,[],false,false,none,0,0,[],0,0,0⟩),
  (242,⟨1,false,.nilFunc,[],false,false,none,0,0,[],0,0,0⟩),
  (243,⟨1,false,.nilFunc,[],false,false,none,0,0,[],0,0,0⟩),
  (244,⟨1,false,.nilFunc,[],false,false,none,0,0,[],0,0,0⟩),
  (245,⟨1,false,.nilFunc,[],false,false,none,0,0,[],0,0,0⟩),
  (246,⟨1,false,.nilFunc,[],false,false,none,0,0,[],0,0,0⟩),
  (247,⟨1,false,.nilFunc,[],false,false,none,0,0,[],0,0,0⟩),
  (248,⟨1,false,.nilFunc,[],false,false,none,0,0,[],0,0,0⟩),
  (249,⟨1,false,.tuple ⟨[.agg ⟨[.bool false,.int .i64 (0),.slice none 0 0,.bool false,.slice none 0 0,.bool false,.slice none 0 0,.bool false,.slice none 0 0,.bool false,.slice none 0 0,.bool false,.slice none 0 0,.bool false,.slice none 0 0,.bool false,.slice none 0 0,.bool false,.slice none 0 0,.bool false,.slice none 0 0,.bool false]⟩,.int .i64 (0)]⟩,[],false,false,none,0,0,[],0,0,0⟩),
  (250,⟨1,false,.nilFunc,[],false,false,none,0,0,[],0,0,0⟩),
  (251,⟨1,false,.nilFunc,[],false,false,none,0,0,[],0,0,0⟩),
  (252,⟨1,false,.nilFunc,[],false,false,none,0,0,[],0,0,0⟩),
  (253,⟨1,false,.nilFunc,[],false,false,none,0,0,[],0,0,0⟩),
  (254,⟨1,false,.nilFunc,[],false,false,none,0,0,[],0,0,0⟩),
  (255,⟨1,false,.nilFunc,[],false,false,none,0,0,[],0,0,0⟩),
  (256,⟨1,false,.nilFunc,[],false,false,none,0,0,[],0,0,0⟩),
  (257,⟨1,false,.nilFunc,[],false,false,none,0,0,[],0,0,0⟩),
  (258,⟨1,false,.nilFunc,[],false,false,none,0,0,[],0,0,0⟩),
  (259,⟨1,false,.nilFunc,[],false,false,none,0,0,[],0,0,0⟩),
  (260,⟨1,false,.slice none 0 0,[],false,false,none,3,4,[.int .i64 (0),.slice none 0 0,.int .i64 (0),.slice none 0 0],88,64,0⟩),
  (261,⟨1,false,.nilFunc,[],false,false,none,0,0,[],0,0,0⟩),
  (262,⟨1,false,.nilFunc,[],false,false,none,0,0,[],0,0,0⟩),
  (263,⟨1,false,.nilFunc,[],false,false,none,0,0,[],0,0,0⟩),
  (264,⟨1,false,.nilFunc,[],false,false,none,0,0,[],0,0,0⟩),
  (265,⟨1,false,.tuple ⟨[.agg ⟨[.slice none 0 0]⟩,.agg ⟨[.slice none 0 0]⟩]⟩,[],false,false,none,0,0,[],0,0,0⟩),
  (266,⟨1,false,.nilFunc,[],false,false,none,0,0,[],0,0,0⟩),
  (267,⟨1,false,.nilFunc,[],false,false,none,0,0,[],0,0,0⟩),
  (268,⟨1,false,.pointer none,[],false,false,none,0,0,[],0,0,0⟩),
  (269,⟨1,false,.nilFunc,[],false,false,none,0,0,[],0,0,0⟩),
  (270,⟨1,false,.nilFunc,[],false,false,none,0,0,[],0,0,0⟩),
  (271,⟨1,false,.nilFunc,[],false,false,none,0,0,[],0,0,0⟩),
  (272,⟨1,false,.nilFunc,[],false,false,none,0,0,[],0,0,0⟩),
  (273,⟨1,false,.int .u32 (0),[],false,false,some .u32,0,0,[],0,0,0⟩),
  (274,⟨1,false,.nilFunc,[],false,false,none,0,0,[],0,0,0⟩),
  (275,⟨1,false,.nilFunc,[],false,false,none,0,0,[],0,0,0⟩),
  (276,⟨1,false,.nilFunc,[],false,false,none,0,0,[],0,0,0⟩),
  (277,⟨1,false,.nilFunc,[],false,false,none,0,0,[],0,0,0⟩),
  (278,⟨1,false,.slice none 0 0,[],false,false,none,3,2,[.int .i64 (0),.int .i64 (0)],282,16,0⟩),
  (279,⟨1,false,.tuple ⟨[.slice none 0 0,.slice none 0 0]⟩,[],false,false,none,0,0,[],0,0,0⟩),
  (280,⟨1,false,.nilFunc,[],false,false,none,0,0,[],0,0,0⟩),
  (281,⟨2,true,.agg ⟨[.int .i64 (0),.int .i64 (0)]⟩,[(0,1,false),(1,1,false)],true,false,none,0,0,[],0,0,0⟩),
  (282,⟨2,true,.agg ⟨[.int .i64 (0),.int .i64 (0)]⟩,[(0,1,false),(1,1,false)],true,false,none,0,0,[],0,0,0⟩),
  (283,⟨1,false,.nilFunc,[],false,false,none,0,0,[],0,0,0⟩),
  (284,⟨1,false,.nilFunc,[],false,false,none,0,0,[],0,0,0⟩),
  (285,⟨1,false,.int .i16 (0),[],false,false,some .i16,0,0,[],0,0,0⟩),
  (286,⟨1,false,.int .u16 (0),[],false,false,some .u16,0,0,[],0,0,0⟩),
  (287,⟨1,false,.nilFunc,[],false,false,none,0,0,[],0,0,0⟩),
  (288,⟨1,false,.nilFunc,[],false,false,none,0,0,[],0,0,0⟩),
  (289,⟨7,true,.agg ⟨[.int .u8 (0),.int .u8 (0),.int .u8 (0),.int .u8 (0),.int .u8 (0),.int .u8 (0),.int .u8 (0)]⟩,[],false,false,none,4,1,[],5,0,7⟩),
  (290,⟨1,false,.nilFunc,[],false,false,none,0,0,[],0,0,0⟩),
  (291,⟨1,false,.nilFunc,[],false,false,none,0,0,[],0,0,0⟩),
  (292,⟨1,false,.nilFunc,[],false,false,none,0,0,[],0,0,0⟩),
  (293,⟨1,false,.tuple ⟨[.agg ⟨[.slice none 0 0]⟩,.agg ⟨[.slice none 0 0]⟩,.int .i64 (0)]⟩,[],false,false,none,0,0,[],0,0,0⟩),
  (294,⟨1,false,.nilFunc,[],false,false,none,0,0,[],0,0,0⟩),
  (295,⟨1,false,.tuple ⟨[.int .u64 (0),.bool false]⟩,[],false,false,none,0,0,[],0,0,0⟩),
  (296,⟨1,false,.nilFunc,[],false,false,none,0,0,[],0,0,0⟩),
  (297,⟨1,false,.nilFunc,[],false,false,none,0,0,[],0,0,0⟩),
  (298,⟨1,false,.nilFunc,[],false,false,none,0,0,[],0,0,0⟩),
  (299,⟨4,true,.agg ⟨[.int .i64 (0),.int .i64 (0),.int .i64 (0),.int .i64 (0)]⟩,[(0,1,false),(1,1,false),(2,1,false),(3,1,false)],true,false,none,0,0,[],0,0,0⟩),
  (300,⟨4,true,.agg ⟨[.int .i64 (0),.int .i64 (0),.int .i64 (0),.int .i64 (0)]⟩,[(0,1,false),(1,1,false),(2,1,false),(3,1,false)],true,false,none,0,0,[],0,0,0⟩),
  (301,⟨1,false,.nilFunc,[],false,false,none,0,0,[],0,0,0⟩),
  (302,⟨1,false,.nilFunc,[],false,false,none,0,0,[],0,0,0⟩),
  (303,⟨1,false,.nilFunc,[],false,false,none,0,0,[],0,0,0⟩),
  (304,⟨1,false,.nilFunc,[],false,false,none,0,0,[],0,0,0⟩),
  (305,⟨32,true,.agg ⟨[.slice none 0 0,.bool false,.slice none 0 0,.bool false,.slice none 0 0,.bool false,.slice none 0 0,.bool false,.slice none 0 0,.bool false,.slice none 0 0,.bool false,.slice none 0 0,.bool false,.slice none 0 0,.bool false,.slice none 0 0,.bool false,.slice none 0 0,.bool false,.slice none 0 0,.bool false,.slice none 0 0,.bool false,.slice none 0 0,.bool false,.slice none 0 0,.bool false,.slice none 0 0,.bool false,.slice none 0 0,.bool false]⟩,[],false,false,none,4,8,[],115,0,4⟩),
  (306,⟨1,false,.nilFunc,[],false,false,none,0,0,[],0,0,0⟩),
  (307,⟨1,false,.slice none 0 0,[],false,false,none,3,4,[.slice none 0 0,.bool false,.slice none 0 0,.bool false],114,64,0⟩),
  (308,⟨1,false,.nilFunc,[],false,false,none,0,0,[],0,0,0⟩),
  (309,⟨1,false,.nilFunc,[],false,false,none,0,0,[],0,0,0⟩),
  (310,⟨1,false,.nilFunc,[],false,false,none,0,0,[],0,0,0⟩),
  (311,⟨1,false,.nilFunc,[],false,false,none,0,0,[],0,0,0⟩),
  (312,⟨1,false,.nilFunc,[],false,false,none,0,0,[],0,0,0⟩),
  (313,⟨1,false,.nilFunc,[],false,false,none,0,0,[],0,0,0⟩),
  (314,⟨1,false,.nilFunc,[],false,false,none,0,0,[],0,0,0⟩),
  (315,⟨1,false,.tuple ⟨[.agg ⟨[.int .i64 (0),.slice none 0 0,.int .i64 (0),.slice none 0 0]⟩,.agg ⟨[.int .i64 (0),.slice none 0 0,.int .i64 (0),.slice none 0 0]⟩]⟩,[],false,false,none,0,0,[],0,0,0⟩),
  (316,⟨1,false,.nilFunc,[],false,false,none,0,0,[],0,0,0⟩),
  (317,⟨1,false,.nilFunc,[],false,false,none,0,0,[],0,0,0⟩),
  (318,⟨1,false,.nilFunc,[],false,false,none,0,0,[],0,0,0⟩),
  (319,⟨1,false,.nilFunc,[],false,false,none,0,0,[],0,0,0⟩),
  (320,⟨1,false,.nilFunc,[],false,false,none,0,0,[],0,0,0⟩),
  (321,⟨4,true,.agg ⟨[.int .u8 (0),.int .i64 (0),.int .i64 (0),.int .i64 (0)]⟩,[(0,1,false),(1,1,false),(2,1,false),(3,1,false)],true,false,none,0,0,[],0,0,0⟩),
  (322,⟨4,true,.agg ⟨[.int .u8 (0),.int .i64 (0),.int .i64 (0),.int .i64 (0)]⟩,[(0,1,false),(1,1,false),(2,1,false),(3,1,false)],true,false,none,0,0,[],0,0,0⟩),
  (323,⟨1,false,.tuple ⟨[.agg ⟨[.int .u8 (0),.int .i64 (0),.int .i64 (0),.int .i64 (0)]⟩,.bool false]⟩,[],false,false,none,0,0,[],0,0,0⟩),
  (324,⟨1,false,.nilFunc,[],false,false,none,0,0,[],0,0,0⟩),
  (325,⟨1,false,.nilFunc,[],false,false,none,0,0,[],0,0,0⟩),
  (326,⟨1,false,.nilFunc,[],false,false,none,0,0,[],0,0,0⟩),
  (327,⟨1,false,.nilFunc,[],false,false,none,0,0,[],0,0,0⟩),
  (328,⟨1,false,.nilFunc,[],false,false,none,0,0,[],0,0,0⟩),
  (329,⟨1,false,.nilFunc,[],false,false,none,0,0,[],0,0,0⟩),
  (330,⟨1,false,.nilFunc,[],false,false,none,0,0,[],0,0,0⟩),
  (331,⟨18,true,.agg ⟨[.int .i64 (0),.int .i64 (0),.slice none 0 0,.bool false,.slice none 0 0,.bool false,.slice none 0 0,.bool false,.slice none 0 0,.bool false,.slice none 0 0,.bool false,.slice none 0 0,.bool false,.slice none 0 0,.bool false,.slice none 0 0,.bool false]⟩,[(0,2,true),(2,16,true)],true,false,none,0,0,[],0,0,0⟩),
  (332,⟨18,true,.agg ⟨[.int .i64 (0),.int .i64 (0),.slice none 0 0,.bool false,.slice none 0 0,.bool false,.slice none 0 0,.bool false,.slice none 0 0,.bool false,.slice none 0 0,.bool false,.slice none 0 0,.bool false,.slice none 0 0,.bool false,.slice none 0 0,.bool false]⟩,[(0,2,true),(2,16,true)],true,false,none,0,0,[],0,0,0⟩),
  (333,⟨1,false,.nilFunc,[],false,false,none,0,0,[],0,0,0⟩),
  (334,⟨1,false,.nilFunc,[],false,false,none,0,0,[],0,0,0⟩),
  (335,⟨1,false,.nilFunc,[],false,false,none,0,0,[],0,0,0⟩),
  (336,⟨1,false,.nilFunc,[],false,false,none,0,0,[],0,0,0⟩),
  (337,⟨1,false,.tuple ⟨[.agg ⟨[.slice none 0 0]⟩,.int .i64 (0)]⟩,[],false,false,none,0,0,[],0,0,0⟩),
  (338,⟨1,false,.nilFunc,[],false,false,none,0,0,[],0,0,0⟩),
  (339,⟨1,false,.nilFunc,[],false,false,none,0,0,[],0,0,0⟩),
  (340,⟨1,false,.tuple ⟨[.slice none 0 0,.int .u32 (0)]⟩,[],false,false,none,0,0,[],0,0,0⟩),
  (341,⟨1,false,.nilFunc,[],false,false,none,0,0,[],0,0,0⟩),
  (342,⟨1,false,.nilFunc,[],false,false,none,0,0,[],0,0,0⟩),
  (343,⟨1,false,.nilFunc,[],false,false,none,0,0,[],0,0,0⟩),
  (344,⟨1,false,.nilFunc,[],false,false,none,0,0,[],0,0,0⟩),
  (345,⟨32,true,.agg ⟨[.int .i64 (0),.int .i64 (0),.int .i64 (0),.int .i64 (0),.int .i64 (0),.int .i64 (0),.int .i64 (0),.int .i64 (0),.int .i64 (0),.int .i64 (0),.int .i64 (0),.int .i64 (0),.int .i64 (0),.int .i64 (0),.int .i64 (0),.int .i64 (0),.int .i64 (0),.int .i64 (0),.int .i64 (0),.int .i64 (0),.int .i64 (0),.int .i64 (0),.int .i64 (0),.int .i64 (0),.int .i64 (0),.int .i64 (0),.int .i64 (0),.int .i64 (0),.int .i64 (0),.int .i64 (0),.int .i64 (0),.int .i64 (0)]⟩,[],false,false,none,4,4,[],300,0,8⟩),
  (346,⟨1,false,.nilFunc,[],false,false,none,0,0,[],0,0,0⟩),
  (347,⟨8,true,.agg ⟨[.int .i64 (0),.slice none 0 0,.int .i64 (0),.slice none 0 0,.int .i64 (0),.slice none 0 0,.int .i64 (0),.slice none 0 0]⟩,[],false,false,none,4,2,[],86,0,4⟩),
  (348,⟨1,false,.nilFunc,[],false,false,none,0,0,[],0,0,0⟩),
  (349,⟨1,false,.tuple ⟨[.agg ⟨[.int .i64 (0),.slice none 0 0,.int .i64 (0),.slice none 0 0]⟩,.bool false]⟩,[],false,false,none,0,0,[],0,0,0⟩),
  (350,⟨1,false,.nilFunc,[],false,false,none,0,0,[],0,0,0⟩),
  (351,⟨1,false,.nilFunc,[],false,false,none,0,0,[],0,0,0⟩),
  (352,⟨1,false,.slice none 0 0,[],false,false,none,3,18,[.int .i64 (0),.int .i64 (0),.slice none 0 0,.bool false,.slice none 0 0,.bool false,.slice none 0 0,.bool false,.slice none 0 0,.bool false,.slice none 0 0,.bool false,.slice none 0 0,.bool false,.slice none 0 0,.bool false,.slice none 0 0,.bool false],332,272,0⟩),
  (353,⟨8,true,.agg ⟨[.slice none 0 0,.bool false,.slice none 0 0,.bool false,.slice none 0 0,.bool false,.slice none 0 0,.bool false]⟩,[],false,false,none,4,2,[],112,0,4⟩),
  (354,⟨1,false,.nilFunc,[],false,false,none,0,0,[],0,0,0⟩),
  (355,⟨1,false,.nilFunc,[],false,false,none,0,0,[],0,0,0⟩),
  (356,⟨1,false,.nilFunc,[],false,false,none,0,0,[],0,0,0⟩),
  (357,⟨1,false,.nilFunc,[],false,false,none,0,0,[],0,0,0⟩),
  (358,⟨1,false,.tuple ⟨[.agg ⟨[.slice none 0 0]⟩,.agg ⟨[.slice none 0 0]⟩]⟩,[],false,false,none,0,0,[],0,0,0⟩),
  (359,⟨1,false,.nilFunc,[],false,false,none,0,0,[],0,0,0⟩),
  (360,⟨1,false,.nilFunc,[],false,false,none,0,0,[],0,0,0⟩),
  (361,⟨1,false,.nilFunc,[],false,false,none,0,0,[],0,0,0⟩),
  (362,⟨4,true,.agg ⟨[.pointer none,.pointer none,.pointer none,.string {data:=⟨[]⟩}]⟩,[(0,1,false),(1,1,false),(2,1,false),(3,1,false)],true,false,none,0,0,[],0,0,0⟩),
  (363,⟨4,true,.agg ⟨[.pointer none,.pointer none,.pointer none,.string {data:=⟨[]⟩}]⟩,[(0,1,false),(1,1,false),(2,1,false),(3,1,false)],true,false,none,0,0,[],0,0,0⟩),
  (364,⟨0,true,.agg ⟨[]⟩,[],false,false,none,4,1,[],16,0,0⟩),
  (365,⟨0,true,.agg ⟨[]⟩,[(0,0,true)],true,false,none,0,0,[],0,0,0⟩),
  (366,⟨0,true,.agg ⟨[]⟩,[(0,0,true)],true,false,none,0,0,[],0,0,0⟩),
  (367,⟨1,false,.int .u8 (0),[],false,false,some .u8,0,0,[],0,0,0⟩),
  (368,⟨1,false,.int .u8 (0),[],false,false,some .u8,0,0,[],0,0,0⟩),
  (369,⟨1,false,.nilFunc,[],false,false,none,0,0,[],0,0,0⟩),
  (370,⟨1,false,.pointer none,[],false,false,none,0,0,[],0,0,0⟩),
  (371,⟨1,false,.int .i32 (0),[],false,false,some .i32,0,0,[],0,0,0⟩),
  (372,⟨1,false,.int .i32 (0),[],false,false,some .i32,0,0,[],0,0,0⟩),
  (373,⟨11,true,.agg ⟨[.int .u64 (0),.int .u64 (0),.int .u32 (0),.int .u8 (0),.int .u8 (0),.int .u8 (0),.int .u8 (0),.nilFunc,.pointer none,.int .i32 (0),.int .i32 (0)]⟩,[(0,1,false),(1,1,false),(2,1,false),(3,1,false),(4,1,false),(5,1,false),(6,1,false),(7,1,false),(8,1,false),(9,1,false),(10,1,false)],true,false,none,0,0,[],0,0,0⟩),
  (374,⟨11,true,.agg ⟨[.int .u64 (0),.int .u64 (0),.int .u32 (0),.int .u8 (0),.int .u8 (0),.int .u8 (0),.int .u8 (0),.nilFunc,.pointer none,.int .i32 (0),.int .i32 (0)]⟩,[(0,1,false),(1,1,false),(2,1,false),(3,1,false),(4,1,false),(5,1,false),(6,1,false),(7,1,false),(8,1,false),(9,1,false),(10,1,false)],true,false,none,0,0,[],0,0,0⟩),
  (375,⟨1,false,.pointer none,[],false,false,none,0,0,[],0,0,0⟩)]
theorem aB:tb.Ok Tryz.prog:=MI
end Go.Proofs.YtgaaopjagcaojaaGreat
set_option linter.unusedSimpArgs false
set_option linter.unusedVariables false
set_option maxHeartbeats 4000000
namespace Go.Proofs.YtgaaopjagcaojaaGreat
def dg(l:List Nat)(i:Nat):Nat:=l.getD i 0
theorem tC{l:List Nat}{i:Nat}(h:i<l.length):dg l i=l[i]:=by simp[dg,h]
theorem iX{l:List Nat}{B:Nat}(h:∀d∈l,d<B)(hB:0<B)(i:Nat):dg l i<B:=by
 by_cases hi:i<l.length
 ·rw[tC hi];exact h _ (dY hi)
 ·simp[dg,l7 (gL hi),hB]
def val(B:Nat):List Nat→Nat
 | []=>0
 |d::l=>d+B*val B l
theorem KK(B:Nat):val B []=0:=rfl
theorem lz(B d:Nat)(l:List Nat):val B (d::l)=d+B*val B l:=rfl
theorem BI(B:Nat)(l m:List Nat):val B (l++m)=val B l+B^l.length*val B m:=by
 induction l with
 |nil=>simp[val]
 |cons d l ih=>
  simp only[cT,lz,ih,aC,eA];grind
theorem kP(B:Nat)(l:List Nat)(d:Nat):val B (l++[d])=val B l+B^l.length*d:=by
 rw[BI];simp[val]
theorem mE(B:Nat)(l:List Nat)(h:∀d∈l,d<B):val B l<B^l.length:=by
 induction l with
 |nil=>simp[val]
 |cons d l ih=>
  have h1:d<B:=h d (by simp);have h2:=ih (fun x hx=>h x (by simp[hx]));simp only[lz,aC,eA];have h3:B*(val B l+1)≤B*B^l.length:=cG B h2;grind
theorem yu(B:Nat)(l:List Nat)(h:∀d∈l,d=0):val B l=0:=by
 induction l with
 |nil=>rfl
 |cons d l ih=>simp[val,h d (by simp),ih (fun x hx=>h x (by simp[hx]))]
theorem vB(B n:Nat):val B (List.replicate n 0)=0:=yu B _ (by simp)
theorem ig(B:Nat)(l:List Nat)(k:Nat)(hk:k≤l.length):val B l=val B (l.take k)+B^k*val B (l.drop k):=by
 conv=>lhs;rw[←jY k l,BI]
 simp[fr hk]
theorem qM(B:Nat)(l:List Nat)(k:Nat)(hk:k<l.length):val B (l.take (k+1))=val B (l.take k)+B^k*dg l k:=by
 rw[List.take_succ_eq_append_getElem hk,kP];simp[fr (fW hk),dg,hk]
theorem eL(B:Nat)(l:List Nat)(k:Nat)(hk:l.length≤k):val B (l.take k)=val B l:=by
 rw[aU hk]
theorem EM(B:Nat)(l:List Nat)(k:Nat)(hk:l.length≤k):val B (l.take (k+1))=val B (l.take k):=by
 rw[aU hk,aU (by omega)]
def qR(l:List Nat):Prop:=l.getLast?≠some 0
theorem Gx:qR []:=by simp[qR]
theorem qR.pos(B:Nat){l:List Nat}(h:qR l)(hl:l≠ []):B^(l.length-1)≤val B l:=by
 obtain⟨m,d,rfl⟩:∃m d,l=m++[d]:=⟨l.dropLast,l.getLast hl,(List.dropLast_concat_getLast hl).symm⟩;have hd:d≠0:=by simpa [qR]using h
 simp only[kP,aA,aC,a_];have:B^m.length*1≤B^m.length*d:=cG _ (by omega);simp only[bQ,eF];omega
theorem qR.zero_iff{B:Nat}{l:List Nat}(hB:0<B)(h:qR l):val B l=0↔l=[]:=by
 constructor
 ·intro h0;by_cases hl:l=[]
  ·exact hl
  ·have:=h.pos B hl;have:=gN (n:=l.length-1) hB;omega
 ·rintro rfl;rfl
theorem qR.len_lt{B:Nat}{l m:List Nat}(hB:0<B)(hm:qR m)(hl:∀d∈l,d<B)(h:l.length<m.length):val B l<val B m:=by
 have h1:=mE B l hl;have h2:=hm.pos B (fun e=>by simp[e]at h);have h3:B^l.length≤B^(m.length-1):=cY hB (by omega);omega
theorem qR.len_le{B:Nat}{l m:List Nat}(hB:0<B)(hl:qR l)(hm:∀d∈m,d<B)(h:val B l≤val B m):l.length≤m.length:=by
 by_cases hh:m.length<l.length
 ·have:=hl.len_lt hB hm hh;omega
 ·omega
theorem qR.len_of_lt{B:Nat}{l:List Nat}{k:Nat}(hB:1<B)(hl:qR l)(h:val B l<B^k):l.length≤k:=by
 by_cases hh:l=[]
 ·simp[hh]
 ·have:=hl.pos B hh;have h2:B^(l.length-1)<B^k:=iz this h;have:=(Nat.pow_lt_pow_iff_right hB).1 h2;omega
theorem LL{l:List Nat}{k:Nat}(hk:k≤l.length)(hz:∀i,k≤i→i<l.length→dg l i=0)(hp:0<k→dg l (k-1)≠0)(B:Nat):
  qR (l.take k)∧val B (l.take k)=val B l:=by
 constructor
 ·intro h;rw[fZ]at h;simp only[dG,fr hk]at h;by_cases h0:0<k
  ·have:=hp h0;rw[List.getElem?_take_of_lt (by omega)]at h;simp[dg,h]at this
  ·obtain rfl:k=0:=by omega
   simp at h
 ·rw[ig B l k hk,yu B (l.drop k)]
  ·simp
  ·intro d hd;obtain⟨i,hi,rfl⟩:=List.mem_iff_getElem.1 hd;simp only[iw]at hi;have:=hz (k+i) (by omega) (by omega);simpa [dg,show k+i<l.length by omega]using this
theorem Dq{B:Nat}{l m:List Nat}{i:Nat}(hlen:l.length=m.length)(hi:i<l.length)(hl:∀d∈l,d<B)
  (hlt:dg l i<dg m i)(hs:∀j,i<j→j<l.length→dg l j=dg m j):val B l<val B m:=by
 have e:l.drop (i+1)=m.drop (i+1):=by
  apply rB (by simp[hlen]);intro j h1 h2;simp only[iw]at h1;have:=hs (i+1+j) (by omega) (by omega);simpa [dg,show i+1+j<l.length by omega,show i+1+j<m.length by omega]using this
 rw[ig B l (i+1) (by omega),ig B m (i+1) (by omega),e,qM B l i hi,qM B m i (by omega)];have h1:val B (l.take i)<B^(l.take i).length:=mE B _ (fun d hd=>hl d (fe hd));simp only[dG,fr (fW hi)]at h1;have h2:B^i*(dg l i+1)≤B^i*dg m i:=cG _ hlt;rw[fA]at h2;omega
theorem DS{l m:List Nat}(hlen:l.length=m.length)(hs:∀j,j<l.length→dg l j=dg m j):l=m:=by
 apply rB hlen;intro j h1 h2;simpa [dg,h1,h2]using hs j h1
theorem tB{l:List Nat}{k:Nat}(h:l.length≤k):dg l k=0:=by simp[dg,l7 h]
theorem da(B:Nat)(l:List Nat)(k:Nat):val B (l.take (k+1))=val B (l.take k)+B^k*dg l k:=by
 by_cases h:k<l.length
 ·exact qM B l k h
 ·rw[EM B l k (by omega),tB (by omega)];simp
theorem wy{B k q x y z:Nat}{o l r:List Nat}(hlen:o.length=k)(hx:dg l k=x)(hy:dg r k=y)(hz:q+x+y=z)(h:val B o+B^k*q=val B (l.take k)+val B (r.take k)):
  val B (o++[z % B])+B^(k+1)*(z/B)=val B (l.take (k+1))+val B (r.take (k+1)):=by
 rw[kP,hlen,da B l k,da B r k,hx,hy,eA];have h1:=fP z B;generalize z/B=u at*;generalize z % B=v at*;grind
theorem AQ{B k q x y:Nat}{o l r:List Nat}(hlen:o.length=k)(hx:dg l k=x)(hy:dg r k=y)(hz:q+y≤x)(h:val B (l.take k)+B^k*q=val B o+val B (r.take k)):
  val B (l.take (k+1))+B^(k+1)*0=val B (o++[x-(q+y)])+val B (r.take (k+1)):=by
 rw[kP,hlen,da B l k,da B r k,hx,hy];obtain⟨z,rfl⟩:∃z,x=q+y+z:=⟨x-(q+y),by omega⟩;rw[Nat.add_sub_cancel_left];grind
theorem AR{B k q x y:Nat}{o l r:List Nat}(hlen:o.length=k)(hx:dg l k=x)(hy:dg r k=y)(hz:q+y≤x+B)(h:val B (l.take k)+B^k*q=val B o+val B (r.take k)):
  val B (l.take (k+1))+B^(k+1)*1=val B (o++[x+B-(q+y)])+val B (r.take (k+1)):=by
 rw[kP,hlen,da B l k,da B r k,hx,hy,eA];obtain⟨z,hz'⟩:∃z,x+B=q+y+z:=⟨x+B-(q+y),by omega⟩;rw[hz',Nat.add_sub_cancel_left];have h2:B^k*(x+B)=B^k*(q+y+z):=by rw[hz']
 grind
theorem OI{B n q:Nat}{o l r:List Nat}(ho:∀d∈o,d<B)(hol:o.length=n)(hrl:val B r≤val B l)(h:val B l+B^n*q=val B o+val B r):val B o=val B l-val B r:=by
 have h1:=mE B o ho;rw[hol]at h1;cases q with
 |zero=>simp at h;omega
 |succ q=>
  have:B^n*1≤B^n*(q+1):=cG _ (by omega);omega
theorem Rw{B d j q x:Nat}{o l:List Nat}(hj:j<l.length)(hlen:l.length=o.length)(hx:dg l j=x)(h:val B (l.drop (j+1))=d*val B (o.drop (j+1))+q):
  val B (l.drop j)=d*val B ((o.set j ((q*B+x)/d)).drop j)+(q*B+x) % d:=by
 have h1:=fP (q*B+x) d;generalize(q*B+x)/d=u at*;generalize(q*B+x) % d=v at*;have h2:j<(o.set j u).length:=by rw[dq];omega
 have h3:(o.set j u).drop j=u::o.drop (j+1):=by
  rw[bC h2,List.getElem_set_self,List.drop_set_of_lt (by omega)]
 rw[tC hj]at hx;rw[h3,bC hj,lz,h,lz,hx];grind
theorem Nv{q x d:Nat}(hq:q<d)(hx:x<4294967296):(q*4294967296+x)/d<4294967296:=by
 rw[eP (by omega)];have:(q+1)*4294967296≤d*4294967296:=cf _ hq;grind
theorem pP{B:Nat}{o:List Nat}{j d:Nat}(h:∀x∈o,x<B)(hd:d<B):∀x∈o.set j d,x<B:=by
 intro x hx;rcases List.mem_or_eq_of_mem_set hx with hx|rfl
 ·exact h x hx
 ·exact hd
theorem jT{B:Nat}{o:List Nat}{d:Nat}(h:∀x∈o,x<B)(hd:d<B):∀x∈o++[d],x<B:=by
 intro x hx;rcases List.mem_append.1 hx with hx|hx
 ·exact h x hx
 ·simp at hx;omega
theorem O7(q x:Nat)(hx:x<4294967296):q*4294967296|||x=q*4294967296+x:=by
 have h:=Nat.two_pow_add_eq_or_of_lt (i:=32) (b:=x) (by omega) q;rw[show(2:Nat)^32=4294967296 from rfl,fg]at h;exact h.symm
theorem zB(q x:Nat)(hq:q<4294967296)(hx:x<4294967296):bits .or .u64 ((q:Int)*4294967296) (x:Int)=((q*4294967296+x:Nat):Int):=by
 have h:=u64_or_nat (q*4294967296) x (by omega) (by omega);rw[O7 q x hx]at h;rw[←h];rfl
def mV(x y:Nat):Int:=if x<y then-1 else if x=y then 0 else 1
theorem wH{x y:Nat}(h:x<y):mV x y= -1:=by simp[mV,h]
theorem uE{x y:Nat}(h:y<x):mV x y=1:=by unfold mV;rw[if_neg (by omega),if_neg (by omega)]
theorem wG(x:Nat):mV x x=0:=by unfold mV;rw[if_neg (by omega),if_pos rfl]
theorem SW(B a b:Nat):val B [a,b]=a+B*b:=by simp[val]
theorem uZ{B:Nat}{l:List Nat}{j:Nat}(h:l.length=j+1):val B l=val B (l.take j)+B^j*dg l j:=by
 have h1:=da B l j;rw[eL B l (j+1) (by omega)]at h1;exact h1
theorem GJ(q x:Nat)(hq:q<4294967296)(hx:x<4294967296):bits .or .u64 (q:Int) ((x:Int)*4294967296)=((q+x*4294967296:Nat):Int):=by
 have h:=u64_or_nat q (x*4294967296) (by omega) (by omega);rw[Nat.or_comm,O7 x q hq]at h;rw[Nat.add_comm,←h];rfl
theorem LN(x:Nat)(hx:x<18446744073709551616):bits .or .u64 0 (x:Int)=(x:Int):=by
 have h:=u64_or_nat 0 x (by omega) hx;simpa using h
theorem sw(B:Nat)(l:List Nat)(j d:Nat)(hj:j<l.length):val B (l.set j d)+B^j*dg l j=val B l+B^j*d:=by
 have h1:=ig B l j (by omega);have h2:=ig B (l.set j d) j (by simp;omega);rw[bC hj,lz]at h1;have h3:(l.set j d).drop j=d::l.drop (j+1):=by
  rw[bC (by simp;omega),List.getElem_set_self,List.drop_set_of_lt (by omega)]
 rw[List.take_set_of_le (by omega),h3,lz]at h2;rw[h1,h2,tC hj];grind
theorem oP{l:List Nat}{i j d:Nat}(h:i≠j):dg (l.set i d) j=dg l j:=by simp[dg,List.getElem?_set_ne h]
theorem LJ(q x y z:Nat)(hq:q<4294967296)(hx:x<4294967296)(hy:y<4294967296)(hz:z<4294967296):(q+(x*y+z))/4294967296<4294967296∧q+(x*y+z)<18446744073709551616:=by
 have:x*y≤4294967295*4294967295:=aY (by omega) (by omega);omega
theorem OQ{B i k q x y z a:Nat}{o r:List Nat}(hp:i+k<o.length)(hy:dg r k=y)(hz:dg o (i+k)=z)
  (h:val B o+B^(i+k)*q=a+B^i*x*val B (r.take k)):
  val B (o.set (i+k) ((q+(x*y+z)) % B))+B^(i+(k+1))*((q+(x*y+z))/B)=a+B^i*x*val B (r.take (k+1)):=by
 have h1:=sw B o (i+k) ((q+(x*y+z)) % B) hp;rw[hz]at h1;rw[da B r k,hy];have h2:=fP (q+(x*y+z)) B;generalize(q+(x*y+z))/B=u at*;generalize(q+(x*y+z)) % B=v at*;have e1:B^(i+(k+1))=B^(i+k)*B:=by rw[←gU,eA]
 have e2:B^(i+k)=B^i*B^k:=cP B i k;have h3:B^(i+k)*(B*u+v)=B^(i+k)*(q+(x*y+z)):=by rw[h2]
 rw[e1];have h4:val B (o.set (i+k) v)+B^(i+k)*z+B^(i+k)*(B*u)=val B o+B^(i+k)*(q+(x*y+z)):=by rw[←h3,h1];grind
 have h5:val B (o.set (i+k) v)+B^(i+k)*(B*u)=val B o+B^(i+k)*q+B^(i+k)*(x*y):=by grind
 rw[lW,h5,h,e2];grind
theorem Sb{B i m q x:Nat}{o l r:List Nat}(hp:i+m<o.length)(hm:r.length=m)(hx:dg l i=x)(hz:dg o (i+m)=0)
  (h:val B o+B^(i+m)*q=val B (l.take i)*val B r+B^i*x*val B (r.take m)):
  val B (o.set (i+m) q)=val B (l.take (i+1))*val B r:=by
 have h1:=sw B o (i+m) q hp;rw[hz]at h1;rw[eL B r m (by omega)]at h;rw[da B l i,hx];grind
theorem Qi{q x sh:Nat}(hq:q<2^sh)(hx:x<4294967296)(hs:sh<32):q+x*2^sh<18446744073709551616∧(q+x*2^sh)/4294967296<2^sh∧q<4294967296:=by
 have h1:2^sh≤2^31:=cY (by omega) (by omega);have h2:(x+1)*2^sh≤4294967296*2^sh:=cf _ hx;rw[dM]at h2;refine⟨by omega,?_,by omega⟩;rw[eP (by omega)];omega
theorem O8(q x sh:Nat)(hq:q<2^sh)(hx:x<4294967296)(hs:sh<32):bits .or .u64 (q:Int) (IntKind.u64.wrap ((x:Int)*2^sh))=((q+x*2^sh:Nat):Int):=by
 obtain⟨h1,_,h2⟩:=Qi hq hx hs;have e:(x:Int)*2^sh=((x*2^sh:Nat):Int):=by simp
 rw[e,IntWalk.u64_in _ (by omega),u64_or_nat q (x*2^sh) (by omega) (by omega)];congr 1;have h:=Nat.two_pow_add_eq_or_of_lt hq x;rw[fg,Nat.or_comm,←h,Nat.add_comm,fg]
theorem SS{B K k q x P N:Nat}{o l:List Nat}(hlen:o.length=K+k)(hx:dg l k=x)(hN:q+x*P=N)(h:val B o+B^(K+k)*q=B^K*(val B (l.take k)*P)):
  val B (o++[N % B])+B^(K+(k+1))*(N/B)=B^K*(val B (l.take (k+1))*P):=by
 rw[kP,hlen,da B l k,hx];have h1:=fP N B;generalize N/B=u at*;generalize N % B=v at*;have e1:B^(K+(k+1))=B^(K+k)*B:=by rw[←gU,eA]
 have e2:B^(K+k)=B^K*B^k:=cP B K k;have h3:B^(K+k)*(B*u+v)=B^(K+k)*(q+x*P):=by rw[h1,hN]
 have h4:val B o+B^(K+k)*v+B^(K+(k+1))*u=val B o+B^(K+k)*q+B^(K+k)*(x*P):=by rw[e1];grind
 rw[h4,h,e2];grind
theorem zA(x m:Nat)(hx:x<4294967296)(hm:m<4294967296):0≤(x:Int)*m∧(x:Int)*m≤18446744065119617025:=by
 have h:x*m≤18446744065119617025:=by
  have:x*m≤4294967295*4294967295:=aY (by omega) (by omega);omega
 rw[←dP];omega
theorem H8{B P Q m y R:Nat}(hB:B=P*Q)(hP:0<P):(m+B*(y+B*R))/P % B=(m+B*y)/P % B:=by
 have e:m+B*(y+B*R)=(m+B*y)+P*(B*(Q*R)):=by subst hB;grind
 rw[e,mR _ _ hP,Nat.add_mul_mod_self_left]
theorem Cx{B P Q k x y:Nat}{o l:List Nat}(hB:B=P*Q)(hP:0<P)(hB0:0<B)(hlen:o.length=k)(hk:k<l.length)(hx:dg l k=x)(hy:dg l (k+1)=y)(hl:∀d∈l,d<B)
  (h:val B o+B^k*(val B (l.drop k)/P)=val B l/P):
  val B (o++[(x+y*B)/P % B])+B^(k+1)*(val B (l.drop (k+1))/P)=val B l/P:=by
 have e1:val B (l.drop k)=x+B*val B (l.drop (k+1)):=by
  rw[bC hk,lz,←tC hk,hx]
 have hx':x<B:=by rw[←hx];exact iX hl hB0 k
 obtain⟨R,e2⟩:∃R,val B (l.drop (k+1))=y+B*R:=by
  by_cases h2:k+1<l.length
  ·exact⟨val B (l.drop (k+1+1)),by rw[bC h2,lz,←tC h2,hy]⟩
  ·refine⟨0,?_⟩;rw[bu (by omega),←hy,tB (by omega)];rfl
 have e3:val B (l.drop k)/P % B=(x+y*B)/P % B:=by rw[e1,e2,H8 hB hP,fg y B]
 have e4:val B (l.drop k)/P/B=val B (l.drop (k+1))/P:=by
  rw[Nat.div_div_eq_div_mul,fg P B,←Nat.div_div_eq_div_mul,e1,mR _ _ hB0,jC hx',bQ]
 rw[kP,hlen,←e3,←e4,←h,eA];have h1:=fP (val B (l.drop k)/P) B;generalize val B (l.drop k)/P=D at*;generalize D/B=u at*;generalize D % B=v at*;rw[←h1];grind
theorem Hg(B:Nat)(hB:0<B)(l:List Nat)(k:Nat)(hl:∀d∈l,d<B):val B (l.drop k)=val B l/B^k:=by
 by_cases hk:k≤l.length
 ·have h1:=ig B l k hk;have h2:=mE B (l.take k) (fun d hd=>hl d (fe hd));simp only[dG,fr hk]at h2;rw[h1,mR _ _ (gN hB),jC h2,bQ]
 ·have h1:=mE B l hl;have h2:B^l.length≤B^k:=cY hB (by omega);rw[bu (by omega),jC (by omega)];rfl
theorem wJ(l:List Nat)(k i:Nat):dg (l.drop k) i=dg l (k+i):=by simp[dg]
theorem LY{sh:Nat}(hs:sh≤32):4294967296=2^sh*2^(32-sh):=by
 rw[←cP,show sh+(32-sh)=32 from by omega]
theorem Nr{B m:Nat}{l:List Nat}(hB:0<B)(h:val B l<B^m)(j:Nat)(hj:m≤j):dg l j=0:=by
 by_cases hl:j<l.length
 ·apply Nat.eq_zero_of_not_pos;intro hp;have h1:=ig B l j (by omega);rw[bC hl,lz,←tC hl]at h1;have h2:B^m≤B^j:=cY hB hj;have h3:B^j*1≤B^j*(dg l j+B*val B (l.drop (j+1))):=cG _ (by omega);omega
 ·exact tB (by omega)
theorem BJ{B:Nat}{l:List Nat}(m:Nat)(h:∀j,m≤j→dg l j=0):val B l=val B (l.take m):=by
 by_cases hm:m≤l.length
 ·rw[ig B l m hm,yu B (l.drop m)]
  ·simp
  ·intro d hd;obtain⟨i,hi,rfl⟩:=List.mem_iff_getElem.1 hd;simp only[iw]at hi;have:=h (m+i) (by omega);rw[tC (by omega)]at this;simpa using this
 ·rw[eL _ _ _ (by omega)]
theorem xy{B:Nat}{l:List Nat}(hB:0<B)(hl:∀d∈l,d<B)(m:Nat):val B (l.take m)<B^m:=by
 have h1:=mE B (l.take m) (fun d hd=>hl d (fe hd));have h2:B^(l.take m).length≤B^m:=cY hB (by simp;omega);omega
section
variable{B P t s D2 D two x W2 W:Nat}
theorem NT(hD:D=(t*B+s)*P+D2)(hW:W=(two*B+x)*P+W2)(ht:0<t)(hx:x<B)(hW2:W2<P):W/D≤two/t:=by
 rw[jZ ht];have h1:W/D*D≤W:=Nat.div_mul_le_self W D;generalize W/D=g at*;apply gL;intro hlt;have h2:(two+1)*(B*P)≤g*t*(B*P):=cf _ hlt;have h3:g*t*(B*P)≤g*D:=by
  rw[hD];have:t*(B*P)≤(t*B+s)*P+D2:=by
   have:t*B*P≤(t*B+s)*P:=cf _ (by omega);rw[←lW];omega
  rw[lW];exact cG _ this
 have h4:W<(two+1)*(B*P):=by
  rw[hW];have:(two*B+x+1)*P≤(two*B+B)*P:=cf _ (by omega);have e:(two+1)*(B*P)=(two*B+B)*P:=by grind
  rw[e];rw[dM _ 1]at this;omega
 omega
theorem CC{g left:Nat}(hD:D=(t*B+s)*P+D2)(hW:W=(two*B+x)*P+W2)(hW2:W2<P)(hD0:0<D)(hWB:W<B*D)(_hg:W/D≤g)(hl:g*t+left=two)
  (hc:B≤g∨left*B+x<g*s):W/D≤g-1∧0<g:=by
 have key:W<g*D:=by
  rcases hc with hc|hc
  ·exact cM hWB (cf _ hc)
  ·have h1:two*B+x+1≤g*(t*B+s):=by
    rw[←hl];have:g*(t*B+s)=g*t*B+g*s:=by grind
    rw[this,dM];omega
   have h2:(two*B+x+1)*P≤g*(t*B+s)*P:=cf _ h1;have h3:g*(t*B+s)*P≤g*D:=by
    rw[hD,lW];exact cG _ (by omega)
   rw[dM _ 1]at h2;omega
 have:W/D<g:=by
  rw[eP hD0];exact key
 generalize W/D=q at*;omega
theorem Aw{g left:Nat}(hD:D=(t*B+s)*P+D2)(hW:W=(two*B+x)*P+W2)(hD2:D2<P)(ht:0<t)(hD0:0<D)(hl:g*t+left=two)(hgB:g≤B)
  (hc:g*s≤left*B+x):g≤W/D+1:=by
 have h1:g*(t*B+s)≤two*B+x:=by
  rw[←hl];have:g*(t*B+s)=g*t*B+g*s:=by grind
  rw[this,dM];omega
 have h2:g*(t*B+s)*P≤(two*B+x)*P:=cf _ h1;have h3:g*D=g*(t*B+s)*P+g*D2:=by rw[hD];grind
 have h4:g*D2≤B*D2:=cf _ hgB;have h5:B*D2≤B*P:=cG _ (by omega);have h6:B*P≤D:=by
  rw[hD];have:1*(B*P)≤t*(B*P):=cf _ ht;have e:(t*B+s)*P=t*(B*P)+s*P:=by grind
  rw[e];omega
 have h7:g*D≤W+D:=by omega
 have h8:(g-1)*D≤W:=by
  rw[Nat.sub_mul,iQ];omega
 have:=(jZ hD0).2 h8;omega
theorem yJ{g left:Nat}(hgB:g≤B)(hs:s<B)(hl:B≤left):g*s≤left*B+x:=by
 have h1:g*s≤B*B:=aY hgB (by omega);have h2:B*B≤left*B:=cf _ hl;omega
theorem FK(hD:D=(t*B+s)*P+D2)(hW:W=(two*B+x)*P+W2)(hs:s<B)(hD2:D2<P)(ht2:B≤2*t)(_hB:0<B)(hWB:W<B*D):two/t≤B+1:=by
 have ht:0<t:=by omega
 have h1:two<(t+1)*B:=by
  apply Nat.lt_of_not_le;intro hle;have h2:(t+1)*B*(B*P)≤two*(B*P):=cf _ hle;have h3:two*(B*P)≤W:=by
   rw[hW];have:two*B*P≤(two*B+x)*P:=cf _ (by omega);rw[←lW];omega
  have h4:D<(t+1)*B*P:=by
   rw[hD];have:(t*B+s+1)*P≤(t+1)*B*P:=cf _ (by rw[dM];omega);rw[dM _ 1]at this;omega
  have h5:B*D≤B*((t+1)*B*P):=cG _ (by omega);have e:(t+1)*B*(B*P)=B*((t+1)*B*P):=by grind
  omega
 have h6:two/t<B+2:=by
  rw[eP ht];have:(t+1)*B=t*B+B:=by grind
  have:(B+2)*t=t*B+2*t:=by grind
  omega
 omega
end
theorem CU{B i k g c bo bo' y z x' R:Nat}{p d:List Nat}(hp:i+k<p.length)(hz:dg p (i+k)=z)(hy:dg d k=y)
  (hx:x'+(c+g*y) % B+bo=z+B*bo')
  (h:val B p+B^i*(g*val B (d.take k))=R+B^(i+k)*(c+bo)):
  val B (p.set (i+k) x')+B^i*(g*val B (d.take (k+1)))=R+B^(i+(k+1))*((c+g*y)/B+bo'):=by
 have h1:=sw B p (i+k) x' hp;rw[hz]at h1;rw[da B d k,hy];have h2:=fP (c+g*y) B;generalize(c+g*y)/B=u at*;generalize(c+g*y) % B=v at*;have e1:B^(i+(k+1))=B^(i+k)*B:=by rw[←gU,eA]
 have e2:B^(i+k)=B^i*B^k:=cP B i k;have e3:B^i*(g*(val B (d.take k)+B^k*y))=B^i*(g*val B (d.take k))+B^(i+k)*(g*y):=by rw[e2];grind
 rw[e3,e1];generalize B^i*(g*val B (d.take k))=S at*;generalize B^(i+k)=Q at*;generalize val B (p.set (i+k) x')=V' at*;generalize val B p=V at*;have h3:Q*(x'+v+bo)=Q*(z+B*bo'):=by rw[hx]
 have h4:Q*(B*u+v)=Q*(c+g*y):=by rw[h2]
 generalize g*y=G at*;grind
theorem LD{B i n z cb R S:Nat}{p:List Nat}(hp:i+n<p.length)(hz:dg p (i+n)=z)(hzc:cb≤z)
  (h:val B p+S=R+B^(i+n)*cb):val B (p.set (i+n) (z-cb))+S=R:=by
 have h1:=sw B p (i+n) (z-cb) hp;rw[hz]at h1;obtain⟨y,rfl⟩:∃y,z=cb+y:=⟨z-cb,by omega⟩;rw[Nat.add_sub_cancel_left]at*;rw[fA]at h1;omega
theorem LG{B i n z cb R S:Nat}{p:List Nat}(hp:i+n<p.length)(hz:dg p (i+n)=z)(hzc:z<cb)(hcb:cb≤z+B)
  (h:val B p+S=R+B^(i+n)*cb):val B (p.set (i+n) (z+B-cb))+S=R+B^(i+n)*B:=by
 have h1:=sw B p (i+n) (z+B-cb) hp;rw[hz]at h1;obtain⟨y,hy⟩:∃y,z+B=cb+y:=⟨z+B-cb,by omega⟩;have e:z+B-cb=y:=by omega
 rw[e]at h1⊢;have h2:B^(i+n)*(z+B)=B^(i+n)*(cb+y):=by rw[hy]
 rw[fA,fA]at h2;omega
theorem KZ{B i k c y z R:Nat}{p d:List Nat}(hp:i+k<p.length)(hz:dg p (i+k)=z)(hy:dg d k=y)
  (h:val B p+B^(i+k)*c=R+B^i*val B (d.take k)):
  val B (p.set (i+k) ((c+(z+y)) % B))+B^(i+(k+1))*((c+(z+y))/B)=R+B^i*val B (d.take (k+1)):=by
 have h1:=sw B p (i+k) ((c+(z+y)) % B) hp;rw[hz]at h1;rw[da B d k,hy];have h2:=fP (c+(z+y)) B;generalize(c+(z+y))/B=u at*;generalize(c+(z+y)) % B=v at*;have e1:B^(i+(k+1))=B^(i+k)*B:=by rw[←gU,eA]
 have e2:B^(i+k)=B^i*B^k:=cP B i k;have e3:B^i*(val B (d.take k)+B^k*y)=B^i*val B (d.take k)+B^(i+k)*y:=by rw[e2];grind
 rw[e3,e1];generalize B^i*val B (d.take k)=S at*;generalize B^(i+k)=Q at*;have h4:Q*(B*u+v)=Q*(c+(z+y)):=by rw[h2]
 grind
theorem M0{B m z c T:Nat}{p:List Nat}(hB:1<B)(hp:m<p.length)(hl:∀d∈p,d<B)(hz:dg p m=z)(hab:∀j,m<j→dg p j=0)(hT:T<B^m)
  (h:val B p+B^m*c=T+B^m*B):z+c=B∧val B (p.set m 0)=T:=by
 have h1:=sw B p m 0 hp;rw[hz]at h1;have h2:val B p=val B (p.take m)+B^m*z:=by
  rw[BJ (B:=B) (m+1) (fun j hj=>hab j (by omega)),da,hz]
 have h3:=xy (B:=B) (by omega) hl m;have hP:0<B^m:=gN (by omega);have h4:val B (p.take m)+B^m*(z+c)=T+B^m*B:=by rw[fA];omega
 have h5:z+c=B:=by
  have e1:(val B (p.take m)+B^m*(z+c))/B^m=z+c:=by rw[mR _ _ hP,jC h3,bQ]
  have e2:(T+B^m*B)/B^m=B:=by rw[mR _ _ hP,jC hT,bQ]
  rw[←e1,h4,e2]
 refine⟨h5,?_⟩;rw[h5]at h4;omega
theorem Xr{B i n:Nat}{p:List Nat}(hB:0<B)(hl:∀d∈p,d<B)(hab:∀j,i+(n+2)<j→dg p j=0)(_hi:i≤p.length):
  val B p/B^i=((dg p (i+(n+2))*B+dg p (i+(n+1)))*B+dg p (i+n))*B^n+val B ((p.drop i).take n):=by
 rw[←Hg B hB p i hl];have h1:val B (p.drop i)=val B ((p.drop i).take (n+3)):=BJ (n+3) (fun j hj=>by rw[wJ];exact hab _ (by omega));rw[h1,da,da,da,wJ,wJ,wJ];have e1:B^(n+1)=B^n*B:=eA ..;have e2:B^(n+2)=B^n*B*B:=by rw[show n+2=(n+1)+1 from rfl,eA,eA]
 rw[show n+1+1=n+2 from rfl,e1,e2];grind
theorem SM{B n:Nat}{d:List Nat}(h:d.length=n+2):val B d=(dg d (n+1)*B+dg d n)*B^n+val B (d.take n):=by
 have h1:val B d=val B (d.take (n+2)):=by rw[eL _ _ _ (by omega)]
 rw[h1,da,da,eA];grind
theorem vN{B i g D R V:Nat}(hD:0<D)(hB:0<B^i)(hlo:R/B^i/D≤g)(h:V+B^i*(g*D)=R):g=R/B^i/D∧V<D*B^i:=by
 have h1:g*D≤R/B^i:=by
  rw[jZ hB,fg];omega
 have h2:g≤R/B^i/D:=by rw[jZ hD];exact h1
 have h3:g=R/B^i/D:=by omega
 refine⟨h3,?_⟩;have h4:R/B^i<(g+1)*D:=by
  rw[h3,←eP hD];omega
 have h5:R<(g+1)*D*B^i:=by
  rw[←eP hB];exact h4
 have e:(g+1)*D*B^i=B^i*(g*D)+D*B^i:=by grind
 omega
theorem Jw{B j g D R U V:Nat}{qs:List Nat}(hj:j<qs.length)(h1:V+B^j*(g*D)=R)(h2:R+D*(B^(j+1)*val B (qs.drop (j+1)))=U):
  V+D*(B^j*val B ((qs.set j g).drop j))=U:=by
 have h3:(qs.set j g).drop j=g::qs.drop (j+1):=by
  rw[bC (by simp;omega),List.getElem_set_self,List.drop_set_of_lt (by omega)]
 rw[h3,lz,←h2,←h1,eA];grind
theorem LH{B j M g D z cb R:Nat}{p:List Nat}(hB:1<B)(hl:∀d∈p,d<B)(hz:dg p M=z)(hzc:z<cb)(hab:∀j',M<j'→dg p j'=0)(hD:0<D)
  (h:val B p+B^j*(g*D)=R+B^M*cb):R/B^j/D<g:=by
 have h2:val B p=val B (p.take M)+B^M*z:=by
  rw[BJ (B:=B) (M+1) (fun j' hj=>hab j' (by omega)),da,hz]
 have h3:=xy (B:=B) (by omega) hl M;have h4:B^M*(z+1)≤B^M*cb:=cG _ hzc;rw[fA,fK]at h4;rw[eP hD,eP (gN (by omega))];have e:g*D*B^j=B^j*(g*D):=fg _ _;omega
theorem U0{B j M g D R V V3 c:Nat}(hB:1<B)(hD:0<D)(hDM:D*B^j≤B^M)(hg:R/B^j/D=g)(h:V+B^j*((g+1)*D)=R+B^M*B)(h3:V3+B^M*c=V+B^j*D):
  ∃T,V3+B^M*c=T+B^M*B∧T<B^M∧T+B^j*(g*D)=R:=by
 have hP:0<B^j:=gN (by omega);have h4:B^j*(g*D)≤R:=by
  have h5:g*D≤R/B^j:=by rw[←hg];exact Nat.div_mul_le_self _ _
  have:=(jZ hP).1 h5;rw[fg];exact this
 obtain⟨T,hT⟩:∃T,R=T+B^j*(g*D):=⟨R-B^j*(g*D),by omega⟩;have h6:T<D*B^j:=(vN (B:=B) (i:=j) (g:=g) (D:=D) (R:=R) (V:=T) hD hP (by omega) hT.symm).2;refine⟨T,?_,by omega,hT.symm⟩;have e:B^j*((g+1)*D)=B^j*(g*D)+B^j*D:=by grind
 omega
theorem FE{p q x y P:Nat}(hP:0<P)(hy:0<y)(h:p+y*P*q=x*P)(hp:p<y*P):q=x/y∧p/P=x % y:=by
 have e:x*P=y*P*q+p:=by omega
 have h1:x*P/(y*P)=q:=by
  rw[e,Nat.mul_add_div (hY hy hP),jC hp,ff]
 have h2:x*P % (y*P)=p:=by
  rw[e,Nat.mul_add_mod,Nat.mod_eq_of_lt hp]
 rw[Nat.mul_div_mul_right _ _ hP]at h1;rw[Nat.mul_mod_mul_right]at h2;exact⟨h1.symm,by rw[←h2,Nat.mul_div_cancel _ hP]⟩
def dl(x:Nat):List Nat:=if h:x=0 then []else x % 10::dl (x/10)
termination_by x
decreasing_by exact Nat.div_lt_self (by omega) (by omega)
def Uz(l:List Nat):Prop:=∀d∈l,48≤d∧d≤57
theorem Uz.nil:Uz []:=by intro d h;simp at h
theorem BU{a b:Int}(ha:0≤a)(hb:b≠0):
  (a/b=if b<0 then-((a.natAbs/b.natAbs:Nat):Int)else((a.natAbs/b.natAbs:Nat):Int))∧a % b=((a.natAbs % b.natAbs:Nat):Int):=by
 obtain⟨n,rfl⟩:=Int.eq_ofNat_of_zero_le ha;by_cases h:b<0
 ·obtain⟨m,rfl⟩:∃m:Nat,b= -(m:Int):=⟨b.natAbs,by omega⟩;simp only[Int.ediv_neg,Int.emod_neg,Int.natAbs_neg,Int.natAbs_natCast,if_pos h];exact⟨by rw[kZ],by rw[ru]⟩
 ·obtain⟨m,rfl⟩:=Int.eq_ofNat_of_zero_le (Int.not_lt.1 h);simp only[Int.natAbs_natCast,if_neg h];exact⟨by rw[kZ],by rw[ru]⟩
theorem Au{a b:Int}(ha:a<0)(hb:b≠0)(hr:a.natAbs % b.natAbs=0):
  (a/b=if b<0 then((a.natAbs/b.natAbs:Nat):Int)else-((a.natAbs/b.natAbs:Nat):Int))∧a % b=0:=by
 have hd:b∣a:=Int.natAbs_dvd_natAbs.1 (Nat.dvd_of_mod_eq_zero hr);have h0:a % b=0:=Int.emod_eq_zero_of_dvd hd;refine⟨?_,h0⟩;have h1:=fP a.natAbs b.natAbs;have h2:=Int.mul_ediv_add_emod a b;have h3:((a.natAbs:Nat):Int)= -a:=by omega
 have h4:((b.natAbs*(a.natAbs/b.natAbs):Nat):Int)= -a:=by rw[←h3];congr 1;omega
 rw[dP]at h4;split
 ·rename_i h;have h5:((b.natAbs:Nat):Int)= -b:=by omega
  rw[h5]at h4;have:b*(a/b)=b*((a.natAbs/b.natAbs:Nat):Int):=by rw[Int.neg_mul]at h4;omega
  exact Int.eq_of_mul_eq_mul_left hb this
 ·rename_i h;have h5:((b.natAbs:Nat):Int)=b:=by omega
  rw[h5]at h4;have:b*(a/b)=b* -((a.natAbs/b.natAbs:Nat):Int):=by rw[Int.mul_neg];omega
  exact Int.eq_of_mul_eq_mul_left hb this
theorem BS{a b:Int}(ha:a<0)(hb:b≠0)(hr:a.natAbs % b.natAbs≠0):
  (a/b=if b<0 then((a.natAbs/b.natAbs:Nat):Int)+1 else-((a.natAbs/b.natAbs:Nat):Int)-1)∧a % b=((b.natAbs:Nat):Int)-((a.natAbs % b.natAbs:Nat):Int):=by
 have h1:=fP a.natAbs b.natAbs;have hb0:0<b.natAbs:=by omega
 have hlt:=fB a.natAbs hb0;have h3:((a.natAbs:Nat):Int)= -a:=by omega
 have h4:((b.natAbs*(a.natAbs/b.natAbs):Nat):Int)= -a-((a.natAbs % b.natAbs:Nat):Int):=by rw[←h3];omega
 rw[dP]at h4;generalize((a.natAbs/b.natAbs:Nat):Int)=q at*;have hlt':((a.natAbs % b.natAbs:Nat):Int)<((b.natAbs:Nat):Int):=by omega
 have hr':0<((a.natAbs % b.natAbs:Nat):Int):=by omega
 generalize((a.natAbs % b.natAbs:Nat):Int)=r at*;split
 ·rename_i h;have h5:((b.natAbs:Nat):Int)= -b:=by omega
  rw[h5]at h4 hlt'⊢;have e:a=b*(q+1)+(-b-r):=by rw[Int.mul_add,Int.mul_one];rw[Int.neg_mul]at h4;omega
  have:=(Int.ediv_emod_unique' (a:=a) (b:=b) (r:= -b-r) (q:=q+1) h).2 ⟨by omega,by omega,by omega⟩;exact⟨this.1,this.2⟩
 ·rename_i h;have h5:((b.natAbs:Nat):Int)=b:=by omega
  rw[h5]at h4 hlt'⊢;have e:a=b*(-q-1)+(b-r):=by rw[Int.mul_sub,Int.mul_one,Int.mul_neg];omega
  have:=(Int.ediv_emod_unique (a:=a) (b:=b) (r:=b-r) (q:= -q-1) (by omega)).2 ⟨by omega,by omega,by omega⟩;exact⟨this.1,this.2⟩
open Go.RowKit
structure Sl where
 ao:Option Addr
 n:Nat
 c:Nat
def de(w:World)(T:TypeId)(k:IntKind)(s:Sl)(l:List Nat):Prop:=
 s.n=l.length∧s.n≤s.c∧s.c≤9223372036854775807∧
  (0<s.n→∃b off cur,s.ao=some ⟨b,off,none⟩∧w.heap[b]? =some (.cells cur T (0,0))∧off+s.c≤cur.size∧∀i,i<s.n→cur[off+i]? =some (.int k ((dg l i:Nat):Int)))
def Kp(w w':World):Prop:=∀(b:Nat) (cur:Array Value) (T:TypeId) (f:Nat×Nat),(T=273∨T=3∨T=5)→w.heap[b]? =some (Obj.cells cur T f)→w'.heap[b]? =some (Obj.cells cur T f)
theorem mc{B:Nat}{w w':World}(h:Below B w.drew w'):Below B w w':=⟨h.os,h.tape,h.output,h.size,h.block⟩
theorem Kp.refl(w:World):Kp w w:=fun _ _ _ _ _ h=>h
theorem Kp.trans{w w' w'':World}(h:Kp w w')(h':Kp w' w''):Kp w w'':=fun b c T f hT hb=>h' b c T f hT (h b c T f hT hb)
theorem Kp.below{w w' w'':World}(h:Kp w w')(hb:Below w'.heap.size w' w''):Kp w w'':=fun b c T f hT hw=>by
 have h1:=h b c T f hT hw;rw[hb.block b (Array.getElem?_eq_some_iff.1 h1).1];exact h1
theorem Kp.setCell{w w':World}(h:Kp w w'){a:Addr}{c:Array Value}{T:TypeId}{f:Nat×Nat}(hb:w'.heap[a.block]? =some (.cells c T f))(hT:¬(T=273∨T=3∨T=5))(v:Value):Kp w (w'.setCell a v):=fun b c' T' f' hT' hw=>by
 have h1:=h b c' T' f' hT' hw;have:b≠a.block:=by
  rintro rfl;rw[h1]at hb;injection hb with hb;injection hb with _ hb _;exact hT (hb▸hT')
 rw[Below.heap_setCell _ _ _ _ this];exact h1
theorem de.kp{w w':World}{T:TypeId}{k:IntKind}{s:Sl}{l:List Nat}(h:de w T k s l)(hT:T=273∨T=3∨T=5)(hk:Kp w w'):de w' T k s l:=by
 obtain⟨h1,h2,h3,h4⟩:=h;refine⟨h1,h2,h3,fun hp=>?_⟩;obtain⟨b,off,cur,ha,hb,hr⟩:=h4 hp;exact⟨b,off,cur,ha,hk _ _ _ _ hT hb,hr⟩
theorem de.up{w w':World}{T:TypeId}{k:IntKind}{s:Sl}{l:List Nat}(h:de w T k s l)(hb:Below w.heap.size w w'):de w' T k s l:=by
 obtain⟨h1,h2,h3,h4⟩:=h;refine⟨h1,h2,h3,fun hp=>?_⟩;obtain⟨b,off,cur,ha,hh,hr⟩:=h4 hp;exact⟨b,off,cur,ha,by rw[hb.block b (Array.getElem?_eq_some_iff.1 hh).1];exact hh,hr⟩
theorem de.open{w:World}{T:TypeId}{k:IntKind}{s:Sl}{l:List Nat}(h:de w T k s l)(hp:0<s.n):
  ∃b off,s.ao=some ⟨b,off,none⟩∧b<w.heap.size∧∀i,i<s.n→w.cell? ⟨b,off+i,none⟩=some (.int k ((dg l i:Nat):Int)):=by
 obtain⟨h1,h2,h3,h4⟩:=h;obtain⟨b,off,cur,ha,hh,hc,hr⟩:=h4 hp;refine⟨b,off,ha,(Array.getElem?_eq_some_iff.1 hh).1,fun i hi=>?_⟩;rw[cell_of_row w b (off+i) cur T (0,0) hh];exact hr i hi
theorem de.cut{w:World}{T:TypeId}{k:IntKind}{s:Sl}{l:List Nat}(h:de w T k s l)(j c:Nat)(hj:j≤s.n)(hc:j≤c)(hc':c≤s.c):de w T k ⟨s.ao,j,c⟩ (l.take j):=by
 obtain⟨h1,h2,h3,h4⟩:=h;refine⟨by simp;omega,hc,by simp;omega,fun hp=>?_⟩;simp only at hp;obtain⟨b,off,cur,ha,hh,hcc,hr⟩:=h4 (by omega);refine⟨b,off,cur,ha,hh,by simp;omega,fun i hi=>?_⟩;simp only at hi;rw[hr i (by omega)];simp[dg,hi]
theorem de.nil(w:World)(T:TypeId)(k:IntKind)(ao:Option Addr)(c:Nat)(hc:c≤9223372036854775807):de w T k ⟨ao,0,c⟩ []:=⟨rfl,aJ _,hc,fun h=>absurd h (by simp)⟩
theorem zT{w:World}{base:Nat}{T:TypeId}{k:IntKind}{v:Value}{l:List Nat}(h:w.ownsRow base T 1 v l.length (l.map fun d=>Value.int k ((d:Nat):Int))):
  ∃s:Sl,v=.slice s.ao s.n s.c∧de w T k s l:=by
 obtain⟨h1,h2⟩:=h;rcases h2 with⟨rfl,h2⟩|⟨g,cap,cur,rfl,_,hg,hnc,hcm,hcs,htake⟩
 ·have:l=[]:=aN h2;subst this;exact⟨⟨none,0,0⟩,rfl,de.nil _ _ _ _ _ (by omega)⟩
 ·refine⟨⟨some ⟨g,0,none⟩,l.length,cap⟩,rfl,rfl,hnc,by unfold maxLen at hcm;simpa using hcm,fun _=>⟨g,0,cur,rfl,hg,by simp only[fK]at hcs;simp[hcs],fun i hi=>?_⟩⟩;simp only at hi;have h3:(cur.toList.take (l.length*1))[i]? =(l.map fun d=>Value.int k ((d:Nat):Int))[i]? :=by rw[htake]
  rw[List.getElem?_take_of_lt (by omega)]at h3;simp only[bQ];simpa [dg,hi]using h3
theorem de.of_row{w:World}{T:TypeId}{k:IntKind}{b:Nat}{cur:Array Value}(l:List Nat)(h:w.heap[b]? =some (.cells cur T (0,0)))(hc:cur=(l.map fun d=>Value.int k ((d:Nat):Int)).toArray)(hl:l.length≤9223372036854775807):de w T k ⟨some ⟨b,0,none⟩,l.length,l.length⟩ l:=by
 subst hc;exact⟨rfl,ak _,hl,fun _=>⟨b,0,_,rfl,h,by simp,fun i hi=>by simp only at hi;simp[dg,hi]⟩⟩
def dV(w:World)(s:Sl)(x:Nat):Prop:=∃l:List Nat,de w 273 .u32 s l∧(∀d∈l,d<4294967296)∧qR l∧val 4294967296 l=x
def za(w:World)(s:Sl)(x:Nat):Prop:=∃l:List Nat,de w 3 .i64 s l∧(∀d∈l,d<10000)∧qR l∧val 10000 l=x
theorem dV.kp{w w':World}{s:Sl}{x:Nat}(h:dV w s x)(hk:Kp w w'):dV w' s x:=by
 obtain⟨l,h1,h2⟩:=h;exact⟨l,h1.kp (.inl rfl) hk,h2⟩
theorem za.kp{w w':World}{s:Sl}{x:Nat}(h:za w s x)(hk:Kp w w'):za w' s x:=by
 obtain⟨l,h1,h2⟩:=h;exact⟨l,h1.kp (.inr (.inl rfl)) hk,h2⟩
theorem dV.up{w w':World}{s:Sl}{x:Nat}(h:dV w s x)(hb:Below w.heap.size w w'):dV w' s x:=h.kp ((Kp.refl w).below hb)
theorem za.up{w w':World}{s:Sl}{x:Nat}(h:za w s x)(hb:Below w.heap.size w w'):za w' s x:=h.kp ((Kp.refl w).below hb)
theorem dV.nil(w:World)(ao:Option Addr)(c:Nat)(hc:c≤9223372036854775807):dV w ⟨ao,0,c⟩ 0:=⟨[],de.nil _ _ _ _ _ hc,by simp,Gx,rfl⟩
theorem za.nil(w:World)(ao:Option Addr)(c:Nat)(hc:c≤9223372036854775807):za w ⟨ao,0,c⟩ 0:=⟨[],de.nil _ _ _ _ _ hc,by simp,Gx,rfl⟩
theorem dV.zero_iff{w:World}{s:Sl}{x:Nat}(h:dV w s x):x=0↔s.n=0:=by
 obtain⟨l,h1,h2,h3,h4⟩:=h;rw[←h4,h3.zero_iff (by omega),h1.1];exact List.length_eq_zero_iff.symm
theorem dV.n_le{w w':World}{s t:Sl}{x y:Nat}(h:dV w s x)(h':dV w' t y)(hxy:x≤y):s.n≤t.n:=by
 obtain⟨l,h1,h2,h3,h4⟩:=h;obtain⟨m,g1,g2,g3,g4⟩:=h';rw[h1.1,g1.1];exact h3.len_le (by omega) g2 (by omega)
structure yB(t T:TypeId)(k:IntKind)(bytes:Nat):Prop where
 ut:Tryz.prog.underlying t=some (.slice T)
 inf:(Tryz.prog.info? T).map (fun i=>(i.zero,i.size,i.bytes))=some (some (.int k 0),1,bytes)
theorem ib:yB 108 273 .u32 4:=⟨Tryz.underlying108,by kernel_rfl⟩
theorem EE:yB 28 5 .u8 1:=⟨Tryz.underlying28,by kernel_rfl⟩
def iN(w:World)(base:Nat)(T:TypeId)(k:IntKind)(v:Value)(l:List Nat):Prop:=
 w.ownsRow base T 1 v l.length (l.map fun d=>Value.int k ((d:Nat):Int))
theorem iN.ints{w:World}{base:Nat}{T:TypeId}{k:IntKind}{v:Value}{l:List Nat}(h:iN w base T k v l):
  ∃s:Sl,v=.slice s.ao s.n s.c∧de w T k s l:=zT h
theorem iN.intsAt{w:World}{base:Nat}{T:TypeId}{k:IntKind}{ao:Option Addr}{n c:Nat}{l:List Nat}(h:iN w base T k (.slice ao n c) l):de w T k ⟨ao,n,c⟩ l:=by
 obtain⟨s,hs,hi⟩:=h.ints;obtain⟨a,b,d⟩:=s;simp only[kQ]at hs;obtain⟨rfl,rfl,rfl⟩:=hs;exact hi
theorem iN.nil(w:World)(base:Nat)(T:TypeId)(k:IntKind):iN w base T k (.slice none 0 0) []:=World.ownsRow_nil w base T 1
theorem iN.below{w w':World}{base B:Nat}{T:TypeId}{k:IntKind}{v:Value}{l:List Nat}(h:iN w base T k v l)(hb:Below B w w')(hB:w.heap.size≤B):iN w' base T k v l:=by
 obtain⟨h1,h2⟩:=h;refine⟨h1,?_⟩;rcases h2 with h2|⟨g,cap,cur,hv,hbg,hg,hr⟩
 ·exact .inl h2
 ·exact .inr ⟨g,cap,cur,hv,hbg,by rw[hb.block g (cM (Array.getElem?_eq_some_iff.1 hg).1 hB)];exact hg,hr⟩
theorem iN.alloc{w:World}{base:Nat}{T:TypeId}{k:IntKind}{v:Value}{l:List Nat}(h:iN w base T k v l)(o:Obj):iN (w.alloc o) base T k v l:=
 h.below ((bD _ _).alloc (ak _) o) (ak _)
theorem o5{base:Nat}{w w':World}{row:Option Nat}(hg:w.grownBy w' row)(hB:base≤w.heap.size)(hr:∀k,row=some k→base≤k):Below base w w':=
 (bD base w).grown hg hB hr
theorem fm{t T:TypeId}{k:IntKind}{bytes:Nat}(hT:yB t T k bytes)(w0:World){ops:Array Oper}{rest:List Oper}{o:Oper}{a:Act}{Q:Exit→Act→World→Prop}
  (hg:o.guard=none)(s x:Operand)(hop:o.op=Op.call {callee:=Callee.builtin Builtin.append,args:= #[s,x],argTypes:= #[t,t]})
  (base:Nat)(v:Value)(l:List Nat)(z:Int)(d:Nat)(hs:a.eval s=v)(hx:a.eval x=.slice (some ⟨w0.heap.size,0,none⟩) 1 1)
  (hown:iN w0 base T k v l)(hz:z=(d:Int))(hlen:(l.length+1)*bytes≤140737488355328)(hlm:l.length+1≤maxLen)(hbase:base≤w0.heap.size)
  (hK:∀v' w',iN w' base T k v' (l++[d])→Below base w0 w'→wpList Tryz.prog ops Q rest (a.put o.dst v') w'):
  wpList Tryz.prog ops Q (o::rest) a (w0.alloc (.cells #[.int k z] T)):=by
 obtain⟨i0,hi,hz0,hz1,hz2⟩:=info_parts hT.inf;refine wpList_append_own _ hg s x t hop base T i0 (.int k 0) 1 bytes hT.ut hi hz0 hz1 hz2 rfl (by decide) v l.length _ hs (hown.alloc _) ⟨w0.heap.size,0,none⟩ 1 1 [.int k z] hx rfl (cell_one_new _ _ _) ?_ hlm hlen (by simp;omega) ?_
 ·intro u hu;simp at hu;subst hu;rfl
 ·intro v' w' h1 h2 _;refine hK v' w' ?_ ?_
  ·unfold iN;subst hz;simpa using h1
  ·exact((bD base w0).alloc hbase _).grown h2 (by simp;omega) (fun g hgv=>(hown.lt g hgv).1)
theorem u_{t T:TypeId}{k:IntKind}{bytes:Nat}(hT:yB t T k bytes)(w0:World){ops:Array Oper}{rest:List Oper}{o:Oper}{a:Act}{Q:Exit→Act→World→Prop}
  (hg:o.guard=none)(l c:Operand)(hop:o.op=Op.makeSlice t l c)(base:Nat)(kl kc:IntKind)(C:Int)(n:Nat)(hl:a.eval l=.int kl 0)(hc:a.eval c=.int kc C)(hC:C=(n:Int))
  (hbytes:bytes*n≤281474976710656)(hn:n≤maxLen)(hbase:base≤w0.heap.size)
  (hK:∀v' w',iN w' base T k v' []→Below base w0 w'→wpList Tryz.prog ops Q rest (a.put o.dst v') w'):
  wpList Tryz.prog ops Q (o::rest) a w0:=by
 obtain⟨i0,hi,hz0,hz1,hz2⟩:=info_parts hT.inf;refine wpList_make_own _ hg l c t hop base T i0 (.int k 0) 1 hT.ut hi hz0 hz1 kl kc C n hl hc hC (by rw[hz2];exact hbytes) hn hbase ?_;intro w' h1 h2;exact hK _ w' h1 (o5 h2 hbase (by simp))
theorem vD{t T:TypeId}{k:IntKind}{bytes:Nat}(hT:yB t T k bytes)(w0:World){ops:Array Oper}{rest:List Oper}{o:Oper}{a:Act}{Q:Exit→Act→World→Prop}
  (hg:o.guard=none)(l c:Operand)(hop:o.op=Op.makeSlice t l c)(base:Nat)(kl kc:IntKind)(L C:Int)(n:Nat)(hl:a.eval l=.int kl L)(hc:a.eval c=.int kc C)(hL:L=(n:Int))(hC:C=(n:Int))
  (hbytes:bytes*n≤281474976710656)(hn:n≤maxLen)(hbase:base≤w0.heap.size)
  (hK:∀w',iN w' base T k (.slice (some ⟨w0.heap.size,0,none⟩) n n) (List.replicate n 0)→Below base w0 w'→w0.heap.size<w'.heap.size→wpList Tryz.prog ops Q rest (a.put o.dst (.slice (some ⟨w0.heap.size,0,none⟩) n n)) w'):
  wpList Tryz.prog ops Q (o::rest) a w0:=by
 obtain⟨i0,hi,hz0,hz1,hz2⟩:=info_parts hT.inf;refine wpList_make_full _ hg l c t hop base T i0 (.int k 0) 1 hT.ut hi hz0 hz1 kl kc L C n hl hc hL hC (by rw[hz2];exact hbytes) hn hbase ?_;intro w' h1 h2;refine hK w' ?_ (o5 h2 hbase (by simp)) ?_
 ·unfold iN;have e:(madeCells (Value.int k 0).cells (n*1)).toList=(List.replicate n 0).map fun d=>Value.int k ((d:Nat):Int):=by
   apply rB (by simp[madeCells]);intro j h1 h2;simp[madeCells,Value.cells,Nat.mod_one]
  rw[e]at h1;simpa using h1
 ·have:=(h1.lt w0.heap.size rfl).2;exact this
theorem BM{t T:TypeId}{k:IntKind}{bytes:Nat}(hT:yB t T k bytes)(w0:World){ops:Array Oper}{rest:List Oper}{o:Oper}{a:Act}{Q:Exit→Act→World→Prop}
  (hg:o.guard=none)(l c:Operand)(hop:o.op=Op.makeSlice t l c)(base:Nat)(kl kc:IntKind)(L C:Int)(n:Nat)(hl:a.eval l=.int kl L)(hc:a.eval c=.int kc C)(hL:L=(n:Int))(hC:C=(n:Int))
  (hbytes:bytes*n≤281474976710656)(hn:n≤maxLen)(hbase:base≤w0.heap.size)
  (hK:∀w',iN w' base T k (.slice (some ⟨w0.heap.size,0,none⟩) n n) (List.replicate n 0)→Below w0.heap.size w0 w'→w0.heap.size<w'.heap.size→wpList Tryz.prog ops Q rest (a.put o.dst (.slice (some ⟨w0.heap.size,0,none⟩) n n)) w'):
  wpList Tryz.prog ops Q (o::rest) a w0:=by
 obtain⟨i0,hi,hz0,hz1,hz2⟩:=info_parts hT.inf;refine wpList_make_full _ hg l c t hop base T i0 (.int k 0) 1 hT.ut hi hz0 hz1 kl kc L C n hl hc hL hC (by rw[hz2];exact hbytes) hn hbase ?_;intro w' h1 h2;refine hK w' ?_ (o5 h2 (ak _) (by simp)) ?_
 ·unfold iN;have e:(madeCells (Value.int k 0).cells (n*1)).toList=(List.replicate n 0).map fun d=>Value.int k ((d:Nat):Int):=by
   apply rB (by simp[madeCells]);intro j h1 h2;simp[madeCells,Value.cells,Nat.mod_one]
  rw[e]at h1;simpa using h1
 ·have:=(h1.lt w0.heap.size rfl).2;exact this
theorem BN{t T:TypeId}{k:IntKind}{bytes:Nat}(hT:yB t T k bytes)(w0:World){ops:Array Oper}{rest:List Oper}{o:Oper}{a:Act}{Q:Exit→Act→World→Prop}
  (hg:o.guard=none)(s x:Operand)(hop:o.op=Op.call {callee:=Callee.builtin Builtin.append,args:= #[s,x],argTypes:= #[t,t]})
  (base:Nat)(v:Value)(l l2:List Nat)(sl:Sl)(hs:a.eval s=v)(hx:a.eval x=.slice sl.ao sl.n sl.c)
  (hown:iN w0 base T k v l)(hi:de w0 T k sl l2)(hp:0<sl.n)(hlen:(l.length+l2.length)*bytes≤140737488355328)(hlm:l.length+l2.length≤maxLen)(hbase:base≤w0.heap.size)
  (hK:∀v' w',iN w' base T k v' (l++l2)→Below base w0 w'→wpList Tryz.prog ops Q rest (a.put o.dst v') w'):
  wpList Tryz.prog ops Q (o::rest) a w0:=by
 obtain⟨i0,hi0,hz0,hz1,hz2⟩:=info_parts hT.inf;obtain⟨b,off,ha,hb,hc⟩:=hi.open hp;have hn:=hi.1;refine wpList_append_own _ hg s x t hop base T i0 (.int k 0) 1 bytes hT.ut hi0 hz0 hz1 hz2 rfl (by decide) v l.length _ hs hown ⟨b,off,none⟩ sl.n sl.c (l2.map fun d=>Value.int k ((d:Nat):Int)) (by rw[hx,ha]) (by simp[hn]) ?_ ?_ (by rw[hn];exact hlm) (by rw[hn];exact hlen) hbase ?_
 ·intro j u hj;simp only[bK,Option.map_eq_some_iff]at hj;obtain⟨d,hd,rfl⟩:=hj;have hjl:j<l2.length:=(List.getElem?_eq_some_iff.1 hd).1;have:=hc j (by omega);rw[tC hjl]at this;have e:l2[j]=d:=(List.getElem?_eq_some_iff.1 hd).2;rw[e]at this;rw[←this];unfold Addr.add;split
  ·rename_i h0;subst h0;rfl
  ·rfl
 ·intro u hu;simp only[zW]at hu;obtain⟨d,_,rfl⟩:=hu;rfl
 ·intro v' w' h1 h2 _;refine hK v' w' ?_ ((bD base w0).grown h2 hbase (fun g hgv=>(hown.lt g hgv).1));unfold iN;rw[aA,aT,←hn];exact h1
theorem EO{t T:TypeId}{k:IntKind}{bytes:Nat}(hT:yB t T k bytes)(w0:World){ops:Array Oper}{rest:List Oper}{o:Oper}{a:Act}{Q:Exit→Act→World→Prop}
  (hg:o.guard=none)(l c:Operand)(hop:o.op=Op.makeSlice t l c)(base:Nat)(kl kc:IntKind)(L C:Int)(m n:Nat)(hl:a.eval l=.int kl L)(hc:a.eval c=.int kc C)(hL:L=(m:Int))(hC:C=(n:Int))(hmn:m≤n)
  (hbytes:bytes*n≤281474976710656)(hn:n≤maxLen)(hbase:base≤w0.heap.size)
  (hK:∀v' w',iN w' base T k v' (List.replicate m 0)→Below base w0 w'→w0.heap.size<w'.heap.size→wpList Tryz.prog ops Q rest (a.put o.dst v') w'):
  wpList Tryz.prog ops Q (o::rest) a w0:=by
 obtain⟨i0,hi,hz0,hz1,hz2⟩:=info_parts hT.inf;have hnm:n≤9223372036854775807:=by have:=hn;simp only[maxLen]at this;omega
 have hr:=run_make (P:=Tryz.prog) w0 t T i0 (.int k 0) hT.ut hi hz0 kl kc (m:Int) (n:Int) (by omega) (by omega) (by rw[hz2,←dP];omega) (by omega);simp only[jc,hz1,fK]at hr;refine wpList_plain hg fun K hK'=>?_;subst hL;subst hC;unfold Oper.wp;simp[execOp,hop,hl,hc,hr,Result.andThen];refine hK' _ _ (hK _ _ ?_ ((bD base w0).alloc hbase _) (by simp));refine⟨by simp,.inr ⟨w0.heap.size,n,_,by simp,hbase,heap_alloc_new w0 _,by simpa using hmn,hn,by simp[madeCells],?_⟩⟩;apply rB (by simp[madeCells];omega);intro j h1 h2;simp[madeCells,Value.cells,Nat.mod_one]
theorem iN.slot{w:World}{base:Nat}{T:TypeId}{k:IntKind}{g n c:Nat}{l:List Nat}(h:iN w base T k (.slice (some ⟨g,0,none⟩) n c) l)(i:Nat)(hi:i<l.length):
  w.cell? ⟨g,i,none⟩=some (.int k ((dg l i:Nat):Int))∧w.frozen? ⟨g,i,none⟩=false∧base≤g∧g<w.heap.size:=by
 have hn:n=l.length:=by
  rcases h.2 with⟨e,_⟩|⟨_,_,_,e,_⟩
  ·simp at e
  ·simp at e;exact e.2.1
 subst hn;refine⟨?_,World.ownsRow.frozenAt h i,h.lt g rfl⟩;rw[World.ownsRow.cellAt h i (by omega)];simp[dg,hi]
theorem iN.store{w:World}{base:Nat}{T:TypeId}{k:IntKind}{g n c:Nat}{l:List Nat}(h:iN w base T k (.slice (some ⟨g,0,none⟩) n c) l)(i d:Nat):
  iN (w.setCell ⟨g,i,none⟩ (.int k ((d:Nat):Int))) base T k (.slice (some ⟨g,0,none⟩) n c) (l.set i d)∧Below base w (w.setCell ⟨g,i,none⟩ (.int k ((d:Nat):Int))):=by
 have hn:n=l.length:=by
  rcases h.2 with⟨e,_⟩|⟨_,_,_,e,_⟩
  ·simp at e
  ·simp at e;exact e.2.1
 subst hn;have h1:=World.ownsRow.stored h i (.int k ((d:Nat):Int));refine⟨?_,(bD base w).setCell (h.lt g rfl).1 _⟩;have h2:=h1.1;unfold iN;rw[dq];rw[show(l.set i d).map (fun d=>Value.int k ((d:Nat):Int))=(l.map (fun d=>Value.int k ((d:Nat):Int))).set i (Value.int k ((d:Nat):Int))from by rw[List.map_set]];exact h2
theorem iN.store'{w:World}{base:Nat}{T:TypeId}{k:IntKind}{g n c:Nat}{l:List Nat}(h:iN w base T k (.slice (some ⟨g,0,none⟩) n c) l)(i:Nat)(z:Int)(d:Nat)(hz:z=(d:Int)):
  iN (w.setCell ⟨g,i,none⟩ (.int k z)) base T k (.slice (some ⟨g,0,none⟩) n c) (l.set i d)∧Below base w (w.setCell ⟨g,i,none⟩ (.int k z)):=by
 subst hz;exact h.store i d
theorem iN.set_ne{w:World}{base:Nat}{T:TypeId}{k:IntKind}{g n c:Nat}{l:List Nat}(h:iN w base T k (.slice (some ⟨g,0,none⟩) n c) l){a:Addr}(ha:g≠a.block)(u:Value):
  iN (w.setCell a u) base T k (.slice (some ⟨g,0,none⟩) n c) l:=by
 obtain⟨h1,h2⟩:=h;refine⟨h1,?_⟩;rcases h2 with⟨e,_⟩|⟨g',cap,cur,hv,hbg,hg,hr⟩
 ·simp at e
 ·simp only[kQ,ar,pR,and_true]at hv;obtain⟨rfl,hv1,hv2⟩:=hv;exact .inr ⟨g,cap,cur,by rw[hv1,hv2],hbg,by rw[Below.heap_setCell _ _ _ _ ha];exact hg,hr⟩
theorem lF(w:World)(o:Obj):(w.alloc o).heap[w.heap.size]? =some o:=heap_alloc_new w o
theorem kR{w:World}{k:Nat}{o:Obj}(h:w.heap[k]? =some o)(o':Obj):(w.alloc o').heap[k]? =some o:=by
 rw[kF w o' k (Array.getElem?_eq_some_iff.1 h).1];exact h
theorem cQ{B:Nat}{w w':World}{k:Nat}{o:Obj}(hb:Below B w w')(hk:k<B)(h:w.heap[k]? =some o):w'.heap[k]? =some o:=(hb.block k hk).trans h
theorem bG{w w':World}{k:Nat}{o:Obj}(hb:Below w.heap.size w w')(h:w.heap[k]? =some o):w'.heap[k]? =some o:=cQ hb (Array.getElem?_eq_some_iff.1 h).1 h
theorem bR{w:World}{b:Nat}{c:Array Value}{T:TypeId}{f:Nat×Nat}(h:w.heap[b]? =some (.cells c T f))(i:Nat):w.cell? ⟨b,i,none⟩=c[i]? :=cell_of_row w b i c T f h
theorem dX{w:World}{b:Nat}{c:Array Value}{T:TypeId}(h:w.heap[b]? =some (.cells c T (0,0)))(i:Nat):w.frozen? ⟨b,i,none⟩=false:=frozen_of_row w b i c T h
theorem rL{w:World}{b:Nat}{o:Obj}(h:w.heap[b]? =some o):b<w.heap.size:=(Array.getElem?_eq_some_iff.1 h).1
theorem vS(w:World)(b i:Nat)(c:Array Value)(T:TypeId)(f:Nat×Nat)(v:Value)(h:w.heap[b]? =some (.cells c T f)):(w.setCell ⟨b,i,none⟩ v).heap[b]? =some (.cells (c.setIfInBounds i v) T f):=by
 simp[World.setCell,jX,h]
theorem qh{w:World}{b i:Nat}{c:Array Value}{T:TypeId}{f:Nat×Nat}(h:w.heap[b]? =some (.cells c T f))(v:Value):(w.setCell ⟨b,i,none⟩ v).heap[b]? =some (.cells (c.setIfInBounds i v) T f):=vS w b i c T f v h
theorem cE{w:World}{b:Nat}{o:Obj}(h:w.heap[b]? =some o){a:Addr}(hab:b≠a.block)(v:Value):(w.setCell a v).heap[b]? =some o:=by
 rw[Below.heap_setCell _ _ _ _ hab];exact h
theorem As(w:World)(o1 o2:Obj):((w.alloc o1).alloc o2).heap[w.heap.size]? =some o1∧((w.alloc o1).alloc o2).heap[w.heap.size+1]? =some o2∧((w.alloc o1).alloc o2).heap.size=w.heap.size+2:=
 ⟨kR (lF w o1) o2,by have:=lF (w.alloc o1) o2;simpa using this,by simp⟩
theorem lO(w:World)(o1 o2 o3:Obj):(((w.alloc o1).alloc o2).alloc o3).heap[w.heap.size]? =some o1∧(((w.alloc o1).alloc o2).alloc o3).heap[w.heap.size+1]? =some o2∧(((w.alloc o1).alloc o2).alloc o3).heap[w.heap.size+1+1]? =some o3∧(((w.alloc o1).alloc o2).alloc o3).heap.size=w.heap.size+3:=
 ⟨kR (As w o1 o2).1 o3,kR (As w o1 o2).2.1 o3,by have:=lF ((w.alloc o1).alloc o2) o3;simpa using this,by simp⟩
theorem NG(w:World)(o1 o2 o3 o4:Obj):((((w.alloc o1).alloc o2).alloc o3).alloc o4).heap[w.heap.size]? =some o1∧((((w.alloc o1).alloc o2).alloc o3).alloc o4).heap[w.heap.size+1]? =some o2∧((((w.alloc o1).alloc o2).alloc o3).alloc o4).heap[w.heap.size+1+1]? =some o3∧((((w.alloc o1).alloc o2).alloc o3).alloc o4).heap[w.heap.size+1+1+1]? =some o4∧((((w.alloc o1).alloc o2).alloc o3).alloc o4).heap.size=w.heap.size+4:=
 ⟨kR (lO w o1 o2 o3).1 o4,kR (lO w o1 o2 o3).2.1 o4,kR (lO w o1 o2 o3).2.2.1 o4,by have:=lF (((w.alloc o1).alloc o2).alloc o3) o4;simpa using this,by simp⟩
set_option maxRecDepth 100000 in
theorem IA(x:Int)(w:World)(h0:0≤x)(h1:x≤4294967295):
  Calls Tryz.prog 266 #[.int .u32 x] w fun e w'=>e=.returned (.int .i64 (Lib.bitLen x.toNat))∧w=w':=by
 have key:∀y:Int,0≤y→y≤255→(∀w,(Instr.index 9 (.string Lib.len8tab) (.int .u8 y)).run Tryz.prog w=.ok (.int .u8 (Lib.bitLen y.toNat:Int)) w)∧Lib.bitLen y.toNat≤8:=fun y a b=>by
  have l:=Lib.bitLen_le8' y a b;refine⟨fun w=>?_,by omega⟩;rw[Lib.run_index_len8tab (P:=Tryz.prog) w 9 .u8 y Tryz.underlying9 a b,Lib.len8_of y a b]
 by_cases c1:x<65536
 ·by_cases c2:x<256
  ·obtain⟨k1,k2⟩:=key x h0 (by omega)
   go_enter Tryz.func266,Tryz.ntmps266
   go_wp2
   go_ret
   exact⟨rfl,rfl⟩
  ·have s:=Lib.bitLen_shift8 x.toNat (by omega) (by omega);obtain⟨k1,k2⟩:=key (x/256) (by omega) (by omega);have e:(x/256).toNat=x.toNat/256:=by omega
   rw[e]at k1 k2;generalize Lib.bitLen (x.toNat/256)=b at*;have hs:=bk s;clear s
   go_enter Tryz.func266,Tryz.ntmps266
   go_wp2
   go_ret
   exact⟨dH Ending.returned (dH (Value.int IntKind.i64) (by have:=hs.out;omega)),rfl⟩
 ·by_cases c2:x/65536<256
  ·have s:=Lib.bitLen_shift16 x.toNat (by omega) (by omega);obtain⟨k1,k2⟩:=key (x/65536) (by omega) (by omega);have e:(x/65536).toNat=x.toNat/65536:=by omega
   rw[e]at k1 k2;generalize Lib.bitLen (x.toNat/65536)=b at*;have hs:=bk s;clear s
   go_enter Tryz.func266,Tryz.ntmps266
   go_wp2
   go_ret
   exact⟨dH Ending.returned (dH (Value.int IntKind.i64) (by have:=hs.out;omega)),rfl⟩
  ·have s:=Lib.bitLen_shift24 x.toNat (by omega) (by omega);obtain⟨k1,k2⟩:=key (x/65536/256) (by omega) (by omega);have e:(x/65536/256).toNat=x.toNat/16777216:=by omega
   rw[e]at k1 k2;generalize Lib.bitLen (x.toNat/16777216)=b at*;have hs:=bk s;clear s
   go_enter Tryz.func266,Tryz.ntmps266
   go_wp2
   go_ret
   exact⟨dH Ending.returned (dH (Value.int IntKind.i64) (by have:=hs.out;omega)),rfl⟩
def bl(x:Nat):Nat:=if x=0 then 0 else Nat.log2 x+1
theorem wE:∀(f x:Nat),x<2^f→Lib.bitLenAux f x=bl x
 |0,x,h=>by
  obtain rfl:x=0:=by omega
  rfl
 |f+1,x,h=>by
  unfold Lib.bitLenAux bl;split
  ·rfl
  ·rename_i hx;rw[wE f (x/2) (by omega)];unfold bl;rw[Nat.log2_def x];split<;>split<;>omega
theorem U4(x:Nat)(h:x<4294967296):Lib.bitLen x=bl x:=wE 64 x (by omega)
theorem qV(x k:Nat):bl x≤k↔x<2^k:=by
 unfold bl;split
 ·rename_i h;subst h;simp;exact gN (by omega)
 ·rename_i h;rw[←Nat.log2_lt h];omega
theorem AO(x:Nat)(w:World)(h:x<4294967296):
  Calls Tryz.prog 266 #[.int .u32 (x:Int)] w fun e w'=>e=.returned (.int .i64 (bl x:Int))∧w=w':=by
 refine(IA x w (by omega) (by omega)).mono ?_;rintro e w' ⟨rfl,rfl⟩;rw[jc,U4 x h];exact⟨rfl,rfl⟩
theorem Gc(x:Nat)(w:World)(h:x<4294967296):
  Calls Tryz.prog 249 #[.int .u32 (x:Int)] w fun e w'=>e=.returned (.int .i64 ((32-bl x:Nat):Int))∧w=w':=by
 have hb:bl x≤32:=(qV x 32).2 (by omega)
 go_enter Tryz.func249,Tryz.ntmps249
 go_wp2_with (go_at_call 266;refine(AO x _ h).mono ?_;rintro e w' ⟨rfl,rfl⟩)
 go_ret
 have e:((32-bl x:Nat):Int)=32-(bl x:Int):=by omega
 rw[e];exact⟨rfl,rfl⟩
theorem Co{w w':World}{c:Array Value}{T:TypeId}(h:Below (w.alloc (.cells c T)).heap.size (w.alloc (.cells c T)) w'):w'.heap[w.heap.size]? =some (.cells c T (0,0)):=bG h (lF _ _)
theorem Nd{w:World}{b:Nat}{v:Value}{T:TypeId}(h:w.heap[b]? =some (.cells #[v] T (0,0))):w.cell? ⟨b,0,none⟩=some v:=bR h 0
theorem Aj{w w':World}{c:Array Value}{T:TypeId}(h:Below (w.alloc (.cells c T)).drew.heap.size (w.alloc (.cells c T)).drew w'):w'.heap[w.heap.size]? =some (.cells c T (0,0)):=bG (mc h) (lF _ _)
theorem dV.alloc{w:World}{s:Sl}{x:Nat}(h:dV w s x)(o:Obj):dV (w.alloc o) s x:=h.up ((bD _ _).alloc (ak _) o)
def zS(W w:World):Prop:=Below W.heap.size W w
theorem zS.refl(W:World):zS W W:=bD _ _
theorem zS.call{W w w':World}(h:zS W w)(hb:Below w.heap.size w w'):zS W w':=Below.trans h (hb.mono (Below.size h))
theorem zS.trans{W w w':World}(h:zS W w)(h':zS w w'):zS W w':=h.call h'
theorem zS.below{B:Nat}{w0 W w:World}(h:Below B w0 W)(h':zS W w)(hB:B≤W.heap.size):Below B w0 w:=h.trans (Below.mono h' hB)
def Mz(W:World)(b:Nat)(w:World):Prop:=∀k,b≤k→w.heap[k]? =W.heap[k]?
theorem Mz.refl(W:World)(b:Nat):Mz W b W:=fun _ _=>rfl
theorem Nl(ao:Option Addr)(n c:Nat)(l:List Nat)(w:World)(h:de w 273 .u32 ⟨ao,n,c⟩ l):
  Calls Tryz.prog 245 #[.slice ao n c] w fun e w'=>
   ∃k:Nat,k≤n∧e=.returned (.agg #[.slice ao k k])∧(∀i,k≤i→i<n→dg l i=0)∧(0<k→dg l (k-1)≠0)∧Below w.heap.size w w':=by
 have hm:n≤9223372036854775807:=by have:=h.2.1;have:=h.2.2.1;simp only at*;omega
 have hnc:n≤c:=h.2.1;have hl:Hid (n=l.length):=h.1;have hop:Hid (0<n→∃b off,ao=some ⟨b,off,none⟩∧b<w.heap.size∧∀i,i<n→w.cell? ⟨b,off+i,none⟩=some (.int .u32 ((dg l i:Nat):Int))):=h.open;have hcc:c≤9223372036854775807:=h.2.2.1;clear h
 go_enter Tryz.func245,Tryz.ntmps245
 go_wp2
 go_loop [3] (fun u=>∃k:Nat,k≤n∧u=.int .i64 k∧Hid (∀i,k≤i→i<n→dg l i=0)) (fun u=>(intOf u).toNat)
 case atStart=>exact⟨n,ak _,rfl,fun i h1 h2=>by omega⟩
 case round=>
  obtain⟨k,hk,rfl,hz⟩:=hrel;by_cases h0:0<k
  ·obtain⟨b,off,rfl,hb,hcell⟩:=hop.out (by omega);obtain⟨j,rfl⟩:∃j,k=j+1:=⟨k-1,by omega⟩;have hcj:=hcell j (by omega);clear hcell;by_cases hd:dg l j=0
   ·rw[hd]at hcj
    go_wp2
    go_round
    case rel=>
     refine⟨j,by omega,by go_num,fun i h1 h2=>?_⟩;by_cases hij:i=j
     ·rw[hij];exact hd
     ·exact hz.out i (by omega) h2
    case measure=>simp[intOf]
   ·have hdd:(((dg l j:Nat):Int)==0)=false:=by simp;omega
    generalize hx:dg l j=x at*;have hx:=bk hx;have hd:=bk hd
    go_wp2
    refine eY (v:=.agg #[.slice (some ⟨b,off,none⟩) (j+1) (j+1)]) (by simp[results,Tryz.results245,go_sem]) rfl ⟨j+1,hk,rfl,hz.out,fun _=>by simp only[eF];rw[hx.out];exact hd.out,?_⟩;exact(bD _ _).alloc (ak _) _
  ·obtain rfl:k=0:=by omega
   go_wp2
   refine eY (v:=.agg #[.slice ao 0 0]) (by simp[results,Tryz.results245,go_sem]) rfl ⟨0,hk,rfl,hz.out,fun h=>absurd h (by omega),?_⟩;exact(bD _ _).alloc (ak _) _
theorem ll{w:World}{s:Sl}{l:List Nat}(h:de w 273 .u32 s l)(hd:∀d∈l,d<4294967296):
  Calls Tryz.prog 245 #[.slice s.ao s.n s.c] w fun e w'=>
   ∃t:Sl,e=.returned (.agg #[.slice t.ao t.n t.c])∧dV w' t (val 4294967296 l)∧t.n≤s.n∧Below w.heap.size w w':=by
 refine(Nl s.ao s.n s.c l w h).mono ?_;rintro e w' ⟨k,hk,rfl,h0,h1,hb⟩;have hl:=h.1;have hn:=LL (l:=l) (k:=k) (by omega) (fun i a b=>h0 i a (by omega)) h1 4294967296;exact⟨⟨s.ao,k,k⟩,rfl,⟨l.take k,(h.cut k k hk (ak _) (by have:=h.2.1;omega)).up hb,fun d hdm=>hd d (fe hdm),hn.1,hn.2⟩,hk,hb⟩
theorem Rx(ao:Option Addr)(n c:Nat)(l:List Nat)(w:World)(d:Nat)(h:de w 273 .u32 ⟨ao,n,c⟩ l)(hl:∀d∈l,d<4294967296)(hd:d<4294967296)(hd0:0<d)(hn:n≤1000000000000):
  Calls Tryz.prog 248 #[.slice ao n c,.int .u32 (d:Int)] w fun e w'=>
   ∃(s:Sl) (o:List Nat) (r:Nat),e=.returned (.tuple #[.slice s.ao s.n s.c,.int .u32 (r:Int)])∧de w' 273 .u32 s o∧(∀d∈o,d<4294967296)∧o.length=n∧val 4294967296 l=d*val 4294967296 o+r∧r<d∧Below w.heap.size w w':=by
 have hop:Hid (0<n→∃b off,ao=some ⟨b,off,none⟩∧b<w.heap.size∧∀i,i<n→w.cell? ⟨b,off+i,none⟩=some (.int .u32 ((dg l i:Nat):Int))):=h.open;have hlen:Hid (n=l.length):=h.1;clear h;have hll:Hid (∀d∈l,d<4294967296):=hl;clear hl
 go_enter Tryz.func248,Tryz.ntmps248
 go_wp2_with (at_make;refine vD ib _ rfl _ _ rfl w.heap.size _ _ _ _ n rfl rfl rfl rfl (by omega) (by unfold maxLen;omega) (ak _) ?_;intro w1 ho hb hsz)
 go_loopw [7,8] (fun r i wr=>∃(k:Nat) (o:List Nat) (q:Nat),k≤n∧i=.int .i64 ((k:Int)-1)∧r=.int .u64 q∧q<d∧iN wr w.heap.size 273 .u32 (.slice (some ⟨w.heap.size,0,none⟩) n n) o∧Hid (o.length=n)∧Hid (∀d∈o,d<4294967296)∧Hid (val 4294967296 (l.drop k)=d*val 4294967296 (o.drop k)+q)∧Below w.heap.size w wr) (fun _ i _=>(intOf i+1).toNat)
 case atStart=>exact⟨n,List.replicate n 0,0,ak _,rfl,rfl,hd0,ho,by unfold Hid;simp,by unfold Hid;simp,by unfold Hid;have:=hlen.out;simp[val,this],hb⟩
 case round=>
  obtain⟨k,o,q,hk,rfl,rfl,hq,hown,hol,hod,hval,hbl⟩:=hrel;by_cases hlt:0<k
  ·obtain⟨b,off,rfl,hbw,hcell⟩:=hop.out (by omega);obtain⟨j,rfl⟩:∃j,k=j+1:=⟨k-1,by omega⟩;have hck:wr.cell? ⟨b,off+j,none⟩=some (.int .u32 ((dg l j:Nat):Int)):=(hbl.cell (p:=⟨b,off+j,none⟩) hbw).trans (hcell j (by omega));clear hcell;have hx:dg l j<4294967296:=iX hll.out (by omega) j;generalize hxe:dg l j=x at*;have HX:=bk hxe;clear hxe;have hj1:j<l.length:=by have:=hlen.out;omega
   have hol':o.length=n:=hol.out;have hstep:=bk (Rw (B:=4294967296) hj1 (by rw[hlen.out.symm,hol']) HX.out hval.out);have hbo:=zB q x (by omega) hx;generalize hN:q*4294967296+x=N at*;have hN1:N/d<4294967296:=by rw[←hN];exact Nv hq hx
   have hN2:N % d<d:=fB _ hd0;have hN3:N<18446744073709551616:=by rw[←hN];omega
   clear hN hol';have hw1:IntKind.u64.wrap ((N:Int)/(d:Int))=((N/d:Nat):Int):=by
    rw[←kZ];generalize N/d=u at*;exact IntWalk.u64_in _ (by omega)
   generalize N/d=u at*;have hst:=hown.store j u;obtain⟨hoc,hof,_,_⟩:=hown.slot j (by have:=hol.out;omega)
   go_wp2
   go_roundw
   case rel=>exact⟨j,o.set j u,N % d,by omega,rfl,by go_num,hN2,hst.1,by unfold Hid;rw[dq];exact hol.out,pP hod.out hN1,hstep.out,hbl.trans hst.2⟩
   case measure=>simp[intOf]
  ·obtain rfl:k=0:=by omega
   obtain⟨s,hs,hsi⟩:=hown.ints
   go_wp2
   go_ret2
   exact⟨s,o,q,by rw[hs];rfl,hsi,hod.out,hol.out,by simpa using hval.out,hq,hbl⟩
theorem KS(ao bo:Option Addr)(n m c d:Nat)(l r:List Nat)(w:World)(h:de w 273 .u32 ⟨ao,n,c⟩ l)(h':de w 273 .u32 ⟨bo,m,d⟩ r)(hl:∀d∈l,d<4294967296)(hr:∀d∈r,d<4294967296)(hn:n≤1000000000000)(hm:m≤1000000000000)(hmn:m≤n):
  Calls Tryz.prog 252 #[.agg #[.slice ao n c],.agg #[.slice bo m d]] w fun e w'=>
   ∃(s:Sl),e=.returned (.agg #[.slice s.ao s.n s.c])∧dV w' s (val 4294967296 l+val 4294967296 r)∧s.n≤n+1∧Below w.heap.size w w':=by
 have hop:Hid (0<n→∃b off,ao=some ⟨b,off,none⟩∧b<w.heap.size∧∀i,i<n→w.cell? ⟨b,off+i,none⟩=some (.int .u32 ((dg l i:Nat):Int))):=h.open;have hop':Hid (0<m→∃b off,bo=some ⟨b,off,none⟩∧b<w.heap.size∧∀i,i<m→w.cell? ⟨b,off+i,none⟩=some (.int .u32 ((dg r i:Nat):Int))):=h'.open;have hlen:Hid (n=l.length):=h.1;have hlen':Hid (m=r.length):=h'.1;clear h h';have hll:Hid (∀d∈l,d<4294967296):=hl;have hrr:Hid (∀d∈r,d<4294967296):=hr;clear hl hr
 go_enter Tryz.func252,Tryz.ntmps252
 go_wp2_with (at_make;refine u_ ib _ rfl _ _ rfl (w.heap.size+3) _ _ _ (n+1) rfl rfl (by omega) (by omega) (by unfold maxLen;omega) (by simp) ?_;intro v1 w1 ho hb;have hA1:=bR (cQ hb (by omega) (lO w _ _ _).1) 0)
 have hbw:Below w.heap.size w w1:=((((bD _ _).alloc (ak _) _).alloc (by simp) _).alloc (by simp;omega) _).trans (hb.mono (by omega));have hE2:=cQ hb (by omega) (lO w _ _ _).2.1;have hE3:=cQ hb (by omega) (lO w _ _ _).2.2.1
 go_loopw [5,6,26] (fun v cy i wr=>∃(k:Nat) (o:List Nat) (q:Nat),k≤n∧i=.int .i64 k∧cy=.int .u64 q∧q≤1∧iN wr (w.heap.size+3) 273 .u32 v o∧Hid (o.length=k)∧Hid (∀d∈o,d<4294967296)∧Hid (val 4294967296 o+4294967296^k*q=val 4294967296 (l.take k)+val 4294967296 (r.take k))∧Below (w.heap.size+3) w1 wr) (fun _ _ i _=>n-(intOf i).toNat)
 case atStart=>exact⟨0,[],0,aJ _,rfl,rfl,by omega,ho,rfl,by unfold Hid;simp,by unfold Hid;simp[val],bD _ _⟩
 case round=>
  obtain⟨k,o,q,hk,rfl,rfl,hq,hown,hol,hod,hval,hbl⟩:=hrel;have hB:=bR (cQ hbl (by omega) hE2) 0;have hws:w.heap.size+3≤wr.heap.size:=by have:=hbl.size;have:=hb.size;simp at this;omega
  by_cases hlt:k<n
  ·obtain⟨b,off,rfl,hbw0,hcell⟩:=hop.out (by omega);have hck:wr.cell? ⟨b,off+k,none⟩=some (.int .u32 ((dg l k:Nat):Int)):=((hbl.cell (p:=⟨b,off+k,none⟩) (by simp;omega)).trans (hbw.cell (p:=⟨b,off+k,none⟩) hbw0)).trans (hcell k hlt);clear hcell;have hx:dg l k<4294967296:=iX hll.out (by omega) k;by_cases hltm:k<m
   ·obtain⟨b',off',rfl,hbw0',hcell'⟩:=hop'.out (by omega);have hck':wr.cell? ⟨b',off'+k,none⟩=some (.int .u32 ((dg r k:Nat):Int)):=((hbl.cell (p:=⟨b',off'+k,none⟩) (by simp;omega)).trans (hbw.cell (p:=⟨b',off'+k,none⟩) hbw0')).trans (hcell' k hltm);clear hcell';have hy:dg r k<4294967296:=iX hrr.out (by omega) k;have hstep:=bk (wy (z:=q+dg l k+dg r k) hol.out rfl rfl rfl hval.out);generalize dg l k=x at*;generalize dg r k=y at*
    go_wp2_with (at_builtin;refine fm ib _ rfl _ _ rfl (w.heap.size+3) u5 o _ ((q+x+y) % 4294967296) rfl rfl hown ?hz ?hl ?hm ?hb ?_)
    case hz=>rfl
    case hl=>have:=hol.out;omega
    case hm=>have:=hol.out;unfold maxLen;omega
    case hb=>exact hws
    intro v' w' hown' hb';clear hck hck' hB
    go_wp2
    go_roundw
    case rel=>exact⟨k+1,_,(q+x+y)/4294967296,by omega,by go_num,rfl,by omega,hown',by unfold Hid;have:=hol.out;simp;omega,jT hod.out (fB _ (by omega)),hstep.out,hbl.trans hb'⟩
    case measure=>simp[intOf];omega
   ·have hstep:=bk (wy (z:=q+dg l k) (y:=0) (r:=r) hol.out rfl (tB (by have:=hlen'.out;omega)) rfl hval.out);generalize dg l k=x at*
    go_wp2_with (at_builtin;refine fm ib _ rfl _ _ rfl (w.heap.size+3) u5 o _ ((q+x) % 4294967296) rfl rfl hown ?hz' ?hl' ?hm' ?hb' ?_)
    case hz'=>rfl
    case hl'=>have:=hol.out;omega
    case hm'=>have:=hol.out;unfold maxLen;omega
    case hb'=>exact hws
    intro v' w' hown' hb';clear hck hB
    go_wp2
    go_roundw
    case rel=>exact⟨k+1,_,(q+x)/4294967296,by omega,by go_num,rfl,by omega,hown',by unfold Hid;have:=hol.out;simp;omega,jT hod.out (fB _ (by omega)),hstep.out,hbl.trans hb'⟩
    case measure=>simp[intOf];omega
  ·have hkn:Hid (k=n):=by unfold Hid;omega
   go_wp2_with (at_builtin;refine fm ib _ rfl _ _ rfl (w.heap.size+3) u5 o _ q rfl rfl hown ?hz2 ?hl2 ?hm2 ?hb2 ?_)
   case hz2=>rfl
   case hl2=>have:=hol.out;omega
   case hm2=>have:=hol.out;unfold maxLen;omega
   case hb2=>exact hws
   intro v' w' hown' hb';obtain⟨s,rfl,hs⟩:=hown'.ints;have hsd:=bk (jT hod.out (show q<4294967296 by omega));clear hB
   go_wp2_with (go_at_call 245;refine(ll hs hsd.out).mono ?_;rintro e w2 ⟨t,rfl,ht,htn,hb2⟩;have hE3':=bG hb2 (cQ hb' (by omega) (cQ hbl (by omega) hE3));have hR:=bR hE3' 0;have hRf:=dX hE3' 0)
   refine eY (v:=.agg #[.slice t.ao t.n t.c]) (by simp[results,Tryz.results252,go_sem,hR]) rfl ⟨t,rfl,?_,?_,?_⟩
   ·have e:val 4294967296 (o++[q])=val 4294967296 l+val 4294967296 r:=by
     have h1:=hval.out;rw[eL _ l _ (by have:=hlen.out;have:=hkn.out;omega),eL _ r _ (by have:=hlen'.out;have:=hkn.out;omega)]at h1;rw[kP,hol.out];exact h1
    rw[←e];exact ht.kp ((Kp.refl _).setCell hE3' (by decide) _)
   ·have:=hs.1;have:=hol.out;have:=hkn.out;simp at*;omega
   ·exact(((hbw.trans (hbl.mono (by omega))).trans (hb'.mono (by omega))).trans (hb2.mono (by have:=hb'.size;omega))).setCell (by simp;omega) _
theorem KT(ao bo:Option Addr)(n m c d:Nat)(l r:List Nat)(w:World)(h:de w 273 .u32 ⟨ao,n,c⟩ l)(h':de w 273 .u32 ⟨bo,m,d⟩ r)(hl:∀d∈l,d<4294967296)(hr:∀d∈r,d<4294967296)(hn:n≤1000000000000)(hm:m≤1000000000000)(hmn:m<n):
  Calls Tryz.prog 252 #[.agg #[.slice bo m d],.agg #[.slice ao n c]] w fun e w'=>
   ∃(s:Sl),e=.returned (.agg #[.slice s.ao s.n s.c])∧dV w' s (val 4294967296 l+val 4294967296 r)∧s.n≤n+1∧Below w.heap.size w w':=by
 have hop:Hid (0<n→∃b off,ao=some ⟨b,off,none⟩∧b<w.heap.size∧∀i,i<n→w.cell? ⟨b,off+i,none⟩=some (.int .u32 ((dg l i:Nat):Int))):=h.open;have hop':Hid (0<m→∃b off,bo=some ⟨b,off,none⟩∧b<w.heap.size∧∀i,i<m→w.cell? ⟨b,off+i,none⟩=some (.int .u32 ((dg r i:Nat):Int))):=h'.open;have hlen:Hid (n=l.length):=h.1;have hlen':Hid (m=r.length):=h'.1;clear h h';have hll:Hid (∀d∈l,d<4294967296):=hl;have hrr:Hid (∀d∈r,d<4294967296):=hr;clear hl hr
 go_enter Tryz.func252,Tryz.ntmps252
 go_wp2_with (at_make;refine u_ ib _ rfl _ _ rfl (w.heap.size+3) _ _ _ (n+1) rfl rfl (by omega) (by omega) (by unfold maxLen;omega) (by simp) ?_;intro v1 w1 ho hb;have hA1:=bR (cQ hb (by omega) (lO w _ _ _).1) 0)
 have hbw:Below w.heap.size w w1:=((((bD _ _).alloc (ak _) _).alloc (by simp) _).alloc (by simp;omega) _).trans (hb.mono (by omega));have hE2:=cQ hb (by omega) (lO w _ _ _).2.1;have hE3:=cQ hb (by omega) (lO w _ _ _).2.2.1
 go_loopw [5,6,26] (fun v cy i wr=>∃(k:Nat) (o:List Nat) (q:Nat),k≤n∧i=.int .i64 k∧cy=.int .u64 q∧q≤1∧iN wr (w.heap.size+3) 273 .u32 v o∧Hid (o.length=k)∧Hid (∀d∈o,d<4294967296)∧Hid (val 4294967296 o+4294967296^k*q=val 4294967296 (l.take k)+val 4294967296 (r.take k))∧Below (w.heap.size+3) w1 wr) (fun _ _ i _=>n-(intOf i).toNat)
 case atStart=>exact⟨0,[],0,aJ _,rfl,rfl,by omega,ho,rfl,by unfold Hid;simp,by unfold Hid;simp[val],bD _ _⟩
 case round=>
  obtain⟨k,o,q,hk,rfl,rfl,hq,hown,hol,hod,hval,hbl⟩:=hrel;have hB:=bR (cQ hbl (by omega) hE2) 0;have hws:w.heap.size+3≤wr.heap.size:=by have:=hbl.size;have:=hb.size;simp at this;omega
  by_cases hlt:k<n
  ·obtain⟨b,off,rfl,hbw0,hcell⟩:=hop.out (by omega);have hck:wr.cell? ⟨b,off+k,none⟩=some (.int .u32 ((dg l k:Nat):Int)):=((hbl.cell (p:=⟨b,off+k,none⟩) (by simp;omega)).trans (hbw.cell (p:=⟨b,off+k,none⟩) hbw0)).trans (hcell k hlt);clear hcell;have hx:dg l k<4294967296:=iX hll.out (by omega) k;by_cases hltm:k<m
   ·obtain⟨b',off',rfl,hbw0',hcell'⟩:=hop'.out (by omega);have hck':wr.cell? ⟨b',off'+k,none⟩=some (.int .u32 ((dg r k:Nat):Int)):=((hbl.cell (p:=⟨b',off'+k,none⟩) (by simp;omega)).trans (hbw.cell (p:=⟨b',off'+k,none⟩) hbw0')).trans (hcell' k hltm);clear hcell';have hy:dg r k<4294967296:=iX hrr.out (by omega) k;have hstep:=bk (wy (z:=q+dg l k+dg r k) hol.out rfl rfl rfl hval.out);generalize dg l k=x at*;generalize dg r k=y at*
    go_wp2_with (at_builtin;refine fm ib _ rfl _ _ rfl (w.heap.size+3) u5 o _ ((q+x+y) % 4294967296) rfl rfl hown ?hz ?hl ?hm ?hb ?_)
    case hz=>rfl
    case hl=>have:=hol.out;omega
    case hm=>have:=hol.out;unfold maxLen;omega
    case hb=>exact hws
    intro v' w' hown' hb';clear hck hck' hB
    go_wp2
    go_roundw
    case rel=>exact⟨k+1,_,(q+x+y)/4294967296,by omega,by go_num,rfl,by omega,hown',by unfold Hid;have:=hol.out;simp;omega,jT hod.out (fB _ (by omega)),hstep.out,hbl.trans hb'⟩
    case measure=>simp[intOf];omega
   ·have hstep:=bk (wy (z:=q+dg l k) (y:=0) (r:=r) hol.out rfl (tB (by have:=hlen'.out;omega)) rfl hval.out);generalize dg l k=x at*
    go_wp2_with (at_builtin;refine fm ib _ rfl _ _ rfl (w.heap.size+3) u5 o _ ((q+x) % 4294967296) rfl rfl hown ?hz' ?hl' ?hm' ?hb' ?_)
    case hz'=>rfl
    case hl'=>have:=hol.out;omega
    case hm'=>have:=hol.out;unfold maxLen;omega
    case hb'=>exact hws
    intro v' w' hown' hb';clear hck hB
    go_wp2
    go_roundw
    case rel=>exact⟨k+1,_,(q+x)/4294967296,by omega,by go_num,rfl,by omega,hown',by unfold Hid;have:=hol.out;simp;omega,jT hod.out (fB _ (by omega)),hstep.out,hbl.trans hb'⟩
    case measure=>simp[intOf];omega
  ·have hkn:Hid (k=n):=by unfold Hid;omega
   go_wp2_with (at_builtin;refine fm ib _ rfl _ _ rfl (w.heap.size+3) u5 o _ q rfl rfl hown ?hz2 ?hl2 ?hm2 ?hb2 ?_)
   case hz2=>rfl
   case hl2=>have:=hol.out;omega
   case hm2=>have:=hol.out;unfold maxLen;omega
   case hb2=>exact hws
   intro v' w' hown' hb';obtain⟨s,rfl,hs⟩:=hown'.ints;have hsd:=bk (jT hod.out (show q<4294967296 by omega));clear hB
   go_wp2_with (go_at_call 245;refine(ll hs hsd.out).mono ?_;rintro e w2 ⟨t,rfl,ht,htn,hb2⟩;have hE3':=bG hb2 (cQ hb' (by omega) (cQ hbl (by omega) hE3));have hR:=bR hE3' 0;have hRf:=dX hE3' 0)
   refine eY (v:=.agg #[.slice t.ao t.n t.c]) (by simp[results,Tryz.results252,go_sem,hR]) rfl ⟨t,rfl,?_,?_,?_⟩
   ·have e:val 4294967296 (o++[q])=val 4294967296 l+val 4294967296 r:=by
     have h1:=hval.out;rw[eL _ l _ (by have:=hlen.out;have:=hkn.out;omega),eL _ r _ (by have:=hlen'.out;have:=hkn.out;omega)]at h1;rw[kP,hol.out];exact h1
    rw[←e];exact ht.kp ((Kp.refl _).setCell hE3' (by decide) _)
   ·have:=hs.1;have:=hol.out;have:=hkn.out;simp at*;omega
   ·exact(((hbw.trans (hbl.mono (by omega))).trans (hb'.mono (by omega))).trans (hb2.mono (by have:=hb'.size;omega))).setCell (by simp;omega) _
theorem E3{w:World}{s t:Sl}{x y:Nat}(h:dV w s x)(h':dV w t y)(hn:s.n≤1000000000000)(hm:t.n≤1000000000000):
  Calls Tryz.prog 252 #[.agg #[.slice s.ao s.n s.c],.agg #[.slice t.ao t.n t.c]] w fun e w'=>
   ∃u:Sl,e=.returned (.agg #[.slice u.ao u.n u.c])∧dV w' u (x+y)∧u.n≤max s.n t.n+1∧Below w.heap.size w w':=by
 obtain⟨l,h1,h2,h3,h4⟩:=h;obtain⟨r,g1,g2,g3,g4⟩:=h';subst h4;subst g4;rcases iM s.n t.n with hc|hc
 ·refine(KT t.ao s.ao t.n s.n t.c s.c r l w g1 h1 g2 h2 hm hn hc).mono ?_;rintro e w' ⟨u,rfl,hu,hun,hb⟩;exact⟨u,rfl,by rw[Nat.add_comm];exact hu,by omega,hb⟩
 ·refine(KS s.ao t.ao s.n t.n s.c t.c l r w h1 g1 h2 g2 hn hm hc).mono ?_;rintro e w' ⟨u,rfl,hu,hun,hb⟩;exact⟨u,rfl,hu,by omega,hb⟩
theorem LB(ao bo:Option Addr)(n m c d:Nat)(l r:List Nat)(w:World)(h:de w 273 .u32 ⟨ao,n,c⟩ l)(h':de w 273 .u32 ⟨bo,m,d⟩ r)(hl:∀d∈l,d<4294967296)(hr:∀d∈r,d<4294967296)(hn:n≤1000000000000)(hm:m≤1000000000000)(hmn:m≤n)(hv:val 4294967296 r≤val 4294967296 l):
  Calls Tryz.prog 267 #[.agg #[.slice ao n c],.agg #[.slice bo m d]] w fun e w'=>
   ∃(s:Sl),e=.returned (.agg #[.slice s.ao s.n s.c])∧dV w' s (val 4294967296 l-val 4294967296 r)∧s.n≤n∧Below w.heap.size w w':=by
 have hop:Hid (0<n→∃b off,ao=some ⟨b,off,none⟩∧b<w.heap.size∧∀i,i<n→w.cell? ⟨b,off+i,none⟩=some (.int .u32 ((dg l i:Nat):Int))):=h.open;have hop':Hid (0<m→∃b off,bo=some ⟨b,off,none⟩∧b<w.heap.size∧∀i,i<m→w.cell? ⟨b,off+i,none⟩=some (.int .u32 ((dg r i:Nat):Int))):=h'.open;have hlen:Hid (n=l.length):=h.1;have hlen':Hid (m=r.length):=h'.1;clear h h';have hll:Hid (∀d∈l,d<4294967296):=hl;have hrr:Hid (∀d∈r,d<4294967296):=hr;clear hl hr;have hvv:=bk hv;clear hv
 go_enter Tryz.func267,Tryz.ntmps267
 go_wp2_with (at_make;refine u_ ib _ rfl _ _ rfl (w.heap.size+3) _ _ _ n rfl rfl rfl (by omega) (by unfold maxLen;omega) (by simp) ?_;intro v1 w1 ho hb;have hA1:=bR (cQ hb (by omega) (lO w _ _ _).1) 0)
 have hbw:Below w.heap.size w w1:=((((bD _ _).alloc (ak _) _).alloc (by simp) _).alloc (by simp;omega) _).trans (hb.mono (by omega));have hE2:=cQ hb (by omega) (lO w _ _ _).2.1;have hE3:=cQ hb (by omega) (lO w _ _ _).2.2.1
 go_loopw [5,6,17] (fun v cy i wr=>∃(k:Nat) (o:List Nat) (q:Nat),k≤n∧i=.int .i64 k∧cy=.int .i64 q∧q≤1∧iN wr (w.heap.size+3) 273 .u32 v o∧Hid (o.length=k)∧Hid (∀d∈o,d<4294967296)∧Hid (val 4294967296 (l.take k)+4294967296^k*q=val 4294967296 o+val 4294967296 (r.take k))∧Below (w.heap.size+3) w1 wr) (fun _ _ i _=>n-(intOf i).toNat)
 case atStart=>exact⟨0,[],0,aJ _,rfl,rfl,by omega,ho,rfl,by unfold Hid;simp,by unfold Hid;simp[val],bD _ _⟩
 case round=>
  obtain⟨k,o,q,hk,rfl,rfl,hq,hown,hol,hod,hval,hbl⟩:=hrel;have hB:=bR (cQ hbl (by omega) hE2) 0;have hws:w.heap.size+3≤wr.heap.size:=by have:=hbl.size;have:=hb.size;simp at this;omega
  by_cases hlt:k<n
  ·obtain⟨b,off,rfl,hbw0,hcell⟩:=hop.out (by omega);have hck:wr.cell? ⟨b,off+k,none⟩=some (.int .u32 ((dg l k:Nat):Int)):=((hbl.cell (p:=⟨b,off+k,none⟩) (by simp;omega)).trans (hbw.cell (p:=⟨b,off+k,none⟩) hbw0)).trans (hcell k hlt);clear hcell;have hx:dg l k<4294967296:=iX hll.out (by omega) k;by_cases hltm:k<m
   ·obtain⟨b',off',rfl,hbw0',hcell'⟩:=hop'.out (by omega);have hck':wr.cell? ⟨b',off'+k,none⟩=some (.int .u32 ((dg r k:Nat):Int)):=((hbl.cell (p:=⟨b',off'+k,none⟩) (by simp;omega)).trans (hbw.cell (p:=⟨b',off'+k,none⟩) hbw0')).trans (hcell' k hltm);clear hcell';have hy:dg r k<4294967296:=iX hrr.out (by omega) k;by_cases hneg:dg l k<q+dg r k
    ·have hstep:=bk (AR (B:=4294967296) (x:=dg l k) (y:=dg r k) (r:=r) hol.out rfl rfl (by omega) hval.out);generalize dg l k=x at*;generalize dg r k=y at*
     go_wp2_with (at_builtin;refine fm ib _ rfl _ _ rfl (w.heap.size+3) u5 o _ (x+4294967296-(q+y)) rfl rfl hown ?hza ?hla ?hma ?hba ?_)
     case hza=>omega
     case hla=>have:=hol.out;omega
     case hma=>have:=hol.out;unfold maxLen;omega
     case hba=>exact hws
     intro v' w' hown' hb';clear hck hck' hB
     go_wp2
     go_roundw
     case rel=>exact⟨k+1,_,1,by omega,by go_num,rfl,by omega,hown',by unfold Hid;have:=hol.out;simp;omega,jT hod.out (by omega),hstep.out,hbl.trans hb'⟩
     case measure=>simp[intOf];omega
    ·have hstep:=bk (AQ (B:=4294967296) (x:=dg l k) (y:=dg r k) (r:=r) hol.out rfl rfl (by omega) hval.out);generalize dg l k=x at*;generalize dg r k=y at*
     go_wp2_with (at_builtin;refine fm ib _ rfl _ _ rfl (w.heap.size+3) u5 o _ (x-(q+y)) rfl rfl hown ?hzb ?hlb ?hmb ?hbb ?_)
     case hzb=>omega
     case hlb=>have:=hol.out;omega
     case hmb=>have:=hol.out;unfold maxLen;omega
     case hbb=>exact hws
     intro v' w' hown' hb';clear hck hck' hB
     go_wp2
     go_roundw
     case rel=>exact⟨k+1,_,0,by omega,by go_num,rfl,by omega,hown',by unfold Hid;have:=hol.out;simp;omega,jT hod.out (by omega),hstep.out,hbl.trans hb'⟩
     case measure=>simp[intOf];omega
   ·by_cases hneg:dg l k<q
    ·have hstep:=bk (AR (B:=4294967296) (x:=dg l k) (y:=0) (r:=r) hol.out rfl (tB (by have:=hlen'.out;omega)) (by omega) hval.out);generalize dg l k=x at*
     go_wp2_with (at_builtin;refine fm ib _ rfl _ _ rfl (w.heap.size+3) u5 o _ (x+4294967296-(q+0)) rfl rfl hown ?hzc ?hlc ?hmc ?hbc ?_)
     case hzc=>omega
     case hlc=>have:=hol.out;omega
     case hmc=>have:=hol.out;unfold maxLen;omega
     case hbc=>exact hws
     intro v' w' hown' hb';clear hck hB
     go_wp2
     go_roundw
     case rel=>exact⟨k+1,_,1,by omega,by go_num,rfl,by omega,hown',by unfold Hid;have:=hol.out;simp;omega,jT hod.out (by omega),hstep.out,hbl.trans hb'⟩
     case measure=>simp[intOf];omega
    ·have hstep:=bk (AQ (B:=4294967296) (x:=dg l k) (y:=0) (r:=r) hol.out rfl (tB (by have:=hlen'.out;omega)) (by omega) hval.out);generalize dg l k=x at*
     go_wp2_with (at_builtin;refine fm ib _ rfl _ _ rfl (w.heap.size+3) u5 o _ (x-(q+0)) rfl rfl hown ?hzd ?hld ?hmd ?hbd ?_)
     case hzd=>omega
     case hld=>have:=hol.out;omega
     case hmd=>have:=hol.out;unfold maxLen;omega
     case hbd=>exact hws
     intro v' w' hown' hb';clear hck hB
     go_wp2
     go_roundw
     case rel=>exact⟨k+1,_,0,by omega,by go_num,rfl,by omega,hown',by unfold Hid;have:=hol.out;simp;omega,jT hod.out (by omega),hstep.out,hbl.trans hb'⟩
     case measure=>simp[intOf];omega
  ·have hkn:Hid (k=n):=by unfold Hid;omega
   obtain⟨s,rfl,hs⟩:=hown.ints;clear hB
   go_wp2_with (go_at_call 245;refine(ll hs hod.out).mono ?_;rintro e w2 ⟨t,rfl,ht,htn,hb2⟩;have hE3':=bG hb2 (cQ hbl (by omega) hE3);have hR:=bR hE3' 0;have hRf:=dX hE3' 0)
   refine eY (v:=.agg #[.slice t.ao t.n t.c]) (by simp[results,Tryz.results267,go_sem,hR]) rfl ⟨t,rfl,?_,?_,?_⟩
   ·have e:val 4294967296 o=val 4294967296 l-val 4294967296 r:=by
     have h1:=hval.out;rw[eL _ l _ (by have:=hlen.out;have:=hkn.out;omega),eL _ r _ (by have:=hlen'.out;have:=hkn.out;omega)]at h1;exact OI hod.out hol.out hvv.out h1
    rw[←e];exact ht.kp ((Kp.refl _).setCell hE3' (by decide) _)
   ·have:=hs.1;have:=hol.out;have:=hkn.out;simp at*;omega
   ·exact((hbw.trans (hbl.mono (by omega))).trans (hb2.mono (by omega))).setCell (by simp;omega) _
theorem CO{w:World}{s t:Sl}{x y:Nat}(h:dV w s x)(h':dV w t y)(hn:s.n≤1000000000000)(hxy:y≤x):
  Calls Tryz.prog 267 #[.agg #[.slice s.ao s.n s.c],.agg #[.slice t.ao t.n t.c]] w fun e w'=>
   ∃u:Sl,e=.returned (.agg #[.slice u.ao u.n u.c])∧dV w' u (x-y)∧u.n≤s.n∧Below w.heap.size w w':=by
 have hts:=h'.n_le h hxy;obtain⟨l,h1,h2,h3,h4⟩:=h;obtain⟨r,g1,g2,g3,g4⟩:=h';subst h4;subst g4;exact LB s.ao t.ao s.n t.n s.c t.c l r w h1 g1 h2 g2 hn (by omega) hts hxy
theorem Ni(ao bo:Option Addr)(n m c d:Nat)(l r:List Nat)(w:World)(h:de w 273 .u32 ⟨ao,n,c⟩ l)(h':de w 273 .u32 ⟨bo,m,d⟩ r)(hl:∀d∈l,d<4294967296)(hr:∀d∈r,d<4294967296)(hn:n≤1000000000000)(hm:m≤1000000000000)(nl:qR l)(nr:qR r):
  Calls Tryz.prog 204 #[.agg #[.slice ao n c],.agg #[.slice bo m d]] w fun e w'=>
   e=.returned (.int .i64 (mV (val 4294967296 l) (val 4294967296 r)))∧Below w.heap.size w w':=by
 have hop:Hid (0<n→∃b off,ao=some ⟨b,off,none⟩∧b<w.heap.size∧∀i,i<n→w.cell? ⟨b,off+i,none⟩=some (.int .u32 ((dg l i:Nat):Int))):=h.open;have hop':Hid (0<m→∃b off,bo=some ⟨b,off,none⟩∧b<w.heap.size∧∀i,i<m→w.cell? ⟨b,off+i,none⟩=some (.int .u32 ((dg r i:Nat):Int))):=h'.open;have hlen:Hid (n=l.length):=h.1;have hlen':Hid (m=r.length):=h'.1;clear h h';have hll:Hid (∀d∈l,d<4294967296):=hl;have hrr:Hid (∀d∈r,d<4294967296):=hr;have hnl:=bk nl;have hnr:=bk nr;clear hl hr nl nr;have hbx:Below w.heap.size w ((w.alloc (.cells #[.slice ao n c] 110)).alloc (.cells #[.slice bo m d] 110)):=((bD _ _).alloc (ak _) _).alloc (by simp) _;rcases Nat.lt_trichotomy n m with hc|hc|hc
 ·have hres:=bk (wH (hnr.out.len_lt (B:=4294967296) (l:=l) (by omega) hll.out (by have:=hlen.out;have:=hlen'.out;omega)))
  go_enter Tryz.func204,Tryz.ntmps204
  go_wp2
  go_ret
  exact⟨by rw[hres.out];rfl,hbx⟩
 ·subst hc;obtain⟨hE1,hE2,hWs⟩:=As w (.cells #[.slice ao n c] 110) (.cells #[.slice bo n d] 110);generalize hW:((w.alloc (.cells #[.slice ao n c] 110)).alloc (.cells #[.slice bo n d] 110))=W at hbx hE1 hE2 hWs;have HWs:=bk hWs;clear hWs;have HW:=bk hW;clear hW
  go_enter Tryz.func204,Tryz.ntmps204
  go_wp2
  rw[HW.out]
  go_loopw [5] (fun i wr=>∃k:Nat,k≤n∧i=.int .i64 ((k:Int)-1)∧Hid (∀j,k≤j→j<n→dg l j=dg r j)∧Below (w.heap.size+2) W wr) (fun i _=>(intOf i+1).toNat)
  case atStart=>exact⟨n,ak _,rfl,by unfold Hid;intro j a b;omega,bD _ _⟩
  case round=>
   obtain⟨k,hk,rfl,heq,hbl⟩:=hrel;by_cases hlt:0<k
   ·obtain⟨j,rfl⟩:∃j,k=j+1:=⟨k-1,by omega⟩;obtain⟨b,off,rfl,hbw0,hcell⟩:=hop.out (by omega);obtain⟨b',off',rfl,hbw0',hcell'⟩:=hop'.out (by omega);have hA:=bR (cQ hbl (by omega) hE1) 0;have hB:=bR (cQ hbl (by omega) hE2) 0;have hck:wr.cell? ⟨b,off+j,none⟩=some (.int .u32 ((dg l j:Nat):Int)):=((hbl.cell (p:=⟨b,off+j,none⟩) (by simp;omega)).trans (hbx.cell (p:=⟨b,off+j,none⟩) hbw0)).trans (hcell j (by omega));have hck':wr.cell? ⟨b',off'+j,none⟩=some (.int .u32 ((dg r j:Nat):Int)):=((hbl.cell (p:=⟨b',off'+j,none⟩) (by simp;omega)).trans (hbx.cell (p:=⟨b',off'+j,none⟩) hbw0')).trans (hcell' j (by omega));clear hcell hcell';have hj1:(0:Int)≤(j:Int):=by omega
    have hj2:(j:Int)<(n:Int):=by omega
    by_cases hxy:dg l j=dg r j
    ·rw[hxy]at hck;have heq':Hid (∀i,j≤i→i<n→dg l i=dg r i):=fun i a b=>by
      by_cases hij:i=j
      ·rw[hij];exact hxy
      ·exact heq.out i (by omega) b
     clear hxy;generalize dg r j=x at*
     go_wp2
     go_quiet (fail)
     go_wp2
     go_roundw
     case rel=>exact⟨j,by omega,rfl,heq',jL hbl _⟩
     case measure=>simp[intOf]
    ·rcases iM (dg l j) (dg r j)with hlt2|hge2
     ·have hres:=bk (wH (Dq (B:=4294967296) (l:=l) (m:=r) (i:=j) (by have:=hlen.out;have:=hlen'.out;omega) (by have:=hlen.out;omega) hll.out hlt2 (fun i a b=>heq.out i (by omega) (by have:=hlen.out;omega))));clear hxy;generalize dg r j=y at*;generalize dg l j=x at*;have hxy2:((x:Int)==(y:Int))=false:=by simp;omega
      have hxy3:(x:Int)<(y:Int):=by omega
      go_wp2
      go_quiet (fail)
      go_wp2
      go_quiet (fail)
      go_wp2
      go_ret
      exact⟨by rw[hres.out];rfl,jL (jL (hbx.trans (hbl.mono (by omega))) _) _⟩
     ·have hres:=bk (uE (Dq (B:=4294967296) (l:=r) (m:=l) (i:=j) (by have:=hlen.out;have:=hlen'.out;omega) (by have:=hlen'.out;omega) hrr.out (by omega) (fun i a b=>(heq.out i (by omega) (by have:=hlen'.out;omega)).symm)));have hxy3:dg r j<dg l j:=by omega
      clear hxy hge2;generalize dg r j=y at*;generalize dg l j=x at*;have hxy2:((x:Int)==(y:Int))=false:=by simp;omega
      have hxy4:¬(x:Int)<(y:Int):=by omega
      go_wp2
      go_quiet (fail)
      go_wp2
      go_quiet (fail)
      go_wp2
      go_ret
      exact⟨by rw[hres.out];rfl,jL (jL (hbx.trans (hbl.mono (by omega))) _) _⟩
   ·obtain rfl:k=0:=by omega
    have hres:l=r:=DS (by have:=hlen.out;have:=hlen'.out;omega) (fun i a=>heq.out i (by omega) (by have:=hlen.out;omega));have hres:=bk hres
    go_wp2
    go_ret
    exact⟨by rw[hres.out,wG];rfl,hbx.trans (hbl.mono (by omega))⟩
 ·have hres:=bk (uE (hnl.out.len_lt (B:=4294967296) (l:=r) (by omega) hrr.out (by have:=hlen.out;have:=hlen'.out;omega)))
  go_enter Tryz.func204,Tryz.ntmps204
  go_wp2
  go_ret
  exact⟨by rw[hres.out];rfl,hbx⟩
theorem nJ{w:World}{s t:Sl}{x y:Nat}(h:dV w s x)(h':dV w t y)(hn:s.n≤1000000000000)(hm:t.n≤1000000000000):
  Calls Tryz.prog 204 #[.agg #[.slice s.ao s.n s.c],.agg #[.slice t.ao t.n t.c]] w fun e w'=>
   e=.returned (.int .i64 (mV x y))∧Below w.heap.size w w':=by
 obtain⟨l,h1,h2,h3,h4⟩:=h;obtain⟨r,g1,g2,g3,g4⟩:=h';subst h4;subst g4;exact Ni s.ao t.ao s.n t.n s.c t.c l r w h1 g1 h2 g2 hn hm h3 g3
end Go.Proofs.YtgaaopjagcaojaaGreat
