/- Parts of a proof. No condition. -/
import Derived.Test.YtimlcnhcjndijaaGreatDoorJ37
import Derived.Test.YtimlcnhcjndijaaGreatDoorJ38
set_option linter.all false
set_option maxRecDepth 100000
set_option maxHeartbeats 12800000
namespace Go.Proofs.YtimlcnhcjndijaaGreatDoor
open IntKind renaming i64->G
open Value renaming int->Z,bool->Q,pointer->K,slice->V,string->D
open Ending renaming returned->Y
open Option renaming some->O,none->I
open Obj renaming cells->J
open Go renaming World->WD,Calls->CS
open Go.RowKit renaming Below->BW
open Go.Proofs.Tryz
section
open Go.RowKit Go.Maps Go.Lib
def A2x {g k y wc r:Nat} {st:Int} {za ya:List Value} {c:WD} {K9q:Act->WD->Prop} {Q9q:Exit->Act->WD->Prop} {x0 x1 x2 x3 x4 x5 x6 x7 x8 x9 x11 x12 x15 x16 x17 x18 x19 x20 x21 x22 x23 x24 x25 x26 x27 x28 x29 x30 x31 x32 x33 x34 x35 x36 x37 x38 x39 x40 x41 x42 x43 x44 x45 x46 x47 x48 x49 x50 x51 x52 x53 x54 x55 x56 x57 x58 x59 x60 x61 x62 x63 x64 x65 x66 x67 x68 x69 x70 x71 x72 x73 x74 x75 x76 x77 x78 x79 x80 x81 x82 x83 x84 x85 x86 x87 x88 x89 x90 x91 x92 x93 x94 x95 x96 x97 x98 x99 x100 x101 x102 x103 x104 x105 x106 x107 x108 x109 x110 x111 x112 x113 x114 x115 x116 x117 x118 x119 x120 x121 x122 x123 x124 x125 x126 x127 x128 x129 x130 x131 x132 x133 x134 x135 x136 x137 x138 x139 x140 x141 x142 x143 x144 x145 x146 x147 x148 x149 x150 x151 x152 x153 x154 x155 x156 x157 x158 x159 x160 x161 x162 x163 x164 x165 x166 j:Value}
  (al:k<y) (z:g<c.heap.size) (ko:∀W,CS prog 23 #[Z G st] W λe w'=>e=Y (Q true)/\w'=W)
  (ks:∀W,BW c.heap.size c W->CS prog 24 #[.agg za.toArray,.agg ya.toArray] W λe w'=>e=Y (Q true)/\BW W.heap.size W w')
  (x:c.cell? ⟨g,k*22+14,I⟩=O (Z G st)) (p:∀W,BW c.heap.size c W->W.rangeAt g (k*22) za) (q:∀W,BW c.heap.size c W->W.rangeAt r 0 ya) (m:(prog.info? 46).map (·.size)=O za.length) (n:(prog.info? 46).map (·.size)=O ya.length)
  (l:∀v84 v85 v86 v87 v88 v89 v90 v91 v92 v93 v94 v95 v96 v97 v98 v99 v100 v101 v102 v103 v104 wx,BW c.heap.size c wx->K9q { tmps:=#[x0,x1,x2,x3,x4,x5,x6,x7,x8,x9,V (O ⟨g,0,I⟩) y wc,x11,x12,Z G k,K (O ⟨r,0,I⟩),x15,x16,x17,x18,x19,x20,x21,x22,x23,x24,x25,x26,x27,x28,x29,x30,x31,x32,x33,x34,x35,x36,x37,x38,x39,x40,x41,x42,x43,x44,x45,x46,x47,x48,x49,x50,x51,x52,x53,x54,x55,x56,x57,x58,x59,x60,x61,x62,x63,x64,x65,x66,x67,x68,x69,x70,x71,x72,x73,x74,x75,x76,x77,x78,x79,x80,x81,x82,x83,v84,v85,v86,v87,v88,v89,v90,v91,v92,v93,v94,v95,v96,v97,v98,v99,v100,v101,v102,v103,v104,Q false,x106,x107,x108,x109,x110,x111,x112,x113,x114,x115,x116,x117,x118,x119,x120,x121,x122,x123,x124,x125,x126,x127,x128,x129,x130,x131,x132,x133,x134,x135,x136,x137,x138,x139,x140,x141,x142,x143,x144,x145,x146,x147,x148,x149,x150,x151,x152,x153,x154,x155,x156,x157,x158,x159,x160,x161,x162,x163,x164,x165,x166,j],defers:=[] } wx) :
  Code.wp prog (Code.region 22 #[{ dst:=O 84,op:=Op.move (Operand.tmp 13),type:=3,pos:="law.go:278",after:=#[],guard:=I },{ dst:=O 85,op:=Op.move (Operand.tmp 10),type:=57,pos:="law.go:278",after:=#[],guard:=I },{ dst:=O 86,op:=Op.call { callee:=Callee.builtin Builtin.len,args:=#[Operand.tmp 85],argTypes:=#[57] },type:=3,pos:="law.go:278",after:=#[{ on:=1,ground:=Ground.data }],guard:=I },{ dst:=O 87,op:=Op.binOp BinOp.lss 3 (Operand.tmp 84) (Operand.tmp 86) 3,type:=4,pos:="law.go:278",after:=#[{ on:=0,ground:=Ground.data },{ on:=2,ground:=Ground.data }],guard:=I },{ dst:=O 88,op:=Op.move (Operand.tmp 87),type:=4,pos:="law.go:278",after:=#[{ on:=3,ground:=Ground.data }],guard:=I },{ dst:=O 89,op:=Op.move (Operand.tmp 10),type:=57,pos:="law.go:278",after:=#[{ on:=4,ground:=Ground.guard }],guard:=O (4,true) },{ dst:=O 90,op:=Op.move (Operand.tmp 13),type:=3,pos:="law.go:278",after:=#[{ on:=4,ground:=Ground.guard }],guard:=O (4,true) },{ dst:=O 91,op:=Op.indexAddr 57 (Operand.tmp 89) (Operand.tmp 90),type:=0,pos:="law.go:278",after:=#[{ on:=5,ground:=Ground.data },{ on:=6,ground:=Ground.data },{ on:=4,ground:=Ground.guard }],guard:=O (4,true) },{ dst:=O 92,op:=Op.fieldAddr 46 (Operand.tmp 91) 2,type:=0,pos:="law.go:278",after:=#[{ on:=7,ground:=Ground.data },{ on:=4,ground:=Ground.guard }],guard:=O (4,true) },{ dst:=O 93,op:=Op.fieldAddr 43 (Operand.tmp 92) 0,type:=0,pos:="law.go:278",after:=#[{ on:=8,ground:=Ground.data },{ on:=4,ground:=Ground.guard }],guard:=O (4,true) },{ dst:=O 94,op:=Op.load 41 (Operand.tmp 93),type:=41,pos:="law.go:278",after:=#[{ on:=9,ground:=Ground.data },{ on:=4,ground:=Ground.guard }],guard:=O (4,true) },{ dst:=O 95,op:=Op.call { callee:=Callee.value (Operand.func 23),args:=#[Operand.tmp 94],argTypes:=#[41] },type:=4,pos:="law.go:278",after:=#[{ on:=10,ground:=Ground.data },{ on:=4,ground:=Ground.chain },{ on:=4,ground:=Ground.guard }],guard:=O (4,true) },{ dst:=O 96,op:=Op.pick (Operand.tmp 88) (Operand.tmp 95) (Operand.const (Value.bool false)),type:=4,pos:="law.go:278",after:=#[{ on:=4,ground:=Ground.data },{ on:=11,ground:=Ground.data }],guard:=I },{ dst:=O 97,op:=Op.move (Operand.tmp 96),type:=4,pos:="law.go:278",after:=#[{ on:=12,ground:=Ground.data },{ on:=11,ground:=Ground.chain }],guard:=I },{ dst:=O 98,op:=Op.move (Operand.tmp 10),type:=57,pos:="law.go:278",after:=#[{ on:=13,ground:=Ground.guard }],guard:=O (13,true) },{ dst:=O 99,op:=Op.move (Operand.tmp 13),type:=3,pos:="law.go:278",after:=#[{ on:=13,ground:=Ground.guard }],guard:=O (13,true) },{ dst:=O 100,op:=Op.indexAddr 57 (Operand.tmp 98) (Operand.tmp 99),type:=0,pos:="law.go:278",after:=#[{ on:=14,ground:=Ground.data },{ on:=15,ground:=Ground.data },{ on:=13,ground:=Ground.guard }],guard:=O (13,true) },{ dst:=O 101,op:=Op.load 46 (Operand.tmp 100),type:=46,pos:="law.go:278",after:=#[{ on:=16,ground:=Ground.data },{ on:=13,ground:=Ground.guard }],guard:=O (13,true) },{ dst:=O 102,op:=Op.load 46 (Operand.tmp 14),type:=46,pos:="law.go:278",after:=#[{ on:=13,ground:=Ground.guard }],guard:=O (13,true) },{ dst:=O 103,op:=Op.call { callee:=Callee.value (Operand.func 24),args:=#[Operand.tmp 101,Operand.tmp 102],argTypes:=#[46,46] },type:=4,pos:="law.go:278",after:=#[{ on:=17,ground:=Ground.data },{ on:=18,ground:=Ground.data },{ on:=13,ground:=Ground.chain },{ on:=13,ground:=Ground.guard }],guard:=O (13,true) },{ dst:=O 104,op:=Op.unOp UnOp.not 4 (Operand.tmp 103),type:=4,pos:="law.go:278",after:=#[{ on:=19,ground:=Ground.data },{ on:=13,ground:=Ground.guard }],guard:=O (13,true) },{ dst:=O 105,op:=Op.pick (Operand.tmp 97) (Operand.tmp 104) (Operand.const (Value.bool false)),type:=4,pos:="law.go:278",after:=#[{ on:=13,ground:=Ground.data },{ on:=20,ground:=Ground.data }],guard:=I }] true) (Exit.then K9q Q9q) { tmps:=#[x0,x1,x2,x3,x4,x5,x6,x7,x8,x9,V (O ⟨g,0,I⟩) y wc,x11,x12,Z G k,K (O ⟨r,0,I⟩),x15,x16,x17,x18,x19,x20,x21,x22,x23,x24,x25,x26,x27,x28,x29,x30,x31,x32,x33,x34,x35,x36,x37,x38,x39,x40,x41,x42,x43,x44,x45,x46,x47,x48,x49,x50,x51,x52,x53,x54,x55,x56,x57,x58,x59,x60,x61,x62,x63,x64,x65,x66,x67,x68,x69,x70,x71,x72,x73,x74,x75,x76,x77,x78,x79,x80,x81,x82,x83,x84,x85,x86,x87,x88,x89,x90,x91,x92,x93,x94,x95,x96,x97,x98,x99,x100,x101,x102,x103,x104,x105,x106,x107,x108,x109,x110,x111,x112,x113,x114,x115,x116,x117,x118,x119,x120,x121,x122,x123,x124,x125,x126,x127,x128,x129,x130,x131,x132,x133,x134,x135,x136,x137,x138,x139,x140,x141,x142,x143,x144,x145,x146,x147,x148,x149,x150,x151,x152,x153,x154,x155,x156,x157,x158,x159,x160,x161,x162,x163,x164,x165,x166,j],defers:=[] } c:=by
 have ac:(k:Int)<y:=ao9
 have ad:(0:Int)<=(k:Int):=ao9
 have b:BW c.heap.size c c.drew:=(Below.refl _ _).drew;have t:∀d,BW c.heap.size c d->d.cell? ⟨g,k*22+14,I⟩=O (Z G st)/\d.rangeAt g (k*22) za/\d.rangeAt r 0 ya:=λd h=>⟨(Af h z).trans x,p d h,q d h⟩;clear x;replace⟨ko,ks,l,b,p,q,m,n⟩:=H8 ko ks l b p q m n;replace t:=Hh t;refine wp_region_noPanic ?_;refine wp_region_held_drew (S:=λd=>d.cell? ⟨g,k*22+14,I⟩=O (Z G st)/\d.rangeAt g (k*22) za/\d.rangeAt r 0 ya) (by kernel_rfl) (t _ b.out) (λf=>?_);refine wpAnyH_take (i:=0) (oi:={ dst:=O 84,op:=Op.move (Operand.tmp 13),type:=3,pos:="law.go:278",after:=#[],guard:=I }) (v:=?_) rfl (by kernel_rfl) (by kernel_rfl) (by kernel_rfl) (λ_ _ _ h=>h) (Or.inl ⟨by rfl,?_⟩) (by assumption) ?_;rotate_left
 .intro w a
  try dsimp only at a
  go_simp
  all_goals with_reducible rfl
 try simp only[Act.put,Fk,Fc,Ew]
 refine wpAnyH_take (i:=1) (oi:={ dst:=O 85,op:=Op.move (Operand.tmp 10),type:=57,pos:="law.go:278",after:=#[],guard:=I }) (v:=?_) rfl (by kernel_rfl) (by kernel_rfl) (by kernel_rfl) (λ_ _ _ h=>h) (Or.inl ⟨by rfl,?_⟩) (by assumption) ?_;rotate_left
 .intro w a
  try dsimp only at a
  go_simp
  all_goals with_reducible rfl
 try simp only[Act.put,Fk,Fc,Ew]
 refine wpAnyH_take (i:=2) (oi:={ dst:=O 86,op:=Op.call { callee:=Callee.builtin Builtin.len,args:=#[Operand.tmp 85],argTypes:=#[57] },type:=3,pos:="law.go:278",after:=#[{ on:=1,ground:=Ground.data }],guard:=I }) (v:=?_) rfl (by kernel_rfl) (by kernel_rfl) (by kernel_rfl) (λ_ _ _ h=>h) (Or.inl ⟨by rfl,?_⟩) (by assumption) ?_;rotate_left
 .intro w a
  try dsimp only at a
  go_simp
  all_goals with_reducible rfl
 try simp only[Act.put,Fk,Fc,Ew]
 refine wpAnyH_take (i:=3) (oi:={ dst:=O 87,op:=Op.binOp BinOp.lss 3 (Operand.tmp 84) (Operand.tmp 86) 3,type:=4,pos:="law.go:278",after:=#[{ on:=0,ground:=Ground.data },{ on:=2,ground:=Ground.data }],guard:=I }) (v:=?_) rfl (by kernel_rfl) (by kernel_rfl) (by kernel_rfl) (λ_ _ _ h=>h) (Or.inl ⟨by rfl,?_⟩) (by assumption) ?_;rotate_left
 .intro w a
  try dsimp only at a
  go_simp
  all_goals with_reducible rfl
 try simp only[Act.put,Fk,Fc,Ew]
 refine wpAnyH_take (i:=4) (oi:={ dst:=O 88,op:=Op.move (Operand.tmp 87),type:=4,pos:="law.go:278",after:=#[{ on:=3,ground:=Ground.data }],guard:=I }) (v:=?_) rfl (by kernel_rfl) (by kernel_rfl) (by kernel_rfl) (λ_ _ _ h=>h) (Or.inl ⟨by rfl,?_⟩) (by assumption) ?_;rotate_left
 .intro w a
  try dsimp only at a
  go_simp
  all_goals with_reducible rfl
 try simp only[Act.put,Fk,Fc,Ew]
 refine wpAnyH_take (i:=5) (oi:={ dst:=O 89,op:=Op.move (Operand.tmp 10),type:=57,pos:="law.go:278",after:=#[{ on:=4,ground:=Ground.guard }],guard:=O (4,true) }) (v:=?_) rfl (by kernel_rfl) (by kernel_rfl) (by kernel_rfl) (λ_ _ _ h=>h) (Or.inl ⟨by rfl,?_⟩) (by assumption) ?_;rotate_left
 .intro w a
  try dsimp only at a
  go_simp
  all_goals with_reducible rfl
 try simp only[Act.put,Fk,Fc,Ew]
 refine wpAnyH_take (i:=6) (oi:={ dst:=O 90,op:=Op.move (Operand.tmp 13),type:=3,pos:="law.go:278",after:=#[{ on:=4,ground:=Ground.guard }],guard:=O (4,true) }) (v:=?_) rfl (by kernel_rfl) (by kernel_rfl) (by kernel_rfl) (λ_ _ _ h=>h) (Or.inl ⟨by rfl,?_⟩) (by assumption) ?_;rotate_left
 .intro w a
  try dsimp only at a
  go_simp
  all_goals with_reducible rfl
 try simp only[Act.put,Fk,Fc,Ew]
 refine wpAnyH_take (i:=7) (oi:={ dst:=O 91,op:=Op.indexAddr 57 (Operand.tmp 89) (Operand.tmp 90),type:=0,pos:="law.go:278",after:=#[{ on:=5,ground:=Ground.data },{ on:=6,ground:=Ground.data },{ on:=4,ground:=Ground.guard }],guard:=O (4,true) }) (v:=?_) rfl (by kernel_rfl) (by kernel_rfl) (by kernel_rfl) (λ_ _ _ h=>h) (Or.inl ⟨by rfl,?_⟩) (by assumption) ?_;rotate_left
 .intro w a
  try dsimp only at a
  go_simp
  all_goals with_reducible rfl
 try simp only[Act.put,Fk,Fc,Ew]
 refine wpAnyH_take (i:=8) (oi:={ dst:=O 92,op:=Op.fieldAddr 46 (Operand.tmp 91) 2,type:=0,pos:="law.go:278",after:=#[{ on:=7,ground:=Ground.data },{ on:=4,ground:=Ground.guard }],guard:=O (4,true) }) (v:=?_) rfl (by kernel_rfl) (by kernel_rfl) (by kernel_rfl) (λ_ _ _ h=>h) (Or.inl ⟨by rfl,?_⟩) (by assumption) ?_;rotate_left
 .intro w a
  try dsimp only at a
  go_simp
  all_goals with_reducible rfl
 try simp only[Act.put,Fk,Fc,Ew]
 refine wpAnyH_take (i:=9) (oi:={ dst:=O 93,op:=Op.fieldAddr 43 (Operand.tmp 92) 0,type:=0,pos:="law.go:278",after:=#[{ on:=8,ground:=Ground.data },{ on:=4,ground:=Ground.guard }],guard:=O (4,true) }) (v:=?_) rfl (by kernel_rfl) (by kernel_rfl) (by kernel_rfl) (λ_ _ _ h=>h) (Or.inl ⟨by rfl,?_⟩) (by assumption) ?_;rotate_left
 .intro w a
  try dsimp only at a
  go_simp
  all_goals with_reducible rfl
 try simp only[Act.put,Fk,Fc,Ew]
 refine wpAnyH_take (i:=10) (oi:={ dst:=O 94,op:=Op.load 41 (Operand.tmp 93),type:=41,pos:="law.go:278",after:=#[{ on:=9,ground:=Ground.data },{ on:=4,ground:=Ground.guard }],guard:=O (4,true) }) (v:=?_) rfl (by kernel_rfl) (by kernel_rfl) (by kernel_rfl) (λ_ _ _ h=>h) (Or.inl ⟨by rfl,?_⟩) (by assumption) ?_;rotate_left
 .intro w a
  try dsimp only at a
  go_simp
  all_goals with_reducible rfl
 try simp only[Act.put,Fk,Fc,Ew]
 refine wpAnyH_ready (rs:=[11]) (by kernel_rfl) as9 ?_;refine AllReadyH.cons (o:={ dst:=O 95,op:=Op.call { callee:=Callee.value (Operand.func 23),args:=#[Operand.tmp 94],argTypes:=#[41] },type:=4,pos:="law.go:278",after:=#[{ on:=10,ground:=Ground.data },{ on:=4,ground:=Ground.chain },{ on:=4,ground:=Ground.guard }],guard:=O (4,true) }) rfl (λK9q s=>?_) AllReadyH.nil;go_simp;refine(ko _).mono ?_;rintro e wz ⟨rfl,rfl⟩
 skip
 go_wp2_with fail;refine s.out _ _ (t _ b.out) (λf=>?_);clear s K9q
 try simp only[Act.put,Fk,Fc,Ew]
 refine wpAnyH_take (i:=12) (oi:={ dst:=O 96,op:=Op.pick (Operand.tmp 88) (Operand.tmp 95) (Operand.const (Value.bool false)),type:=4,pos:="law.go:278",after:=#[{ on:=4,ground:=Ground.data },{ on:=11,ground:=Ground.data }],guard:=I }) (v:=?_) rfl (by kernel_rfl) (by kernel_rfl) (by kernel_rfl) (λ_ _ _ h=>h) (Or.inl ⟨by rfl,?_⟩) (by assumption) ?_;rotate_left
 .intro w a
  try dsimp only at a
  go_simp
  all_goals with_reducible rfl
 try simp only[Act.put,Fk,Fc,Ew]
 refine wpAnyH_take (i:=13) (oi:={ dst:=O 97,op:=Op.move (Operand.tmp 96),type:=4,pos:="law.go:278",after:=#[{ on:=12,ground:=Ground.data },{ on:=11,ground:=Ground.chain }],guard:=I }) (v:=?_) rfl (by kernel_rfl) (by kernel_rfl) (by kernel_rfl) (λ_ _ _ h=>h) (Or.inl ⟨by rfl,?_⟩) (by assumption) ?_;rotate_left
 .intro w a
  try dsimp only at a
  go_simp
  all_goals with_reducible rfl
 try simp only[Act.put,Fk,Fc,Ew]
 refine wpAnyH_take (i:=14) (oi:={ dst:=O 98,op:=Op.move (Operand.tmp 10),type:=57,pos:="law.go:278",after:=#[{ on:=13,ground:=Ground.guard }],guard:=O (13,true) }) (v:=?_) rfl (by kernel_rfl) (by kernel_rfl) (by kernel_rfl) (λ_ _ _ h=>h) (Or.inl ⟨by rfl,?_⟩) (by assumption) ?_;rotate_left
 .intro w a
  try dsimp only at a
  go_simp
  all_goals with_reducible rfl
 try simp only[Act.put,Fk,Fc,Ew]
 refine wpAnyH_take (i:=15) (oi:={ dst:=O 99,op:=Op.move (Operand.tmp 13),type:=3,pos:="law.go:278",after:=#[{ on:=13,ground:=Ground.guard }],guard:=O (13,true) }) (v:=?_) rfl (by kernel_rfl) (by kernel_rfl) (by kernel_rfl) (λ_ _ _ h=>h) (Or.inl ⟨by rfl,?_⟩) (by assumption) ?_;rotate_left
 .intro w a
  try dsimp only at a
  go_simp
  all_goals with_reducible rfl
 try simp only[Act.put,Fk,Fc,Ew]
 refine wpAnyH_take (i:=16) (oi:={ dst:=O 100,op:=Op.indexAddr 57 (Operand.tmp 98) (Operand.tmp 99),type:=0,pos:="law.go:278",after:=#[{ on:=14,ground:=Ground.data },{ on:=15,ground:=Ground.data },{ on:=13,ground:=Ground.guard }],guard:=O (13,true) }) (v:=?_) rfl (by kernel_rfl) (by kernel_rfl) (by kernel_rfl) (λ_ _ _ h=>h) (Or.inl ⟨by rfl,?_⟩) (by assumption) ?_;rotate_left
 .intro w a
  try dsimp only at a
  go_simp
  all_goals with_reducible rfl
 try simp only[Act.put,Fk,Fc,Ew]
 refine wpAnyH_take (i:=17) (oi:={ dst:=O 101,op:=Op.load 46 (Operand.tmp 100),type:=46,pos:="law.go:278",after:=#[{ on:=16,ground:=Ground.data },{ on:=13,ground:=Ground.guard }],guard:=O (13,true) }) (v:=_) rfl (by kernel_rfl) (by kernel_rfl) (by kernel_rfl) (λ_ _ _ h=>h) (yieldsIf_load_mid (by rfl) 46 _ rfl g (k*22) rfl za _ (λw hw=>hw.2.1) K8 rfl m.out) (by assumption) ?_
 try simp only[Act.put,Fk,Fc,Ew]
 refine wpAnyH_take (i:=18) (oi:={ dst:=O 102,op:=Op.load 46 (Operand.tmp 14),type:=46,pos:="law.go:278",after:=#[{ on:=13,ground:=Ground.guard }],guard:=O (13,true) }) (v:=_) rfl (by kernel_rfl) (by kernel_rfl) (by kernel_rfl) (λ_ _ _ h=>h) (yieldsIf_load_mid (by rfl) 46 _ rfl r (0) rfl ya _ (λw hw=>hw.2.2) K8 rfl n.out) (by assumption) ?_
 try simp only[Act.put,Fk,Fc,Ew]
 refine wpAnyH_ready (rs:=[19]) (by kernel_rfl) as9 ?_;refine AllReadyH.cons (o:={ dst:=O 103,op:=Op.call { callee:=Callee.value (Operand.func 24),args:=#[Operand.tmp 101,Operand.tmp 102],argTypes:=#[46,46] },type:=4,pos:="law.go:278",after:=#[{ on:=17,ground:=Ground.data },{ on:=18,ground:=Ground.data },{ on:=13,ground:=Ground.chain },{ on:=13,ground:=Ground.guard }],guard:=O (13,true) }) rfl (λK9q s=>?_) AllReadyH.nil;go_simp;refine(ks _ b.out).mono ?_;rintro e wz ⟨rfl,u⟩;replace b:=Hh (b.trans (u.mono b.size));clear u;go_wp2_with fail;refine s.out _ _ (t _ b.out) (λf=>?_);clear s K9q
 try simp only[Act.put,Fk,Fc,Ew]
 refine wpAnyH_take (i:=20) (oi:={ dst:=O 104,op:=Op.unOp UnOp.not 4 (Operand.tmp 103),type:=4,pos:="law.go:278",after:=#[{ on:=19,ground:=Ground.data },{ on:=13,ground:=Ground.guard }],guard:=O (13,true) }) (v:=?_) rfl (by kernel_rfl) (by kernel_rfl) (by kernel_rfl) (λ_ _ _ h=>h) (Or.inl ⟨by rfl,?_⟩) (by assumption) ?_;rotate_left
 .intro w a
  try dsimp only at a
  go_simp
  all_goals with_reducible rfl
 try simp only[Act.put,Fk,Fc,Ew]
 refine wpAnyH_take (i:=21) (oi:={ dst:=O 105,op:=Op.pick (Operand.tmp 97) (Operand.tmp 104) (Operand.const (Value.bool false)),type:=4,pos:="law.go:278",after:=#[{ on:=13,ground:=Ground.data },{ on:=20,ground:=Ground.data }],guard:=I }) (v:=?_) rfl (by kernel_rfl) (by kernel_rfl) (by kernel_rfl) (λ_ _ _ h=>h) (Or.inl ⟨by rfl,?_⟩) (by assumption) ?_;rotate_left
 .intro w a
  try dsimp only at a
  go_simp
  all_goals with_reducible rfl
 try simp only[Act.put,Fk,Fc,Ew]
 refine wpAnyH_done (by kernel_rfl) ?_ _;refine NoPanic.normal ?_;go_wp2_with fail;exact l.out _ _ _ _ _ _ _ _ _ _ _ _ _ _ _ _ _ _ _ _ _ _ b.out
structure zq (wr:WD) (bv:Value) (wx:WD):Prop where
 eq:bv=Q false
 low:BW wr.heap.size wr wx
def A2y {d:Option Addr} {c ic:Nat} {b:List Int} {v:Int} {f a:WD} (h:At f d c b) (g:BW f.heap.size f a) (i:I0 b v=true) (q:Nat) :
  CS prog 26 #[V d c ic,Z G v] (a.drewN q) λe w'=>e=Y (Q true)/\w'=a.drewN q:=by
 have h1:=Aq8 d c ic b v (a.drewN q) ((h.low g).low (A4 _ a q));rw[i]at h1;exact h1
def A2z (cf:∀W,Mx W->CS prog 12 #[] W λe w'=>e=Y (Q true)/\BW W.heap.size W w') (w:WD) (hm:Mx w) (s:ByteArray) (so:Option Addr) (m c:Nat) (xs:List de) (hx:R0 w so m xs) :
  CS prog 5 #[D s,V so m c] w λe w'=>e=Y (Q true)/\BW w.heap.size w w':=by
 have b7:=cf w hm;replace⟨b7,hm,hx⟩:=H3 b7 hm hx;clear cf;go_enter func5,ntmps5;go_wp2_with fail;refine b7.mono ?_;rintro e w1 ⟨rfl,b1⟩;have kb:=Am5 s w1 (hm.low b1);have a9:=hx.low b1;replace⟨b1,kb,a9⟩:=H3 b1 kb a9;go_wp2_with fail;refine kb.mono ?_;intro e w2 hB;rcases hB with⟨rfl,b2⟩|⟨T0,ns,fo,fn,fc,b9,n2,c2,rfl,hP,bD,hR,a7,bZ⟩
 .unfold Rz;have bl:BW w2.heap.size w2 (w2.alloc (J #[V I 0 0,Z G 0,Z G 0,V I 0 0,V I 0 0,V I 0 0] 59 (0,0))):=Bn;have ks:=Z0 so m c xs ((a9.low b2).low bl);have p:=b1.trans ((b2.trans (bl.mono b2.size)).mono b1.size);replace⟨b2,bl,ks,p⟩:=H4 b2 bl ks p;go_wp2_with fail;refine ks.mono ?_;rintro e w4 ⟨b,rfl,-,b4⟩;replace b4:=Hh b4;go_wp2_with fail;go_ret;exact⟨rfl,p.trans (b4.mono p.size)⟩
 replace⟨hP,bD,hR,a7,bZ⟩:=H5 hP bD hR a7 bZ;go_upto_region 5 with fail;obtain⟨q,hq⟩:=Ex (w2.heap.size);obtain⟨W3,bj⟩:=Ex (w2.alloc (J #[V fo fn fc,Z G 0,Z G (-1),V I 0 0,V b9 n2 c2,V I 0 0] 59 (0,0)));have b3:BW w2.heap.size w2 W3:=by rw[bj];exact Bn
 obtain⟨es,a3⟩:=Ex (xs.map de.pl);obtain⟨vs,aP⟩:=Ex (T0.vs);have a6:T0.js=[]:=by have:=Cv (λt:dq=>t.ab.length) bD.out;simpa[Tv.pl]using this
 have bb:tz w1 q #[V fo fn fc,Z G 0,Z G (-1),V I 0 0,V b9 n2 c2,V I 0 0] vs (V fo fn fc) ns es 0 T0 W3:=
  ⟨hP.drop b3,aP.symm,by rw[bj,hq];exact Ah _ _,hR.below b3,by rw[a6];simp[Jg]⟩
 have ks:=Z0 so m c xs (a9.low (bb.di.low));rw[<-a3]at ks;rw[<-bj,<-hq];clear bj hq;replace⟨b3,bb,ks,a3,aP,a6⟩:=H6 b3 bb ks a3 aP a6;go_wp2_with fail;refine ks.mono ?_;rintro e w4 ⟨b,rfl,bG,b4⟩;have aX:=bb.drop b4;have aA:=b1.trans (aX.di.low.mono b1.size);cases b
 .replace ⟨b4,bG,aX,aA⟩:=H4 b4 bG aX aA;go_wp2_with fail;go_ret;exact⟨rfl,aA.out⟩
 have aT:=bG rfl;obtain⟨tb,ht⟩:=Ex (T0.tb);rw[<-ht];have bY:fn=vs.length:=by have h1:=Cv List.length a7.out;rw[Ar]at h1;obtain⟨cL,cK,e⟩:=Am4 hR.out;injection e with _ e2;rw[e2,h1,aP.out]
 have bX:=hx.len.symm;have cG:m<=60:=by have h1:=aT.len;rw[a3.out,Ar]at h1;omega
 have cx:fn<=16:=by have h1:=bZ.len;rw[<-aP.out]at h1;omega
 clear bG;replace⟨b4,aX,aA,aT,ht,bY,bX⟩:=H7 b4 aX aA aT ht bY bX;go_wp2_with fail
 have bQ:Lz w4.heap.size w4.heap.size T0.pl.ab (V I 0 0) [] T0 w4:=by
  have e:T0.pl.ab=[]:=by rw[bD.out]
  rw[e];exact A2q w4 T0
 replace bQ:=Hh bQ;go_loopw [10,11,12,13,14,15,16] (λwv iv _ _ _ _ _ wr=>∃(i:Nat) (T:Tv) (lo hi:Nat) (L:List aj) (wo:Option Addr) (wc:Nat),wv=V wo L.length wc/\iv=Z G i/\i<=m/\L.length<=100/\Hid (tb=T.tb)/\Hid (Lz lo hi T.pl.ab (V wo L.length wc) L T wr)/\Hid (tz w1 q #[V fo fn fc,Z G 0,Z G (-1),V I 0 0,V b9 n2 c2,V I 0 0] vs (V fo fn fc) ns es i T wr)) (λ_ iv _ _ _ _ _ _=>m-(intOf iv).toNat)
 case atStart=>exact⟨0,T0,w4.heap.size,w4.heap.size,[],I,0,rfl,rfl,As _,ad9,ht,bQ,aX⟩
 case round=>
  rename WD=>wi
  obtain⟨i,T,lo,hi,L,wo,wc,rfl,rfl,hi,bN,cm,bJ,hF⟩:=hrel;obtain⟨wl,aQ⟩:=Ex (L.length);rw[<-aQ]at bJ bN ⊢;by_cases hc:i<m
  .have cv:(i:Int)<m:=ao9;have cS:(0:Int)<=(i:Int):=ao9;obtain⟨x,bH⟩:=Ge xs i (by have:=bX.out;omega);obtain⟨b,cY,rfl,bB,bT,bC⟩:=a9.cell i x bH;have aJ:es.take (i+1)=es.take i++[x.pl]:=Jq (by rw[a3.out,A7,bH];rfl);have ad:=hF.di
   have ka:=Zy x ad (bC.low ad.low) (ad.dj bC) (λ_=>by
    have h1:=hF.len;have h2:=Aeo es i;have h3:=aT.sum
    omega)
   have bn:=ad.ft;rw[<-cm.out]at ka;obtain⟨P,bP⟩:=Ex (x.pl);rw[<-bP]at aJ ka;obtain⟨⟨cH,ai,tick,ag,seq,br,attempt,node,bq⟩,cI,em,ec,cJ⟩:=x;obtain⟨e0,e1,e2,e3,e4,e5,e6,e7,e8,e9⟩:=Anj bT ad.low bB rfl;replace⟨bH,bB,bT,bC,aJ,ad,ka,bn⟩:=H8 bH bB bT bC aJ ad ka bn;replace bP:=Hh bP;go_wp2_with fail;refine ka.mono ?_;rintro e wA ⟨T',rfl,aK,aU,bg,-⟩;clear e0 e1 e2 e3 e4 e5 e6 e7 e8 e9;have bc:=hF.fy aK bg aU aJ.out;have bS:=bJ.fy bg;have aV:tb=T'.tb:=(by rw[bg.tb];exact cm.out);have a8:=A2t (e:=P) bn.out;rw[<-aU]at a8;have al:=aK.rows;have kj:=Ad1 aK.tab al.1 (by have:=al.2.2;omega);rw[<-aV]at kj;clear bg;replace⟨aK,aU,bc,bS,aV,al,kj,a8⟩:=H8 aK aU bc bS aV al kj a8;replace aQ:=Hh aQ;go_wp2_with fail;refine kj.mono ?_;intro e wJ hJ;obtain⟨sv,L',rfl,bO,hG⟩:=hJ;have aM:=Aep aK.tab ⟨al.1,al.2.1⟩ hG bO;obtain⟨jo,jc,rfl⟩:=Z3 hG;obtain⟨jl,aE⟩:=Ex (L'.length);rw[<-aE]at hG aM ⊢;have bd:=bc.drop hG.low;have bk:=bS.drop hG.low;have bs:jl<=100:=by have:=al.2.2;omega
   have cR:¬jl<wl:=by
    have h1:=a8.1;have e1:T.pl.ab.length=wl:=(by rw[<-bk.fi,Ar,aQ.out]);have e2:T'.pl.ab.length=jl:=(by rw[<-aM.fi,Ar,aE]);omega
   replace⟨bO,hG,aE,bd,bk,aM⟩:=H6 bO hG aE bd bk aM;go_wp2_with fail;go_loopw [13,14,15,16] (λkv _ _ _ wr=>∃(k:Nat),kv=Z G k/\k<=jl/\Hid (BW wJ.heap.size wJ wr)) (λkv _ _ _ _=>jl-(intOf kv).toNat)
   case atStart=>exact⟨0,rfl,As _,Below.refl _ _⟩
   case round=>
    rename WD=>wk
    obtain⟨k,rfl,hk,p⟩:=hrel;by_cases cO:k<jl
    .have ch:(k:Int)<jl:=ao9;have cT:(0:Int)<=(k:Int):=ao9;obtain⟨y,hy⟩:=Ge L' k (by have:=aE.out;omega);obtain⟨g,cap,⟨jb,jx⟩,bp,cb,aS,aD⟩:=Z2 hG.out hy;rw[<-aE.out]at cb;injection cb with esv1 esv2 esv3;subst esv1;clear esv2 esv3;have aB:Ant vs k y.pl:=(by rw[aS.pl,<-bc.vs];exact Anu (aK.ft.all k jx.pl (by simp[Tv.pl,bp])));have aH:=aM.shown y (Ai hy)
     have bE:wk.rangeAt g (k*22) y.cells.toList:=λj v hv=>by
      have hj:j<22:=(An.1 hv).1;rw[aD wk p.out j hj,<-hv,Pp]
     obtain⟨W0,bi⟩:=Ex (wk.alloc (J Jz 46 (0,0)));have ba:W0.heap[wk.heap.size]?=O (J aj.zero.cells 46 (0,0)):=(by rw[bi];exact Ah _ _);have aN:BW wk.heap.size wk (W0.setRow wk.heap.size y.cells):=Og (by rw[bi];exact Bn) Ln _;have aO:=La W0 wk.heap.size _ y.cells 46 (0,0) ba;replace⟨hy,bp,aS,aD,aB,aH,bE,ba⟩:=H8 hy bp aS aD aB aH bE ba;replace⟨aN,aO⟩:=H2 aN aO;go_upto_region 19 with fail;go_upto_region 20 with(first|(refine wpList_load_mid rfl 46 _ rfl g (k*22) rfl y.cells.toList _ bE.out K8 rfl Fi ?_)|(rw[<-bi];refine L2 rfl 46 _ _ rfl wk.heap.size y.cells rfl rfl 46 _ ba.out Fi rfl (Lw y) ?_));simp only[Act.put];obtain⟨bx,aR⟩:=Ex (wk.heap.size);obtain⟨W5,ce⟩:=Ex (W0.setRow bx y.cells);rw[<-aR]at aN aO ⊢;rw[<-ce]at aN aO ⊢;have aF:=p.trans (by rw[aR]at aN;exact aN.mono p.size);have h:∀W,BW W5.heap.size W5 W->∀o,o<22->W.cell? ⟨bx,o,I⟩=y.cells[o]?:=λW hW o ho=>Aa (Ae hW aO.out (Ab aO.out)) o;have kr:=λW=>A2w y.pl.lf aB.right W;have ct:=aB.bh;have ck:=aB.id;have bK:=aB.ret;clear ce aN aO ba bi bE aD aS bp;have ca:=h W5 (Below.refl _ _) 14 ad9;have x15:=h W5 (Below.refl _ _) 15 ad9;have x16:=h W5 (Below.refl _ _) 16 ad9;have x17:=h W5 (Below.refl _ _) 17 ad9;have x18:=h W5 (Below.refl _ _) 18 ad9;simp at ca x15 x16 x17 x18;replace⟨aR,aF,h,kr⟩:=H4 aR aF h kr;go_wp2_with fail;refine(kr _).mono ?_;rintro e wR ⟨rfl,bR⟩;have aZ:=bR;have cr:=h wR bR 15 ad9;have cp:=h wR bR 11 ad9;have y0:=h wR bR 0 ad9;simp at cr cp y0;have cE:IntKind.i64.wrap (y.pl.sp.ae+1)=y.pl.sp.ae+1:=D4 _ ao9;have r:=aF.trans (bR.mono aF.size);clear ca x15 x16 x17 x18;replace⟨bR,r,aZ,bK⟩:=H4 bR r aZ bK;go_upto_region 22 with fail;clear cr cp y0 ct cE;replace ck:=Hh ck;have aL:=bk.drop r.out;replace aL:=Hh aL;go_cut [105] (λbv wx=>zq wR bv wx)
     case first=>
      by_cases cC:k<wl
      .have cl:(k:Int)<wl:=ao9;obtain⟨z,hz⟩:=Ge L k (by have:=aQ.out;omega);obtain⟨gw,cw,ew,bW,a0⟩:=aL.row k z hz;have bV:=Bq bW.2 aL.top;injection ew with ew1 ew2 ew3;subst ew1;clear ew2 ew3;have a1:T.pl.ab[k]?=O z.pl:=(by rw[<-aL.fi,A7,hz];rfl);have aJ:=(Anu (bn.all k z.pl a1)).st;have ko:=λW=>A2u z.pl.lf.st aJ W;by_cases hv:ia z.pl.lf.st=true
       .have he:y.pl=z.pl:=(by have h1:=a8.2 k z.pl a1 hv;rw[<-aM.fi,A7,hy.out]at h1;injection h1);have ks:∀W,BW wR.heap.size wR W->CS prog 24 #[.agg z.cells.toList.toArray,.agg y.cells.toList.toArray] W λe w'=>e=Y (Q true)/\BW W.heap.size W w':=λW hW=>A2p z y he ((aL.shown z (Ai hz)).low hW) (aH.low (r.trans (hW.mono r.size)))
        have b0:∀W',BW wR.heap.size wR W'->W'.rangeAt gw (k*22) z.cells.toList:=λW' hW j v hv=>by
         obtain⟨g2,c2,ew,-,cF⟩:=(aL.drop hW).row k z hz;injection ew with ew1;injection ew1 with ew1;injection ew1 with ew1;subst ew1;have hj:j<22:=(An.1 hv).1;rw[cF j hj,<-hv,Pp]
        have b5:∀W',BW wR.heap.size wR W'->W'.rangeAt bx 0 y.cells.toList:=λW' hW j v hv=>by
         have hj:j<22:=(An.1 hv).1;rw[Db,h W' (aZ.trans (hW.mono aZ.size)) j hj,<-hv,Pp]
        have cs:wR.cell? ⟨gw,k*22+14,I⟩=O (Z G z.pl.lf.st):=a0 14 ad9;have cB:(prog.info? 46).map (·.size)=O z.cells.toList.length:=Fi;have cA:(prog.info? 46).map (·.size)=O y.cells.toList.length:=Fi;rw[hv]at ko;replace⟨ko,ks,hz,a0,a1,he,b0,b5⟩:=H8 ko ks hz a0 a1 he b0 b5;replace⟨bW,bV⟩:=H2 bW bV;clear aJ hv;refine A2x (za:=z.cells.toList) (ya:=y.cells.toList) (st:=z.pl.lf.st) cC bV.out ko.out ks.out cs b0.out b5.out cB cA (λ_ _ _ _ _ _ _ _ _ _ _ _ _ _ _ _ _ _ _ _ _ wx hb=>?_)
        try go_wp2_with fail
        go_meet
        case rel=>exact⟨rfl,hb⟩
       .have co:ia z.pl.lf.st=false:=(by simpa using hv);have cs:wR.cell? ⟨gw,k*22+14,I⟩=O (Z G z.pl.lf.st):=a0 14 ad9;rw[co]at ko;replace⟨ko,hz,a0,a1⟩:=H4 ko hz a0 a1;clear aJ hv co;go_quiet ((go_at_call 23;(with_reducible exact Gg (ko.out _))));rename_i nq;go_wp2_with fail;go_meet
        case rel=>exact⟨rfl,A4 _ wR nq⟩
      .have cl:¬(k:Int)<wl:=ao9;go_quiet (fail);rename_i nq;go_wp2_with fail;go_meet
       case rel=>exact⟨rfl,A4 _ wR nq⟩
     case rest=>
     obtain⟨rfl,bw⟩:=hcut;have f:=r.trans (bw.mono r.size);have be:=bd.drop f;have q0:=Bk be.box 0 (V fo fn fc) rfl;have am:=aZ.trans (bw.mono aZ.size);have x2:wc.cell? ⟨bx,2,I⟩=O (D y.pl.sp.part):=h wc am 2 ad9
     have b8:=Aqq wc 0 (V fo fn fc) ns y.pl.sp.part be.yd (by
      have h1:=Cv List.length a7.out;rw[Ar,<-aP.out,<-bY.out]at h1
      omega)
     replace⟨bw,f,be,am,b8⟩:=H5 bw f be am b8;go_wp2_with fail;refine b8.mono ?_;rintro e wF ⟨iv,rfl,cd,bF⟩;obtain⟨io,il,ic,rfl,-,cc,-⟩:=P5 cd;have bA:=am.trans (bF.mono am.size);have aG:=f.trans (bF.mono f.size);clear q0 x2;have b6:=a7.trans aP.symm;obtain⟨IL,bf⟩:=Ex (B5 vs y.pl.sp.part);have bM:At wF io il IL:=(by have h1:=cc;rw[b6,<-bf]at h1;exact h1);clear cc cd;replace⟨bF,bM,bf,bA,aG,b6⟩:=H6 bF bM bf bA aG b6;go_wp2_with fail;go_loopw [16] (λnv wr=>∃(n:Nat),nv=Z G n/\n<=y.gn/\Hid (BW wF.heap.size wF wr)) (λnv _=>y.gn-(intOf nv).toNat)
     case atStart=>exact⟨0,rfl,As _,Below.refl _ _⟩
     case round=>
      rename WD=>wn
      obtain⟨n,rfl,hn,ac⟩:=hrel;have l:=bA.trans (ac.mono bA.size);have d:=aG.trans (ac.mono aG.size);by_cases cP:n<y.gn
      .have ci:(n:Int)<y.gn:=ao9;have cU:(0:Int)<=(n:Int):=ao9;have bo:=aH.ah.len;have aY:=aH.ah.max;obtain⟨v,hv⟩:=Ge y.pl.ah n ao9;obtain⟨gb,go,aW,cj,a4⟩:=aH.ah.cell n v hv;have c1:=(Af d cj).trans a4;have aI:I0 IL v=true:=Ye.2 (by rw[bf.out];exact aB.od v (Ai hv));have aC:=A2y bM.out ac.out aI (ic:=ic);have x20:wn.cell? ⟨bx,20,I⟩=O (V (O ⟨gb,go,I⟩) y.gn y.gc):=(by rw[<-aW];exact h.out wn l 20 ad9);by_cases cV:0<n
       .obtain ⟨u,hu⟩:=Ge y.pl.ah (n-1) ao9;obtain⟨cM,cN,bI,bU,a5⟩:=aH.ah.cell (n-1) u hu;rw[aW]at bI;injection bI with e1;injection e1 with e1 e2;subst e1 e2;have c2:=(Af d bU).trans a5;have bB:¬v<=u:=(by obtain⟨p1,q1⟩:=An.1 hu;obtain⟨p2,q2⟩:=An.1 hv;have h1:=L1.1 aB.aw (n-1) n p1 p2 ao9;rw[q1,q2]at h1;omega);have cX:IntKind.i64.wrap ((n:Int)-1)=((n-1:Nat):Int):=(by rw[D4 _ ao9];omega);have cQ:((n-1:Nat):Int)<y.gn:=ao9;have cW:(0:Int)<=((n-1:Nat):Int):=ao9;have cD:(0:Int)<(n:Int):=ao9;replace⟨hu,hv,a4,a5,bo,aY,aW,aC⟩:=H8 hu hv a4 a5 bo aY aW aC;replace⟨aI,l,d⟩:=H3 aI l d;go_upto_region 28 with fail;go_quiet ((go_at_call 26;(with_reducible exact Gg (aC.out _))));rename_i nq;have av:=ac.trans ((A4 _ wn nq).mono ac.size);have cy:=aY.out;replace av:=Hh av;go_wp2_with fail;go_roundw
        case rel=>exact⟨n+1,by go_num,ao9,av.out⟩
        case measure=>simp[intOf];omega
       .have cD:¬(0:Int)<(n:Int):=ao9;replace⟨hv,a4,bo,aY,aW,aC,aI,l⟩:=H8 hv a4 bo aY aW aC aI l;replace d:=Hh d;go_upto_region 28 with fail;go_quiet ((go_at_call 26;(with_reducible exact Gg (aC.out _))));rename_i nq;have av:=ac.trans ((A4 _ wn nq).mono ac.size);have cy:=aY.out;replace av:=Hh av;go_wp2_with fail;go_roundw
        case rel=>exact⟨n+1,by go_num,ao9,av.out⟩
        case measure=>simp[intOf];omega
      .have ci:¬(n:Int)<y.gn:=ao9;have x20:wn.cell? ⟨bx,20,I⟩=O (V y.go y.gn y.gc):=h wn l 20 ad9;have x19:wn.cell? ⟨bx,19,I⟩=O (Z G y.pl.start):=h wn l 19 ad9;have x3:wn.cell? ⟨bx,3,I⟩=O (Z G y.pl.sp.nodes):=h wn l 3 ad9;have ca:wn.cell? ⟨bx,14,I⟩=O (Z G y.pl.lf.st):=h wn l 14 ad9;have x21:wn.cell? ⟨bx,21,I⟩=O (V y.po y.pn y.pc):=h wn l 21 ad9;have kv:=λW=>A2v y.pl.lf.st aB.st W;have ap:=aB.start;rw[aH.ah.len]at ap;have ao:=aB.parts;have an:=aH.pn;by_cases g1:0<=y.pl.start
       .have d2:((y.gn:Int) == y.pl.sp.nodes)=true:=(by simpa using ap.1 g1);by_cases g3:cu y.pl.lf.st=true
        .rw [g3]at kv;have g4:0<y.pn:=(by have h1:=ao.1 g3;rw[an];exact Wm.2 h1);replace⟨g3,kv,l,d,ap,ao,an⟩:=H7 g3 kv l d ap ao an;go_upto_region 30 with fail;go_quiet ((go_at_call 27;(with_reducible exact Gg (kv.out _))));rename_i nq;have a:=d.trans ((A4 _ wn nq).mono d.size);replace a:=Hh a;go_wp2_with fail;go_roundw
         case rel=>exact⟨k+1,by go_num,ao9,a.out⟩
         case measure=>simp[intOf];omega
        .have g6:cu y.pl.lf.st=false:=(by simpa using g3);rw[g6]at kv
         have g4:¬0<y.pn:=by have h1:¬y.pl.parts≠[]:=λc=>g3 (ao.2 c);have h2:=Gv h1;rw[an,h2];simp
         replace⟨g3,g6,kv,l,d,ap,ao,an⟩:=H8 g3 g6 kv l d ap ao an;go_upto_region 30 with fail;go_quiet ((go_at_call 27;(with_reducible exact Gg (kv.out _))));rename_i nq;have a:=d.trans ((A4 _ wn nq).mono d.size);replace a:=Hh a;go_wp2_with fail;go_roundw
         case rel=>exact⟨k+1,by go_num,ao9,a.out⟩
         case measure=>simp[intOf];omega
       .have d2:((y.gn:Int) == y.pl.sp.nodes)=false:=by simpa using λc=>g1 (ap.2 c)
        by_cases g3:cu y.pl.lf.st=true
        .rw [g3]at kv;have g4:0<y.pn:=(by have h1:=ao.1 g3;rw[an];exact Wm.2 h1);replace⟨g3,kv,l,d,ap,ao,an⟩:=H7 g3 kv l d ap ao an;go_upto_region 30 with fail;go_quiet ((go_at_call 27;(with_reducible exact Gg (kv.out _))));rename_i nq;have a:=d.trans ((A4 _ wn nq).mono d.size);replace a:=Hh a;go_wp2_with fail;go_roundw
         case rel=>exact⟨k+1,by go_num,ao9,a.out⟩
         case measure=>simp[intOf];omega
        .have g6:cu y.pl.lf.st=false:=(by simpa using g3);rw[g6]at kv
         have g4:¬0<y.pn:=by have h1:¬y.pl.parts≠[]:=λc=>g3 (ao.2 c);have h2:=Gv h1;rw[an,h2];simp
         replace⟨g3,g6,kv,l,d,ap,ao,an⟩:=H8 g3 g6 kv l d ap ao an;go_upto_region 30 with fail;go_quiet ((go_at_call 27;(with_reducible exact Gg (kv.out _))));rename_i nq;have a:=d.trans ((A4 _ wn nq).mono d.size);replace a:=Hh a;go_wp2_with fail;go_roundw
         case rel=>exact⟨k+1,by go_num,ao9,a.out⟩
         case measure=>simp[intOf];omega
    .have ch:¬(k:Int)<jl:=ao9;have a2:=aM.drop p.out;have bL:=bd.drop p.out;replace⟨a2,bL⟩:=H2 a2 bL;go_wp2_with fail;go_roundw
     case rel=>exact⟨i+1,T',wA.heap.size,wJ.heap.size,L',jo,jc,by rw[<-aE.out],by go_num,ao9,by rw[<-aE.out];exact bs,aV,by rw[<-aE.out];exact a2,bL⟩
     case measure=>simp[intOf];omega
  .have cv:¬(i:Int)<m:=ao9;have f:=b1.trans (hF.di.low.mono b1.size);replace⟨f,aQ⟩:=H2 f aQ;go_wp2_with fail;go_ret;exact⟨rfl,f.out⟩
