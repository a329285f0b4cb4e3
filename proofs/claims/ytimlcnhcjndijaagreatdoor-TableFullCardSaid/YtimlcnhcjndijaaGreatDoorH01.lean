/- Parts of a proof. No condition. -/
import Derived.Test.YtimlcnhcjndijaaGreatDoorH00
import Derived.Test.YtimlcnhcjndijaaGreatDoorProg
import Derived.WalkLawsBesides
import Derived.WalkSpells
import Derived.Lib.Hide
import Derived.BigQuiet
set_option linter.all false
set_option maxRecDepth 100000
set_option maxHeartbeats 6400000
namespace Go.Proofs.YtimlcnhcjndijaaGreatDoor
open IntKind renaming i64->G
open Value renaming int->Z,slice->V,bool->Y,string->E,pointer->K,tuple->D
open Option renaming none->I,some->O
open Obj renaming cells->J
open Ending renaming returned->Q
open Go renaming World->WD,Value->VL,Calls->CS
open Go.RowKit renaming Below->BW
open Go.Proofs.Tryz
section
open Go.RowKit Go.Maps Go.Lib
def Hh{p:Prop}(h:p):Go.RowKit.Hid p:=h
def Ln{n:Nat}:n<=n:=Nat.le_refl _
def Ex{α:Sort _}(a:α):∃x,x=a:=⟨_,rfl⟩
def Bn{w:WD}{o:Obj}:BW w.heap.size w (w.alloc o):=(Below.refl _ _).alloc Ln _
abbrev Jz:Array VL:=#[Z G 0,E ⟨#[]⟩,E ⟨#[]⟩,Z G 0,Z G 0,Z G 0,Z G 0,Z G 0,Z G 0,Z G 0,Z G 0,Z G 0,Y false,V I 0 0,Z G 0,Z G 0,Z G 0,Y false,Y false,Z G 0,V I 0 0,V I 0 0]
def H2{pa pb:Prop}(a:pa)(b:pb):Go.RowKit.Hid pa/\Go.RowKit.Hid pb:=⟨a,b⟩
def H3{pa pb pc:Prop}(a:pa)(b:pb)(c:pc):Go.RowKit.Hid pa/\Go.RowKit.Hid pb/\Go.RowKit.Hid pc:=⟨a,b,c⟩
def H4{pa pb pc pd:Prop}(a:pa)(b:pb)(c:pc)(d:pd):Go.RowKit.Hid pa/\Go.RowKit.Hid pb/\Go.RowKit.Hid pc/\Go.RowKit.Hid pd:=⟨a,b,c,d⟩
def H5{pa pb pc pd pe:Prop}(a:pa)(b:pb)(c:pc)(d:pd)(e:pe):Go.RowKit.Hid pa/\Go.RowKit.Hid pb/\Go.RowKit.Hid pc/\Go.RowKit.Hid pd/\Go.RowKit.Hid pe:=⟨a,b,c,d,e⟩
def H6{pa pb pc pd pe pf:Prop}(a:pa)(b:pb)(c:pc)(d:pd)(e:pe)(f:pf):Go.RowKit.Hid pa/\Go.RowKit.Hid pb/\Go.RowKit.Hid pc/\Go.RowKit.Hid pd/\Go.RowKit.Hid pe/\Go.RowKit.Hid pf:=⟨a,b,c,d,e,f⟩
def H7{pa pb pc pd pe pf pg:Prop}(a:pa)(b:pb)(c:pc)(d:pd)(e:pe)(f:pf)(g:pg):Go.RowKit.Hid pa/\Go.RowKit.Hid pb/\Go.RowKit.Hid pc/\Go.RowKit.Hid pd/\Go.RowKit.Hid pe/\Go.RowKit.Hid pf/\Go.RowKit.Hid pg:=⟨a,b,c,d,e,f,g⟩
def H8{pa pb pc pd pe pf pg ph:Prop}(a:pa)(b:pb)(c:pc)(d:pd)(e:pe)(f:pf)(g:pg)(h:ph):Go.RowKit.Hid pa/\Go.RowKit.Hid pb/\Go.RowKit.Hid pc/\Go.RowKit.Hid pd/\Go.RowKit.Hid pe/\Go.RowKit.Hid pf/\Go.RowKit.Hid pg/\Go.RowKit.Hid ph:=⟨a,b,c,d,e,f,g,h⟩
def Ge{α:Type _}(l:List α)(k:Nat)(h:k<l.length):∃x,l[k]?=O x:=⟨_,List.getElem?_eq_getElem h⟩
def Az:=@List.getElem?_eq_getElem
def Ai:=@List.mem_of_getElem?
def Ab:=@if_neg
def Ap:=@List.getElem?_eq_some_iff
def Ad:=@if_pos
def Ca:=@congrArg
def Av:=@List.length_append
def An:=@bodyPost_ret
def As:=@List.length_map
def Ar:=@Nat.zero_le
def Bl:=@World.cell?_of_block
def Bh:=@beq_eq_false_iff_ne
def Aw:=@Nat.le_trans
def Bm:=@List.getElem?_map
def B4:=@Nat.lt_of_lt_of_le
def A7:=@List.mem_map
def Dd:=@List.take_of_length_le
def Ci:=@Below.heap_setCell
def Bz:=@decide_eq_false
def Bs:=@decide_eq_true
def Dj:=@List.mem_cons_of_mem
def Dk:=@List.getElem?_of_mem
def Es:=@List.getElem?_append_left
def Fu:=@underlying9
def Kr:=@underlying3
def Do:=@List.getElem?_set
def Gb:=@List.getElem?_append_right
def C7:=@List.mem_append
def Cn:=@Below.setCell
def Fv:=@List.length_eq_zero_iff
def Dl:=@List.length_set
def Ef:=@List.mem_cons_self
def Dt:=@List.length_take
def Eg:=@List.ext_getElem?
def D7:=@Bool.and_eq_true
def D8:=@List.length_cons
def Fc:=@List.getElem?_modify
def B6:=@info_parts
def Dw:=@List.map_append
def Fw:=@World.ownsRow.cellAt
def Is:=@Classical.byContradiction
def De:=@List.map_map
def Dm:=@Nat.zero_add
def Fd:=@List.append_assoc
def Df:=@Int.le_refl
def Gc:=@List.mem_singleton
def Nx:=@underlying31
def Al5:=@underlying4
def Eh:=@List.mem_cons
def E0:=@IntWalk.i64_in
def Gd:=@Below.heap_alloc
def A2d:=@zeroValue3
def A2e:=@zeroValue4
def It:=@List.mem_map_of_mem
def D9:=@Nat.le_succ
def A2f:=@underlying0
def G9:=@of_decide_eq_true
def Ia:=@Function.comp_def
def A2g:=@zeroValue0
def Iu:=@decide_eq_true_eq
def Ny:=@Array.getElem?_setIfInBounds
def A2h:=@sizeOf3
def Iv:=@List.length_drop
def Ib:=@List.length_nil
def Jl:=@Bool.eq_false_iff
def Lp:=@List.getElem?_toArray
def A2i:=@sizeOf4
def Ks:=@Calls.quiet_of_same
def J6:=@wpList_append_own
def J7:=@Int.toNat_natCast
def A2j:=@isAgg3
def A2k:=@isAgg4
def Ic:=@List.map_cons
def A2l:=@sizeOf0
def Nz:=@underlying79
def Ot:=@List.pairwise_iff_getElem
def Ms:=@List.mem_of_mem_take
def Lq:=@List.length_modify
def Lr:=@List.getElem?_take
def Ls:=@underlying361
def A2m:=@zeroValue9
def J8:=@Option.map_some
def Kt:=@World.size_alloc
def Ku:=@List.any_eq_true
def Kv:=@List.getElem_mem
def N0:=@List.length_filter_le
def A2n:=@isAgg0
def Vm:=@underlying67
def Iw:=@Nat.succ_pos
def Gf:=@bne_iff_ne
def Zd:=@underlying5
def Ou:=@Option.map_eq_some_iff
def Ov:=@World.frozen?_of_block
def Mt:=@List.take_add_one
def Mu:=@World.ownsRow_nil
def Lu:=@Exit.noGoto_ret
def A2o:=@underlying230
def A2p:=@zeroValue31
def Mv:=@wpList_store_row
def A2q:=@sizeOf9
def A2r:=@zeroValue230
def N1:=@List.foldl_append
def Rf:=@Array.getElem?_eq_getElem
def Mw:=@Nat.min_eq_left
def Kw:=@callsIn_wide
def Ow:=@List.filter_append
def Ox:=@List.pairwise_cons
def Rg:=@List.eq_of_mem_replicate
def A2s:=@isAgg9
def My:=@run_underlying
def Pw:=@List.mem_iff_getElem
def N3:=@List.append_nil
def N4:=@Option.some.inj
def N5:=@List.mem_filter
def Px:=@List.length_take_le
def Kx:=@Nat.add_mul
def Th:=@Array.getElem?_eq_some_iff
def A2t:=@sizeOf31
def Oy:=@List.take_length
def A2u:=@sizeOf230
def A2v:=@underlying286
def Py:=@List.getElem?_drop
def Rh:=@List.getElem?_eq_none
def Lv:=@setRow_heap
def A2w:=@zeroValue5
def A2x:=@isAgg31
def Oz:=@List.nil_append
def Mz:=@List.map_set
def Ri:=@wpList_append_own_at
def M0:=@ntmps31
def A2y:=@zeroValue286
def Pz:=@List.flatMap_cons
def A2z:=@isAgg230
def N6:=@ntmps160
def A20:=@zeroValue67
def P1:=@List.cons_append
def P2:=@World.ownsRow.lt
def M1:=@rounds_succ
def M3:=@func31
def A21:=@underlying229
def Rj:=@Nat.lt_or_gt_of_ne
def N7:=@func160
def Rk:=@List.find?_eq_none
def Rl:=@of_decide_eq_false
def P3:=@Nat.not_lt_zero
def P4:=@Bool.eq_iff_iff
def Ti:=@List.take_append_drop
def Vn:=@Array.getElem?_append_left
def A22:=@zeroValue229
def Rm:=@List.nodup_append
def Rn:=@underlying46
def Vo:=@List.mem_or_eq_of_mem_set
def M5:=@beq_iff_eq
def Tj:=@List.pairwise_append
def Ze:=@List.findIdx?_eq_some_iff_getElem
def A23:=@sizeOf286
def A24:=@sizeOf5
def Vp:=@WideMaps.keyOf_string_mk
def Ro:=@List.not_mem_nil
def O0:=@Nat.add_zero
def Vq:=@World.block_lt_of_cell?
def A25:=@sizeOf67
def A26:=@isAgg286
def Tk:=@List.mem_mergeSort
def A27:=@isAgg5
def Vr:=@List.find?_cons_of_neg
def Tl:=@underlying52
def Tm:=@List.size_toArray
def Vs:=@Array.getElem?_modify
def A28:=@isAgg67
def A29:=@sizeOf229
def Ky:=@if_true
def Vt:=@List.length_replicate
def Vu:=@List.length_singleton
def Vv:=@List.modify_succ_cons
def Vw:=@List.countP_le_length
def Vx:=@List.length_mergeSort
def P5:=@List.set_set
def Vy:=@Lib.byteCells_length
def A3a:=@isAgg229
def Rp:=@ntmps100
def Zf:=@List.getD_eq_getElem?_getD
def Rq:=@Prod.mk.injEq
def P6:=@Nat.mul_one
def Vz:=@List.map_congr_left
def Tn:=@List.find?_some
def V0:=@UInt8.toNat_ofNat'
def Rr:=@List.map_nil
def Rs:=@Nat.le_of_lt
def V8:=@List.set_cons_succ
def Rt:=@func100
def V9:=@underlying364
def Wa:=@List.mem_replicate
def Zg:=@underlying328
def Zh:=@underlying108
def M7:=@dif_pos
def To:=@wp_loop_rounds
def Tp:=@List.Perm.refl
def Wb:=@Option.some.injEq
def Zi:=@List.toArray_replicate
def Wc:=@Array.toList_inj
def Wd:=@List.all_eq_true
def We:=@List.countP_cons
def Zj:=@List.Perm.append_left
def Tq:=@Addr.add_lit
def Zk:=@Nat.mul_le_mul_right
def Zl:=@wpList_mapUpdate_own
def Zm:=@Array.replicate_succ
def Zn:=@Array.replicate_zero
def Tr:=@setRow_other
def Wf:=@wpList_load_row
def Wg:=@List.range_succ
def Wh:=@List.foldl_cons
def Ts:=@ntmps99
def Zo:=@List.append_toArray
def Zp:=@List.length_pos_iff
def Zq:=@List.filter_sublist
def Wi:=@List.take_zero
def Wj:=@List.take_take
def Wk:=@size_zeroCells
def Wl:=@List.mem_range
def Tt:=@grownCap_ge
def Tu:=@func99
def A3b:=@underlying168
def A3c:=@underlying279
def A3d:=@underlying280
def A3e:=@underlying340
def A3f:=@underlying181
def A3g:=@underlying377
def A3h:=@underlying378
def Zr:=@World.ownsMap_made
def Zs:=@underlying217
def Zt:=@grownCap_le_maxLen
def Zu:=@List.findIdx?_cons
def Wm:=@Bool.and_self
def Wn:=@ntmps126
def Wo:=@ntmps212
def Wp:=@ntmps276
def A3i:=@underlying20
def A3j:=@zeroValue168
def A3k:=@zeroValue279
def A3l:=@zeroValue280
def A3m:=@zeroValue340
def A3n:=@zeroValue181
def A3o:=@zeroValue377
def A3p:=@zeroValue378
def Zv:=@List.push_toArray
def Zw:=@List.length_range
def Zx:=@underlying44
def Tw:=@func8
def P7:=@Ne.symm
def Wq:=@func126
def A3q:=@zeroValue20
def A3r:=@zeroValue79
def Ru:=@or_false
def Rv:=@run_make
def Zy:=@IntKind.wrap_u64
def Wr:=@func212
def Ws:=@func276
def Wt:=@Int.le_trans
def Zz:=@Bool.not_eq_true
def Wu:=@ntmps85
def Z0:=@List.of_mem_zip
def Wv:=@func85
structure V4 where
 a:Int
 b:Int
 c:Int
 d:Int
deriving DecidableEq
def V4.get (v:V4):Nat->Int
 | 0=>v.a
 | 1=>v.b
 | 2=>v.c
 | _=>v.d
abbrev V4.cells (v:V4):Array VL:=#[Z G v.a,Z G v.b,Z G v.c,Z G v.d]
abbrev V4.val (v:V4):VL:=.agg #[Z G v.a,Z G v.b,Z G v.c,Z G v.d]
def tw {i:Nat} (h:i<4):i=0\/i=1\/i=2\/i=3:=ao9
def Af {B:Nat} {w w':WD} (h:BW B w w') {b o:Nat} (a:b<B):w'.cell? ⟨b,o,I⟩=w.cell? ⟨b,o,I⟩:=h.cell (p:=⟨b,o,I⟩) a
section
variable {w w':WD} {b b' o B:Nat} {c:Array VL} {T:TypeId} {fr:Nat×Nat} {x y:Obj} {v:VL}
def Aa (h:w.heap[b]?=O (J c T fr)) (o:Nat):w.cell? ⟨b,o,I⟩=c[o]?:=by simp[World.cell?,h]
def Ag (h:w.heap[b]?=O (J c T (0,0))) (o:Nat):w.frozen? ⟨b,o,I⟩=false:=by simp[World.frozen?,h]
def Am (h:w.heap[b]?=O (J c T fr)) (o:Nat) (v:VL):(w.setCell ⟨b,o,I⟩ v).heap[b]?=O (J (c.setIfInBounds o v) T fr):=by
 simp[World.setCell,Vs,h]
def Dg (a:b≠b') (v:VL) (h:w.heap[b]?=O x):(w.setCell ⟨b',o,I⟩ v).heap[b]?=O x:=by
 rw[Ci _ _ _ _ a];exact h
def Ac (h:w.heap[b]?=O x):b<w.heap.size:=(Th.1 h).1
def Ah (w:WD) (x:Obj):(w.alloc x).heap[w.heap.size]?=O x:=heap_alloc_new w x
def A2 (w:WD) (x:Obj) (h:b=w.heap.size):(w.alloc x).heap[b]?=O x:=h▸heap_alloc_new w x
def Ak (y:Obj) (h:w.heap[b]?=O x):(w.alloc y).heap[b]?=O x:=(Gd w y b (Ac h)).trans h
def Ae (c:BW B w w') (h:w.heap[b]?=O x) (a:b<B):w'.heap[b]?=O x:=(c.block b a).trans h
def Tx (h:w.heap[b]?=O x):w.drew.heap[b]?=O x:=h
end
def Tz {P:Program} {t e:TypeId} {i:TypeInfo} (d:P.underlying t=O (.slice e)) (f:P.info? e=O i) (b a cap n:Nat) (x:Int) (j:x=n) (g:n<=a) :
  ∃ta,(∀w,(Instr.slice t (V (O ⟨b,0,I⟩) a cap) (O (Z G x)) I I).run P w=.ok (V (O ta) (a-n) (cap-n)) w)/\(n<cap->ta=⟨b,n*i.size,I⟩):=by
 subst j
 have h1:∀(y:Nat) (_:n<=y) c w,(Instr.sliceBound (Z G (n:Int)) y c).run P w=.ok n w:=λy h c w=>by
  simp[Instr.sliceBound,asIntOf,h]
 refine⟨if cap=n then⟨b,0,I⟩else(⟨b,0,I⟩:Addr).add (n*i.size),λw=>?_,λh=>?_⟩
 .simp [Instr.slice,Instr.sliceBounds,My d,h1 a g,sizeOf,typeInfo,f]
  split<;>rfl
 .rw [Ab ao9];unfold Addr.add;split
  .next h=>rw[h]
  .simp
def Iy {F:FuncId} {fn:Func} (h:prog.funcs[F]?=O fn) (b:fn.name≠"runtime.NumGoroutine") (a:fn.body≠I) :
  ∀args w,(callFunc F args).run prog w=.ok (.enter F args) w:=by
 intro args w;simp[callFunc,go_sem,h,b,a]
def Bk{w:WD}{b:Nat}{c:Array VL}{t:Nat}{z:Nat×Nat}(h:w.heap[b]?=O (J c t z))(i:Nat)(v:VL)(e:c[i]?=O v):w.cell? ⟨b,i,I⟩=O v:=(Aa h i).trans e
def C3{w:WD}{b:Nat}{v0 v1 v2:VL}{t:Nat}{z:Nat×Nat}(h:w.heap[b]?=O (J #[v0,v1,v2] t z)):w.cell? ⟨b,0,I⟩=O v0/\w.cell? ⟨b,1,I⟩=O v1/\w.cell? ⟨b,2,I⟩=O v2:=by
 refine⟨?_,?_,?_⟩<;>exact Aa h _
def C5{w:WD}{b:Nat}{v0 v1 v2 v3 v4:VL}{t:Nat}{z:Nat×Nat}(h:w.heap[b]?=O (J #[v0,v1,v2,v3,v4] t z)):w.cell? ⟨b,0,I⟩=O v0/\w.cell? ⟨b,1,I⟩=O v1/\w.cell? ⟨b,2,I⟩=O v2/\w.cell? ⟨b,3,I⟩=O v3/\w.cell? ⟨b,4,I⟩=O v4:=by
 refine⟨?_,?_,?_,?_,?_⟩<;>exact Aa h _
def C10{w:WD}{b:Nat}{v0 v1 v2 v3 v4 v5 v6 v7 v8 v9:VL}{t:Nat}{z:Nat×Nat}(h:w.heap[b]?=O (J #[v0,v1,v2,v3,v4,v5,v6,v7,v8,v9] t z)):w.cell? ⟨b,0,I⟩=O v0/\w.cell? ⟨b,1,I⟩=O v1/\w.cell? ⟨b,2,I⟩=O v2/\w.cell? ⟨b,3,I⟩=O v3/\w.cell? ⟨b,4,I⟩=O v4/\w.cell? ⟨b,5,I⟩=O v5/\w.cell? ⟨b,6,I⟩=O v6/\w.cell? ⟨b,7,I⟩=O v7/\w.cell? ⟨b,8,I⟩=O v8/\w.cell? ⟨b,9,I⟩=O v9:=by
 refine⟨?_,?_,?_,?_,?_,?_,?_,?_,?_,?_⟩<;>exact Aa h _
def C13{w:WD}{b:Nat}{v0 v1 v2 v3 v4 v5 v6 v7 v8 v9 v10 v11 v12:VL}{t:Nat}{z:Nat×Nat}(h:w.heap[b]?=O (J #[v0,v1,v2,v3,v4,v5,v6,v7,v8,v9,v10,v11,v12] t z)):w.cell? ⟨b,0,I⟩=O v0/\w.cell? ⟨b,1,I⟩=O v1/\w.cell? ⟨b,2,I⟩=O v2/\w.cell? ⟨b,3,I⟩=O v3/\w.cell? ⟨b,4,I⟩=O v4/\w.cell? ⟨b,5,I⟩=O v5/\w.cell? ⟨b,6,I⟩=O v6/\w.cell? ⟨b,7,I⟩=O v7/\w.cell? ⟨b,8,I⟩=O v8/\w.cell? ⟨b,9,I⟩=O v9/\w.cell? ⟨b,10,I⟩=O v10/\w.cell? ⟨b,11,I⟩=O v11/\w.cell? ⟨b,12,I⟩=O v12:=by
 refine⟨?_,?_,?_,?_,?_,?_,?_,?_,?_,?_,?_,?_,?_⟩<;>exact Aa h _
end
section
open Go.RowKit Go.Maps Go.Lib
structure Lf where
 st:Int
 bp:Int
 left:Int
 wall:Bool
 stop:Bool
deriving DecidableEq
def Lf.zero:Lf:=⟨0,0,0,false,false⟩
def jz (s:Int):Bool:=decide (5<=s) && decide (s<=8)
def di (s:Int):Bool:=decide (s=3) || decide (s=4)
def ei (s:Int):Bool:=decide (s=1) || decide (s=2)
def Et (s:Int):Int:=if ei s=true then 5 else 6
def Kz (l:Lf):Bool:=
 decide (1<=l.st) && decide (l.st<=8) && decide (0<=l.bp) && decide (0<=l.left) && decide (l.bp<=Et l.st) && decide (l.left<=Et l.st-l.bp)
  && !(decide (l.bp=0) && (di l.st || jz l.st && decide (l.st≠8))) && (decide (l.st=4) || !l.wall && !l.stop)
def J9 (ae:Int) (held:Bool):Lf×Int:=
 if ae<0\/5<ae then(Lf.zero,1)else(⟨if held=true then 2 else 1,0,ae,false,false⟩,0)
def N8 (l:Lf):Lf:=
 if l.stop=true then⟨8,l.bp,l.left,false,false⟩else if l.wall=true then⟨6,l.bp,l.left,false,false⟩
 else if 0<l.left then⟨1,l.bp,l.left-1,false,false⟩else⟨7,l.bp,l.left,false,false⟩
def Ei (l:Lf) (s:Int):Lf×Bool:=
 if l.st=1/\s=1 then(⟨2,l.bp,l.left,l.wall,l.stop⟩,true)
 else if l.st=2/\s=2 then(⟨1,l.bp,l.left,l.wall,l.stop⟩,true)
 else if l.st=1/\s=3 then(⟨3,l.bp+1,l.left,l.wall,l.stop⟩,true)
 else if s=6\/s=7 then(⟨8,l.bp,l.left,l.wall,l.stop⟩,true)else(l,false)
def Dh (l:Lf) (s:Int):Lf×Bool:=
 if s=8 then(if l.st=3 then(⟨5,l.bp,l.left,l.wall,l.stop⟩,true)else(N8 l,true))
 else if (s=6/\l.stop=true)\/(s≠6/\s≠4/\s≠5)then(l,false)
 else(⟨4,l.bp,l.left,l.wall || decide (s=4),l.stop || decide (s=6)⟩,true)
def Ay (l:Lf) (s:Int):Lf×Int:=
 if Kz l=false then(Lf.zero,1)
 else if ei l.st=true then(if (Ei l s).2=true then((Ei l s).1,0)else(Lf.zero,100))
 else if di l.st=true then(if (Dh l s).2=true then((Dh l s).1,0)else(Lf.zero,100))
 else(Lf.zero,100)
def oz (x:Int):Bool:=decide (0<=x) && decide (x<=1073741824)
def V4.right (v:V4):Bool:=oz v.a && oz v.b && oz v.c && oz v.d
def V4.fits (u v:V4):Bool:=decide (u.a<=v.a) && decide (u.b<=v.b) && decide (u.c<=v.c) && decide (u.d<=v.d)
def Adu (F:FuncId) (l:Array VL) (p:Nat->Bool) (w:WD)
  (hF:∀args w,(callFunc F args).run prog w=.ok (.enter F args) w)
  (H:∀(i:Nat) (w1:WD),i<4->BW w.heap.size w w1->CS prog F (#[Z G i]++l) w1 λe m=>e=Q (Y (p i))/\BW w.heap.size w1 m) :
  CS prog 109 #[.func (.func F) #[] l] w λe w'=>e=Q (Y (p 0 && p 1 && p 2 && p 3))/\BW w.heap.size w w':=by
 have n:=Hh H;clear H;go_enter func109,ntmps109;go_wp2;go_loopw [3,4] (λ_ i wr=>∃k:Nat,k<=4/\i=Z G k/\BW w.heap.size w wr/\(∀j:Nat,j<k->p j=true)) (λ_ i _=>4-(intOf i).toNat)
 case atStart=>exact⟨0,ao9,rfl,Below.refl _ _,ao9⟩
 case round=>
  obtain⟨k,s,rfl,g,c⟩:=hrel;have f:=Hh c;clear c;by_cases o:k<4
  .have q:(k:Int)<4:=ao9;go_wp2_with fail;refine(n.out k _ o g).mono ?_;rintro e m ⟨rfl,d⟩;cases a:p k
   .have b:=Hh a;clear a;go_wp2;go_ret;refine⟨?_,g.trans d⟩;have a:=b.out
    have:(p 0 && p 1 && p 2 && p 3)=false:=by rcases(show k=0\/k=1\/k=2\/k=3 by omega)with rfl|rfl|rfl|rfl<;>simp[a]
    rw[this];rfl
   .have b:=Hh a;clear a;go_wp2;go_roundw
    case rel=>
     refine⟨k+1,ao9,by go_num,g.trans d,?_⟩;intro j r;by_cases h:j=k
     .subst h;exact b.out
     .exact f.out j ao9
    case measure=>simp[intOf];omega
  .have q:¬(k:Int)<4:=ao9;go_wp2;go_ret;refine⟨?_,g⟩;have c:=f.out;rw[c 0 ao9,c 1 ao9,c 2 ao9,c 3 ao9];rfl
def Al6:∀args w,(callFunc 208 args).run prog w=.ok (.enter 208 args) w:=Iy func208 ad9 (by simp[f208])
def Al7 (v:V4) (b:Nat) (i:Nat) (B:Nat) (w:WD) (k:i<4)
  (h0:w.cell? ⟨b,0,I⟩=O (Z G v.a)) (h1:w.cell? ⟨b,1,I⟩=O (Z G v.b)) (m:w.cell? ⟨b,2,I⟩=O (Z G v.c)) (n:w.cell? ⟨b,3,I⟩=O (Z G v.d)) :
  CS prog 208 (#[Z G i]++#[K (O ⟨b,0,I⟩)]) w λe w'=>e=Q (Y (oz (v.get i)))/\BW B w w':=by
 have g:∀x:Int,x<0->oz x=false:=by intro x j;simp[oz];omega
 have f:∀x:Int,0<=x->oz x=decide (x<=1073741824):=by intro x j;simp[oz,j]
 have l:=Hh g;have h:=Hh f;clear g f;rcases tw k with rfl|rfl|rfl|rfl
 all_goals
  go_enter func208,ntmps208;go_wp2
  all_goals
   go_ret;refine⟨?_,Below.refl _ _⟩;simp only[V4.get]
   first
    | (rw[l.out _ (by assumption)];rfl)
    | (rw[h.out _ (by assumption)];rfl)
def Iz (v:V4) (w:WD) :
  CS prog 152 #[v.val] w λe w'=>e=Q (Y v.right)/\BW w.heap.size w w':=by
 go_enter func152,ntmps152;go_wp2_with fail;refine(Adu 208 _ (λi=>oz (v.get i)) _ Al6 ?_).mono ?_
 .intro i w1 d c;have a:∀j,w1.cell? ⟨w.heap.size,j,I⟩=_:=λj=>Af (o:=j) c as9;exact Al7 v w.heap.size i _ w1 d (by rw[a];simp) (by rw[a];simp) (by rw[a];simp) (by rw[a];simp)
 .rintro e f ⟨rfl,b⟩;go_wp2;go_ret;exact⟨rfl,Bn.trans (b.mono as9)⟩
def Al8:∀args w,(callFunc 110 args).run prog w=.ok (.enter 110 args) w:=Iy func110 ad9 (by simp[f110])
def Al9 (u v:V4) (c d:Nat) (i:Nat) (B:Nat) (w:WD) (o:i<4)
  (a:w.heap[c]?=O (J u.cells 30 (0,0))) (b:w.heap[d]?=O (J v.cells 30 (0,0))) :
  CS prog 110 (#[Z G i]++#[K (O ⟨c,0,I⟩),K (O ⟨d,0,I⟩)]) w λe w'=>e=Q (Y (decide (u.get i<=v.get i)))/\BW B w w':=by
 have f:=Aa a 0;have g:=Aa a 1;have h:=Aa a 2;have j:=Aa a 3;have k:=Aa b 0;have l:=Aa b 1;have m:=Aa b 2;have n:=Aa b 3;simp at f g h j k l m n;clear a b;rcases tw o with rfl|rfl|rfl|rfl
 all_goals
  go_enter func110,ntmps110;go_wp2;go_quiet (fail);go_wp2;go_ret;exact⟨rfl,⟨rfl,rfl,rfl,Nat.le_refl _,λ_ _=>rfl⟩⟩
def Ww (u v:V4) (w:WD) :
  CS prog 65 #[u.val,v.val] w λe w'=>e=Q (Y (u.fits v))/\BW w.heap.size w w':=by
 go_enter func65,ntmps65;go_wp2_with fail;refine(Adu 110 _ (λi=>decide (u.get i<=v.get i)) _ Al8 ?_).mono ?_
 .intro i w1 c b;exact Al9 u v w.heap.size (w.heap.size+1) i _ w1 c (Ae b (Ak _ (Ah _ _)) (by simp;omega)) (Ae b (A2 _ _ as9) as9)
 .rintro e d ⟨rfl,a⟩;go_wp2;go_ret;exact⟨rfl,(Bn.alloc as9 _).trans (a.mono (by simp;omega))⟩
def V4.zero:V4:=⟨0,0,0,0⟩
def V4.told (v:V4) (e:Int):V4×Int:=if v.right=true then(v,0)else(V4.zero,e)
def Z1 (v:V4) (e:Int) (w:WD) :
  CS prog 127 #[v.val,Z G e] w λe' w'=>e'=Q (D #[(v.told e).1.val,Z G (v.told e).2])/\BW w.heap.size w w':=by
 go_enter func127,ntmps127;go_wp2_with fail;refine(Iz v _).mono ?_;rintro e k ⟨rfl,a⟩;have g:=Ae a (A2 (b:=w.heap.size+1) _ _ as9) as9;have f:=Aa g;have j:=Ag g;have d:=Ae a (Ak _ (Ah _ _)) (by simp;omega);have i:=Aa d;clear g d;have h:=(Bn.alloc as9 _).trans (a.mono (by simp;omega));cases hr:v.right
 all_goals
  have c:=Hh hr;clear hr;go_wp2;refine An (v:=D #[(v.told e).1.val,Z G (v.told e).2]) (by simp[results,results127,go_sem,f,V4.told,c.out,V4.zero]) rfl ⟨rfl,?_⟩;refine Cn ?_ as9 _;refine Cn ?_ as9 _;refine Cn ?_ as9 _;refine Cn ?_ as9 _;exact h
def ft (s:ByteArray) (k:Nat):Int:=((s.data.toList.getD k 0).toNat:Int)
def K0 (c:Int):Bool:=(decide (97<=c) && decide (c<=122)) || (decide (48<=c) && decide (c<=57)) || decide (c=45)
def I0 (s:ByteArray):Nat->Bool
 | 0=>true
 | k+1=>I0 s k && K0 (ft s k)
def C1 (s:ByteArray):Bool:=decide (1<=s.size) && decide (s.size<=16) && I0 s s.size
def Ama {s:ByteArray} {k n:Nat} (h:I0 s n=true) (a:k<=n):I0 s k=true:=by
 induction n with
 | zero=>
  have:k=0:=ao9
  subst this;rfl
 | succ n ih=>
  simp only[I0,D7]at h;by_cases c:k=n+1
  .subst c;simp[I0,h]
  .exact ih h.1 ao9
def Z2 {s:ByteArray} {k:Nat} (a:k<s.size) (h:K0 (ft s k)=false):I0 s s.size=false:=by
 rw[Jl];intro c;have:=Ama c (show k+1<=s.size by omega);simp[I0,h]at this
def Z3 {P:Program} {t:TypeId} (h:P.underlying t=O .string) (s:ByteArray) (k:Nat) (i:Int) (c:i=k) (d:k<s.size) (w:WD):(Instr.index t (E s) (Z G i)).run P w=.ok (Z .u8 (ft s k)) w:=by
 subst c;rw[run_index_string w t s G k h,M7 ⟨ao9,ao9⟩]
 have e:s[((k:Int)).toNat]'(by omega)=s.data.toList.getD k 0:=by
  have b:k<s.data.size:=d;have a:s.data.toList.getD k 0=s.data.toList[k]:=by simp only[List.getD,Array.getElem?_toList,Array.getElem_toList];rw[Rf b];rfl
  rw[a];rfl
 rw[e];rfl
def Amb (c:Int):(K0 c=true/\((97<=c/\c<=122)\/(48<=c/\c<=57)\/c=45))\/(K0 c=false/\((c<48/\c≠45)\/(57<c/\c<97)\/122<c)):=by
 by_cases h:(97<=c/\c<=122)\/(48<=c/\c<=57)\/c=45
 .exact .inl ⟨by unfold K0;simp;omega,h⟩
 .refine .inr ⟨?_,ao9⟩;rw[Jl];intro a;unfold K0 at a;simp at a;omega
def Wy (s:ByteArray) (w:WD) (hs:s.size<=maxLen):CS prog 78 #[E s] w λe w'=>e=Q (Y (C1 s))/\BW w.heap.size w w':=by
 have q:∀(k:Nat),k<s.size->∀w,(Instr.index 9 (E s) (Z G (k:Int))).run prog w=.ok (Z .u8 (ft s k)) w:=λk hk w=>Z3 Fu s k k rfl hk w;have ad:s.size<=9223372036854775807:=hs;replace q:=Hh q;go_enter func78,ntmps78;go_wp2;go_loopw [3,4,7] (λ_ _ i wr=>∃k:Nat,i=Z G k/\k<=s.size/\Hid (I0 s k=true)/\Hid (BW w.heap.size w wr)) (λ_ _ i _=>s.size-(intOf i).toNat)
 case atStart=>exact⟨0,rfl,Ar _,rfl,Below.refl _ _⟩
 case round=>
  obtain⟨k,rfl,hk,v,n⟩:=hrel;by_cases o:k<s.size
  .have x:(k:Int)<s.size:=ao9;have z:=q.out k o;obtain⟨c,l⟩:=Ex (ft s k);rw[<-l]at z;have y:=Amb c;rcases y with⟨a,h|h|h⟩|⟨a,h|h|h⟩
   .have m:decide (c<97)=false:=(by simp;omega);have p:decide (122<c)=false:=(by simp;omega);have r:decide (c<48)=false:=(by simp;omega);have t:decide (57<c)=true:=by simp;omega
    have u:(c != 45)=true:=by simp;try omega
    have b:K0 (ft s k)=true:=(by rw[<-l];exact a);replace⟨l,a,b,h⟩:=H4 l a b h;have f:I0 s (k+1)=true:=(by simp only[I0,v.out,b.out,Wm]);replace f:=Hh f;go_wp2;go_roundw
    case rel=>exact⟨k+1,by go_num,ao9,f.out,n.out⟩
    case measure=>simp[intOf];omega
   .have m:decide (c<97)=true:=(by simp;omega);have p:decide (122<c)=false:=(by simp;omega);have r:decide (c<48)=false:=(by simp;omega);have t:decide (57<c)=false:=by simp;omega
    have u:(c != 45)=true:=by simp;try omega
    have b:K0 (ft s k)=true:=(by rw[<-l];exact a);replace⟨l,a,b,h⟩:=H4 l a b h;have f:I0 s (k+1)=true:=(by simp only[I0,v.out,b.out,Wm]);replace f:=Hh f;go_wp2;go_roundw
    case rel=>exact⟨k+1,by go_num,ao9,f.out,n.out⟩
    case measure=>simp[intOf];omega
   .have m:decide (c<97)=true:=(by simp;omega);have p:decide (122<c)=false:=(by simp;omega);have r:decide (c<48)=true:=(by simp;omega);have t:decide (57<c)=false:=by simp;omega
    have u:(c != 45)=false:=by simp;try omega
    have b:K0 (ft s k)=true:=(by rw[<-l];exact a);replace⟨l,a,b,h⟩:=H4 l a b h;have f:I0 s (k+1)=true:=(by simp only[I0,v.out,b.out,Wm]);replace f:=Hh f;go_wp2;go_roundw
    case rel=>exact⟨k+1,by go_num,ao9,f.out,n.out⟩
    case measure=>simp[intOf];omega
   .have m:decide (c<97)=true:=(by simp;omega);have p:decide (122<c)=false:=(by simp;omega);have r:decide (c<48)=true:=(by simp;omega);have t:decide (57<c)=false:=by simp;omega
    have u:(c != 45)=true:=by simp;try omega
    have d:K0 (ft s k)=false:=(by rw[<-l];exact a);replace⟨l,a,d,h⟩:=H4 l a d h;have j:C1 s=false:=(by unfold C1;rw[Z2 o d.out];simp);replace j:=Hh j;go_wp2;go_ret;exact⟨by rw[j.out];rfl,n.out⟩
   .have m:decide (c<97)=true:=(by simp;omega);have p:decide (122<c)=false:=(by simp;omega);have r:decide (c<48)=false:=(by simp;omega);have t:decide (57<c)=true:=by simp;omega
    have u:(c != 45)=true:=by simp;try omega
    have d:K0 (ft s k)=false:=(by rw[<-l];exact a);replace⟨l,a,d,h⟩:=H4 l a d h;have j:C1 s=false:=(by unfold C1;rw[Z2 o d.out];simp);replace j:=Hh j;go_wp2;go_ret;exact⟨by rw[j.out];rfl,n.out⟩
   .have m:decide (c<97)=false:=(by simp;omega);have p:decide (122<c)=true:=(by simp;omega);have r:decide (c<48)=false:=(by simp;omega);have t:decide (57<c)=true:=by simp;omega
    have u:(c != 45)=true:=by simp;try omega
    have d:K0 (ft s k)=false:=(by rw[<-l];exact a);replace⟨l,a,d,h⟩:=H4 l a d h;have j:C1 s=false:=(by unfold C1;rw[Z2 o d.out];simp);replace j:=Hh j;go_wp2;go_ret;exact⟨by rw[j.out];rfl,n.out⟩
  .have x:¬(k:Int)<s.size:=ao9;have ac:k=s.size:=ao9;subst ac
   have j:C1 s=(decide ((1:Int)<=s.size) && decide ((s.size:Int)<=16)):=by
    unfold C1;rw[v.out,Bool.and_true]
    congr 1<;>exact decide_eq_decide.2 ao9
   by_cases h1:(1:Int)<=s.size
   .have m:decide ((1:Int)<=s.size)=true:=(by simpa using h1);by_cases h2:(s.size:Int)<=16
    .have p:decide ((s.size:Int)<=16)=true:=(by simpa using h2);have g:C1 s=true:=(by rw[j,m,p];rfl);replace⟨j,g⟩:=H2 j g;go_wp2;go_ret;exact⟨by rw[g.out];rfl,n.out⟩
    .have p:decide ((s.size:Int)<=16)=false:=(by simpa using h2);have g:C1 s=false:=(by rw[j,m,p];rfl);replace⟨j,g⟩:=H2 j g;go_wp2;go_ret;exact⟨by rw[g.out];rfl,n.out⟩
   .have m:decide ((1:Int)<=s.size)=false:=(by simpa using h1);have g:C1 s=false:=(by rw[j,m];rfl);replace⟨j,g⟩:=H2 j g;go_wp2;go_ret;exact⟨by rw[g.out];rfl,n.out⟩
def Rw (c:Int):Bool:=decide (48<=c) && decide (c<=57)
def Id (s:ByteArray):Nat->Bool
 | 0=>true
 | k+1=>Id s k && Rw (ft s k)
def Fx (s:ByteArray):Nat->Int
 | 0=>0
 | k+1=>10*Fx s k+(ft s k-48)
def Dp (s:ByteArray) (d:Nat):Int:=
 if s.size=0\/d<s.size\/(1<s.size/\ft s 0=48)then -1 else if Id s s.size=true then Fx s s.size else -1
def Amc {s:ByteArray} {k n:Nat} (h:Id s n=true) (a:k<=n):Id s k=true:=by
 induction n with
 | zero=>
  have:k=0:=ao9
  subst this;rfl
 | succ n ih=>
  simp only[Id,D7]at h;by_cases c:k=n+1
  .subst c;simp[Id,h]
  .exact ih h.1 ao9
def Amd {s:ByteArray} {k:Nat} (a:k<s.size) (h:Rw (ft s k)=false):¬Id s s.size=true:=by
 intro c;have:=Amc c (show k+1<=s.size by omega);simp[Id,h]at this
def Wz {c:Int}:Rw c=true↔48<=c/\c<=57:=by simp[Rw]
def Ame {s:ByteArray} {k:Nat} (h:Id s k=true):0<=Fx s k/\Fx s k<10 ^ k:=by
 induction k with
 | zero=>simp[Fx]
 | succ k ih=>
  simp only[Id,D7]at h;obtain⟨h1,a⟩:=ih h.1;obtain⟨b,c⟩:=Wz.1 h.2;rw[Int.pow_succ];simp only[Fx];omega
def Amf {s:ByteArray} {k:Nat} (h:Id s k=true) (b:k<=13):0<=Fx s k/\Fx s k<10000000000000:=by
 obtain⟨h1,a⟩:=Ame h;refine⟨h1,Int.lt_of_lt_of_le a ?_⟩
 rcases(show k=0\/k=1\/k=2\/k=3\/k=4\/k=5\/k=6\/k=7\/k=8\/k=9\/k=10\/k=11\/k=12\/k=13 by omega)with rfl|rfl|rfl|rfl|rfl|rfl|rfl|rfl|rfl|rfl|rfl|rfl|rfl|rfl<;>decide
def Adv (s:ByteArray) (w:WD) (p:s.size<=maxLen):CS prog 126 #[E s] w λe w'=>e=Q (Z G (Dp s 10))/\BW w.heap.size w w':=by
 have a:∀(k:Nat),k<s.size->∀w,(Instr.index 9 (E s) (Z G (k:Int))).run prog w=.ok (Z .u8 (ft s k)) w:=λk hk w=>Z3 Fu s k k rfl hk w;by_cases h0:s.size=0
 .have k0:((s.size:Int) == 0)=true:=by rw[h0];rfl
  have b:Dp s 10=-1:=by unfold Dp;rw[Ad (.inl h0)]
  replace⟨h0,b,p,a⟩:=H4 h0 b p a;go_enter Wq,Wn;go_wp2;go_ret;exact⟨by rw[b.out];rfl,Below.refl _ _⟩
 have k0:((s.size:Int) == 0)=false:=by simp only[Bh];omega
 by_cases h1:10<s.size
 .have y:decide ((10:Int)<s.size)=true:=Bs ao9;have b:Dp s 10=-1:=by unfold Dp;rw[Ad (.inr (.inl h1))]
  replace⟨h0,b,p,a⟩:=H4 h0 b p a;go_enter Wq,Wn;go_wp2;go_ret;exact⟨by rw[b.out];rfl,Below.refl _ _⟩
 have y:decide ((10:Int)<s.size)=false:=Bz ao9;have u:∀w,(Instr.index 9 (E s) (Z G 0)).run prog w=.ok (Z .u8 (ft s 0)) w:=a 0 ao9;obtain⟨c0,d⟩:=Ex (ft s 0);rw[<-d]at u;by_cases t:1<s.size/\c0=48
 .have z:decide ((1:Int)<s.size)=true:=Bs ao9;have k3:(c0 == 48)=true:=by simp[t.2]
  have b:Dp s 10=-1:=by unfold Dp;rw[Ad (.inr (.inr (by rw[<-d];exact t)))]
  replace⟨h0,h1,t,b,p,a,d⟩:=H7 h0 h1 t b p a d;go_enter Wq,Wn;go_wp2;go_ret;exact⟨by rw[b.out];rfl,Below.refl _ _⟩
 have am:decide ((1:Int)<s.size)=false\/(decide ((1:Int)<s.size)=true/\(c0 == 48)=false):=by
  by_cases c:1<s.size
  .refine .inr ⟨Bs ao9,?_⟩;simp only[Bh];intro e;exact t ⟨c,e⟩
  .exact .inl (Bz ao9)
 have g:¬(s.size=0\/10<s.size\/(1<s.size/\ft s 0=48)):=by rw[<-d];omega
 have l:s.size<=13:=ao9
 have aA:s.size<=13:=ao9
 clear t h1 h0 p;replace⟨a,g,l,d⟩:=H4 a g l d;rcases am with z|⟨z,k3⟩
 all_goals
  go_enter Wq,Wn;go_wp2;go_loopw [3,4,25] (λn _ i wr=>∃k:Nat,i=Z G k/\n=Z G (Fx s k)/\k<=s.size/\Hid (Id s k=true)/\Hid (BW w.heap.size w wr)) (λ_ _ i _=>s.size-(intOf i).toNat)
  case atStart=>exact⟨0,rfl,rfl,Ar _,rfl,Below.refl _ _⟩
  case round=>
   obtain⟨k,rfl,rfl,hk,hy,hB⟩:=hrel;clear k0 y u
   try clear k3
   clear z;by_cases v:k<s.size
   .have ac:(k:Int)<s.size:=ao9;have af:=a.out k v;obtain⟨c,h⟩:=Ex (ft s k);rw[<-h]at af;by_cases j:Rw c=true
    .obtain ⟨q1,q2⟩:=Wz.1 j;have y:decide (c<48)=false:=Bz ao9;have z:decide (57<c)=false:=Bz ao9;have r:Id s (k+1)=true:=(by simp only[Id,hy.out,<-h,j,Wm]);obtain⟨n,x⟩:=Ex (Fx s k);rw[<-x];have m:=Amf hy.out (by have:=l.out;omega);rw[<-x]at m;have an:IntKind.i64.wrap (n*10)=n*10:=E0 _ ao9;have ao:IntKind.u8.wrap (c-48)=c-48:=IntWalk.u8_in _ ao9;have ap:IntKind.i64.wrap (c-48)=c-48:=E0 _ ao9;have av:IntKind.i64.wrap (n*10+(c-48))=n*10+(c-48):=E0 _ ao9;have f:Fx s (k+1)=10*n+(c-48):=(by simp only[Fx,<-x,<-h]);replace⟨h,j,q1,q2,r,x,m,f⟩:=H8 h j q1 q2 r x m f;go_wp2;go_roundw
     case rel=>exact⟨k+1,by go_num,by first|rfl|(rw[f.out];done)|(rw[f.out];go_num)|(rw[f.out];congr 1;omega)|(rw[f.out];congr 1),ao9,r.out,hB.out⟩
     case measure=>simp[intOf];omega
    .have o:Rw (ft s k)=false:=(by rw[<-h];simpa using j);have b:Dp s 10=-1:=(by unfold Dp;rw[Ab g.out,Ab (Amd v o)]);have ad:c<48\/57<c:=(by apply Is;intro q;exact j (Wz.2 ao9));replace⟨h,j,o,b⟩:=H4 h j o b;rcases ad with q|q
     .have y:=Bs q;go_wp2;go_ret;exact⟨by rw[b.out];rfl,hB.out⟩
     .have y:decide (c<48)=false:=Bz ao9;have z:=Bs q;go_wp2;go_ret;exact⟨by rw[b.out];rfl,hB.out⟩
   .have ac:¬(k:Int)<s.size:=ao9;have al:k=s.size:=ao9;subst al;have b:Dp s 10=Fx s s.size:=(by unfold Dp;rw[Ab g.out,Ad hy.out]);replace b:=Hh b;go_wp2;go_ret;exact⟨by rw[b.out];rfl,hB.out⟩
def F4 (next m n:Int):Bool:=decide (n=0) || decide (next<=n) || decide (n < -m)
abbrev fi:=Int×Int
def Ek (s:fi):fi:=(max s.1 0,max s.2 0)
def Ig (s:fi):Int:=if s.1=0 then 0 else if s.2=0 then 2 else 1
def Gk (a b:Int):Int:=if a<b then -1 else if b<a then 1 else 0
def F5 (a b:fi):Int:=
 if Ek a=Ek b then 0
 else if Ig (Ek a)≠1\/Ig (Ek b)≠1 then Gk (Ig (Ek a)) (Ig (Ek b))
 else Gk ((Ek a).1*(Ek b).2) ((Ek b).1*(Ek a).2)
def E3 (has whole:V4):Nat->fi×Int
 | 0=>((0,0),0)
 | n+1=>if n=0\/0<F5 (Ek (has.get n,whole.get n)) (E3 has whole n).1 then(Ek (has.get n,whole.get n),(n:Int))else E3 has whole n
def O9 (has whole:V4):fi:=(E3 has whole 4).1
def Eu (n:Int):Int:=min (max n 0) 1152921504606846976
def Jq (a b:Int):Int:=Eu (Eu a+Eu b)
def Kg (u v:V4):V4:=⟨Jq u.a v.a,Jq u.b v.b,Jq u.c v.c,Jq u.d v.d⟩
structure dh where
 id:Int
 user:ByteArray
 prio:Int
 nj:V4
structure en where
 user:ByteArray
 has:V4
def A4 (ws:List dh) (i:Nat):dh:=(ws[i]?).getD ⟨0,ByteArray.empty,0,⟨0,0,0,0⟩⟩
def vy (a b:dh):Bool:=decide (b.prio<a.prio) || (decide (a.prio=b.prio) && decide (a.id<=b.id))
def Gl (ws:List dh) (l:List Nat):List Nat:=l.mergeSort λa b=>vy (A4 ws a) (A4 ws b)
structure bt where
 name:ByteArray
 has:V4
 left:List Nat
def ti (s:ByteArray) (u:bt):Bool:=decide (u.name=s)
def Gm (us:List bt) (s:ByteArray):Option Nat:=us.findIdx? (ti s)
def At (us:List bt) (s:ByteArray) (i:Nat):List bt:=match Gm us s with
 | none=>us++[⟨s,⟨0,0,0,0⟩,[i]⟩]
 | some k=>us.modify k λu=>⟨u.name,u.has,u.left++[i]⟩
def B8 (ws:List dh):Nat->List bt
 | 0=>[]
 | i+1=>At (B8 ws i) (A4 ws i).user i
def Cv (us:List bt) (h:en):List bt:=match Gm us h.user with
 | none=>us
 | some k=>us.modify k λu=>⟨u.name,Kg u.has h.has,u.left⟩
def C2 (hs:List en) (ws:List dh):List bt:=
 ((hs.foldl Cv (B8 ws ws.length)).map λu=>⟨u.name,u.has,Gl ws u.left⟩)
def Fk (us:List bt):List ByteArray:=((us.map λu=>u.name.data.toList).mergeSort λa b=>decide (a<=b)).map λl=>⟨l.toArray⟩
def Cw (whole:V4) (us:List bt) (names:List ByteArray):Nat->Option (Nat×fi)
 | 0=>I
 | n+1=>match (names[n]?).bind (Gm us)with
  | none=>Cw whole us names n
  | some k=>match us[k]? with
   | none=>Cw whole us names n
   | some u=>if u.left=[]then Cw whole us names n else match Cw whole us names n with
    | none=>O (k,O9 u.has whole)
    | some (i,s)=>if F5 (O9 u.has whole) s<0 then O (k,O9 u.has whole)else O (i,s)
def Jr (ws:List dh) (u:bt):bt:=match u.left with
 | []=>u
 | p :: l=>⟨u.name,Kg u.has (A4 ws p).nj,l⟩
def Cr (whole:V4) (ws:List dh) (us:List bt) (names:List ByteArray):Nat->List bt×List Nat
 | 0=>(us,[])
 | n+1=>match Cw whole (Cr whole ws us names n).1 names names.length with
  | none=>Cr whole ws us names n
  | some (k,_)=>match (Cr whole ws us names n).1[k]? with
   | none=>Cr whole ws us names n
   | some u=>((Cr whole ws us names n).1.modify k (Jr ws),(Cr whole ws us names n).2++[u.left.headD 0])
def K8 (whole:V4) (hs:List en) (ws:List dh):List Nat:=(Cr whole ws (C2 hs ws) (Fk (C2 hs ws)) ws.length).2
def Aa7 (s:Int) (w:WD):CS prog 211 #[Z G s] w λe w'=>e=Q (Y (jz s))/\w'=w:=by
 by_cases a:(5:Int)<=s
 .have d:=Bs a;by_cases b:s<=(8:Int)
  .have f:=Bs b;have c:jz s=true:=(by unfold jz;simp[a,b]);replace⟨a,c,b⟩:=H3 a c b;go_enter func211,ntmps211;go_wp2;go_ret;exact⟨by rw[c.out];rfl,rfl⟩
  .have f:=Bz b;have c:jz s=false:=(by unfold jz;simp[a,b]);replace⟨a,c,b⟩:=H3 a c b;go_enter func211,ntmps211;go_wp2;go_ret;exact⟨by rw[c.out];rfl,rfl⟩
 .have d:=Bz a;have c:jz s=false:=by unfold jz;simp[a]
  replace⟨a,c⟩:=H2 a c;go_enter func211,ntmps211;go_wp2;go_ret;exact⟨by rw[c.out];rfl,rfl⟩
def Qm (s:Int) (w:WD):CS prog 131 #[Z G s] w λe w'=>e=Q (Y (di s))/\w'=w:=by
 by_cases a:s=3
 .have d:=M5.2 a;have c:di s=true:=by unfold di;simp[a]
  replace⟨a,c⟩:=H2 a c;go_enter func131,ntmps131;go_wp2;go_ret;exact⟨by rw[c.out];rfl,rfl⟩
 .have d:=Bh.2 a;by_cases b:s=4
  .have f:=M5.2 b;have c:di s=true:=(by unfold di;simp[b]);replace⟨a,c,b⟩:=H3 a c b;go_enter func131,ntmps131;go_wp2;go_ret;exact⟨by rw[c.out];rfl,rfl⟩
  .have f:=Bh.2 b;have c:di s=false:=(by unfold di;simp[a,b]);replace⟨a,c,b⟩:=H3 a c b;go_enter func131,ntmps131;go_wp2;go_ret;exact⟨by rw[c.out];rfl,rfl⟩
def Af7 (s:Int) (w:WD):CS prog 158 #[Z G s] w λe w'=>e=Q (Y (ei s))/\w'=w:=by
 by_cases a:s=1
 .have d:=M5.2 a;have c:ei s=true:=by unfold ei;simp[a]
  replace⟨a,c⟩:=H2 a c;go_enter func158,ntmps158;go_wp2;go_ret;exact⟨by rw[c.out];rfl,rfl⟩
 .have d:=Bh.2 a;by_cases b:s=2
  .have f:=M5.2 b;have c:ei s=true:=(by unfold ei;simp[b]);replace⟨a,c,b⟩:=H3 a c b;go_enter func158,ntmps158;go_wp2;go_ret;exact⟨by rw[c.out];rfl,rfl⟩
  .have f:=Bh.2 b;have c:ei s=false:=(by unfold ei;simp[a,b]);replace⟨a,c,b⟩:=H3 a c b;go_enter func158,ntmps158;go_wp2;go_ret;exact⟨by rw[c.out];rfl,rfl⟩
abbrev Lf.cells (l:Lf):Array VL:=#[Z G l.st,Z G l.bp,Z G l.left,Y l.wall,Y l.stop]
abbrev Lf.val (l:Lf):VL:=.agg #[Z G l.st,Z G l.bp,Z G l.left,Y l.wall,Y l.stop]
def Af8 {a b:Bool} (h:a=b):Ending.returned (Y a)=Q (Y b):=by rw[h]
def Ul (st c left:Int) (b a:Bool):Kz ⟨st,c,left,b,a⟩=true↔(1<=st/\st<=8/\0<=c/\0<=left/\c<=Et st/\left<=Et st-c)/\¬(c=0/\(di st=true\/(jz st=true/\st≠8)))/\(st=4\/(b=false/\a=false)):=by
 unfold Kz;simp only[D7,Bool.or_eq_true,Iu,Bool.not_eq_true',Jl,ne_eq];constructor
 .rintro ⟨⟨⟨⟨⟨⟨⟨a1,a2⟩,a3⟩,d⟩,e⟩,f⟩,g⟩,h⟩;exact⟨⟨a1,a2,a3,d,e,f⟩,g,h⟩
 .rintro ⟨⟨a1,a2,a3,d,e,f⟩,g,h⟩;exact⟨⟨⟨⟨⟨⟨⟨a1,a2⟩,a3⟩,d⟩,e⟩,f⟩,g⟩,h⟩
def Ap4 (l:Lf) (w:WD):CS prog 157 #[l.val] w λe w'=>e=Q (Y (Kz l))/\BW w.heap.size w w':=by
 obtain⟨st,i,left,f,d⟩:=l;have b:=Ul st i left f d;obtain⟨h,a⟩:=Ex (ei st);have c:=λW=>Af7 st W;rw[<-a]at c;have g:Et st=if h=true then 5 else 6:=by rw[a];rfl
 rw[g]at b;replace⟨c,b,g,a⟩:=H4 c b g a
 cases h with
 | true=>
  go_enter func157,ntmps157;go_wp2_with fail;refine(c.out _).mono ?_;rintro e w1 ⟨rfl,rfl⟩;go_wp2_with (first|(go_at_call 131;refine(Qm _ _).mono ?_;rintro e w1 ⟨rfl,rfl⟩)|(go_at_call 211;refine(Aa7 _ _).mono ?_;rintro e w1 ⟨rfl,rfl⟩))
  all_goals
   go_ret;refine⟨Af8 ?_,Bn⟩;rw[P4,b.out]
   simp_all
   try omega
 | false=>
  go_enter func157,ntmps157;go_wp2_with fail;refine(c.out _).mono ?_;rintro e w1 ⟨rfl,rfl⟩;go_wp2_with (first|(go_at_call 131;refine(Qm _ _).mono ?_;rintro e w1 ⟨rfl,rfl⟩)|(go_at_call 211;refine(Aa7 _ _).mono ?_;rintro e w1 ⟨rfl,rfl⟩))
  all_goals
   go_ret;refine⟨Af8 ?_,Bn⟩;rw[P4,b.out]
   simp_all
   try omega
def Ap5 (r:Int) (h:Bool) (w:WD):CS prog 129 #[Z G r,Y h] w λe w'=>e=Q (D #[(J9 r h).1.val,Z G (J9 r h).2])/\BW w.heap.size w w':=by
 by_cases a:r<0\/5<r
 .have b:J9 r h=(Lf.zero,1):=Ad a;rw[b];replace⟨a,b⟩:=H2 a b;cases h
  all_goals
   go_enter func129,ntmps129;go_wp2
   all_goals first
    | (exfalso;have:=a.out;omega)
    | (refine An (v:=D #[Lf.zero.val,Z G 1]) (by simp[results,results129,go_sem,Lf.zero]) rfl ⟨rfl,?_⟩;exact Bn)
 .have c:0<=r:=ao9
  have b:J9 r h=(⟨if h=true then 2 else 1,0,r,false,false⟩,0):=Ab a;rw[b];replace⟨a,b⟩:=H2 a b;cases h
  .go_enter func129,ntmps129;go_wp2;refine An (v:=D #[(⟨1,0,r,false,false⟩:Lf).val,Z G 0]) (by simp[results,results129,go_sem]) rfl ⟨rfl,?_⟩;exact Bn
  .go_enter func129,ntmps129;go_wp2;refine An (v:=D #[(⟨2,0,r,false,false⟩:Lf).val,Z G 0]) (by simp[results,results129,go_sem]) rfl ⟨rfl,?_⟩;exact Bn
def Ap6 (l:Lf) (w:WD) (h1:-100<=l.left) (f:l.left<=100):CS prog 212 #[l.val] w λe w'=>e=Q (N8 l).val/\BW w.heap.size w w':=by
 obtain⟨st,a,left,d,c⟩:=l;simp only at h1 f
 cases c with
 | true=>
  go_enter Wr,Wo;go_wp2;refine An (v:=(⟨8,a,left,false,false⟩:Lf).val) (by simp[results,results212,go_sem]) rfl ⟨rfl,?_⟩;exact Bn.alloc as9 _
 | false=>
  cases d with
  | true=>
   go_enter Wr,Wo;go_wp2;refine An (v:=(⟨6,a,left,false,false⟩:Lf).val) (by simp[results,results212,go_sem]) rfl ⟨rfl,?_⟩;exact Bn.alloc as9 _
  | false=>
   by_cases q:0<left
   .have b:N8 ⟨st,a,left,false,false⟩=⟨1,a,left-1,false,false⟩:=(by unfold N8;simp[q]);rw[b];replace b:=Hh b;go_enter Wr,Wo;go_wp2;refine An (v:=(⟨1,a,left-1,false,false⟩:Lf).val) (by simp[results,results212,go_sem]) rfl ⟨rfl,?_⟩;exact Bn.alloc as9 _
   .have b:N8 ⟨st,a,left,false,false⟩=⟨7,a,left,false,false⟩:=(by unfold N8;simp[q]);rw[b];replace b:=Hh b;go_enter Wr,Wo;go_wp2;refine An (v:=(⟨7,a,left,false,false⟩:Lf).val) (by simp[results,results212,go_sem]) rfl ⟨rfl,?_⟩;exact Bn.alloc as9 _
def Af9 {s:Int} (h:1<=s/\s<=8):s=1\/s=2\/s=3\/s=4\/s=5\/s=6\/s=7\/s=8:=ao9
def Ap7 (l:Lf) (s:Int) (w:WD) (a:l.st=1\/l.st=2) (f:1<=s/\s<=8) (h1:-100<=l.bp) (h:l.bp<=100) :
  CS prog 159 #[l.val,Z G s] w λe w'=>e=Q (D #[(Ei l s).1.val,Y (Ei l s).2])/\BW w.heap.size w w':=by
 obtain⟨st,g,left,c,b⟩:=l;simp only at h1 h a;obtain⟨z,d⟩:=Ex (Ei ⟨st,g,left,c,b⟩ s);rw[<-d];rcases a with rfl|rfl
 all_goals
  rcases Af9 f with rfl|rfl|rfl|rfl|rfl|rfl|rfl|rfl
  all_goals
   clear f;simp[Ei]at d;subst d;go_enter func159,ntmps159;go_wp2;refine An (v:=D #[_,_]) (by simp[results,results159,go_sem]) rfl ⟨rfl,?_⟩;exact(Bn.alloc as9 _).alloc (by simp;omega) _
def Ap8 (l:Lf) (s:Int) (w:WD) (k:l.st=3\/l.st=4) (f:1<=s/\s<=8) (h1:-100<=l.left) (x:l.left<=100) :
  CS prog 160 #[l.val,Z G s] w λe w'=>e=Q (D #[(Dh l s).1.val,Y (Dh l s).2])/\BW w.heap.size w w':=by
 have i:=Ap6 l;obtain⟨st,n,left,c,a⟩:=l;simp only at h1 x k;have i:=λW=>i W h1 x;obtain⟨y,m⟩:=Ex (N8 ⟨st,n,left,c,a⟩);rw[<-m]at i;by_cases h:s=8
 .subst h;rcases k with rfl|rfl
  .have d:Dh ⟨3,n,left,c,a⟩ 8=(⟨5,n,left,c,a⟩,true):=rfl;rw[d];replace⟨d,i,m,f⟩:=H4 d i m f;go_enter N7,N6;go_wp2;refine An (v:=D #[_,_]) (by simp[results,results160,go_sem]) rfl ⟨rfl,?_⟩;exact Bn.alloc as9 _
  .have d:Dh ⟨4,n,left,c,a⟩ 8=(y,true):=(by rw[m];rfl);rw[d];replace⟨d,i,m,f⟩:=H4 d i m f;go_enter N7,N6;go_wp2_with fail;refine(i.out _).mono ?_;rintro e w1 ⟨rfl,o⟩;have j:=Ae o (b:=w.heap.size+1) (A2 _ _ as9) as9;have fr:=Ag j;have p:=Aa j 0;have q:=Aa j 1;have r:=Aa j 2;have t:=Aa j 3;have u:=Aa j 4;simp at p q r t u;have g:=(Bn.alloc as9 _).trans (o.mono (by simp;omega));obtain⟨y1,y2,y3,y4,y5⟩:=y;replace⟨j,g,o⟩:=H3 j g o;go_wp2;refine An (v:=D #[(⟨y1,y2,y3,y4,y5⟩:Lf).val,Y true]) (by simp[results,results160,go_sem,p,q,r,t,u]) rfl ⟨rfl,?_⟩;exact((((g.out.setCell (D9 _) _).setCell (D9 _) _).setCell (D9 _) _).setCell (D9 _) _).setCell (D9 _) _
 .clear i m;obtain⟨z,d⟩:=Ex (Dh ⟨st,n,left,c,a⟩ s);rw[<-d];rcases k with rfl|rfl
  all_goals
   rcases Af9 f with rfl|rfl|rfl|rfl|rfl|rfl|rfl|rfl
   .clear f h;simp[Dh]at d;subst d;go_enter N7,N6;go_wp2;refine An (v:=D #[_,_]) (by simp[results,results160,go_sem]) rfl ⟨rfl,?_⟩;exact Bn.alloc as9 _
   .clear f h;simp[Dh]at d;subst d;go_enter N7,N6;go_wp2;refine An (v:=D #[_,_]) (by simp[results,results160,go_sem]) rfl ⟨rfl,?_⟩;exact Bn.alloc as9 _
   .clear f h;simp[Dh]at d;subst d;go_enter N7,N6;go_wp2;refine An (v:=D #[_,_]) (by simp[results,results160,go_sem]) rfl ⟨rfl,?_⟩;exact Bn.alloc as9 _
   .cases c<;>cases a
    all_goals
     clear f h;simp[Dh]at d;subst d;go_enter N7,N6;go_wp2;refine An (v:=D #[_,_]) (by simp[results,results160,go_sem]) rfl ⟨rfl,?_⟩;exact Bn.alloc as9 _
   .cases c<;>cases a
    all_goals
     clear f h;simp[Dh]at d;subst d;go_enter N7,N6;go_wp2;refine An (v:=D #[_,_]) (by simp[results,results160,go_sem]) rfl ⟨rfl,?_⟩;exact Bn.alloc as9 _
   .cases c<;>cases a
    all_goals
     clear f h;simp[Dh]at d;subst d;go_enter N7,N6;go_wp2;refine An (v:=D #[_,_]) (by simp[results,results160,go_sem]) rfl ⟨rfl,?_⟩;exact Bn.alloc as9 _
   .clear f h;simp[Dh]at d;subst d;go_enter N7,N6;go_wp2;refine An (v:=D #[_,_]) (by simp[results,results160,go_sem]) rfl ⟨rfl,?_⟩;exact Bn.alloc as9 _
   .exact absurd rfl h
def Qn {l:Lf} {s:Int} (a:Kz l=true) (b:ei l.st=true):Ay l s=if (Ei l s).2=true then((Ei l s).1,0)else(Lf.zero,100):=by
 unfold Ay;rw[Ab (by rw[a];simp),Ad b]
def Sk {l:Lf} {s:Int} (b:Kz l=true) (c:ei l.st=false) (a:di l.st=true):Ay l s=if (Dh l s).2=true then((Dh l s).1,0)else(Lf.zero,100):=by
 unfold Ay;rw[Ab (by rw[b];simp),Ab (by rw[c];simp),Ad a]
def Aga {l:Lf} {s:Int} (b:Kz l=true) (c:ei l.st=false) (a:di l.st=false):Ay l s=(Lf.zero,100):=by
 unfold Ay;rw[Ab (by rw[b];simp),Ab (by rw[c];simp),Ab (by rw[a];simp)]
def Ap9 {l:Lf} {s:Int} (a:Kz l=false):Ay l s=(Lf.zero,1):=by
 unfold Ay;rw[Ad a]
def Aqa {l:Lf} (h:Kz l=true):0<=l.bp/\l.bp<=6/\0<=l.left/\l.left<=6/\1<=l.st/\l.st<=8:=by
 obtain⟨st,f,left,b,a⟩:=l;obtain⟨⟨a1,a2,a3,c,g,i⟩,_,_⟩:=(Ul _ _ _ _ _).1 h
 have:Et st=5\/Et st=6:=by unfold Et;split<;>simp
 have d:f<=6:=ao9
 have e:left<=6:=ao9
 exact⟨a3,d,c,e,a1,a2⟩
def Nh {s:Int}:ei s=true↔s=1\/s=2:=by simp[ei]
def Ma {s:Int}:di s=true↔s=3\/s=4:=by simp[di]
structure ve (w:WD) (l:Lf) (wr:WD):Prop where
 low:BW w.heap.size w wr
 box:wr.heap[w.heap.size]?=O (J l.cells 43 (0,0))
 res:wr.heap[w.heap.size+1]?=O (J Lf.zero.cells 43 (0,0))
def ve.jk {w wr w':WD} {l:Lf} (h:ve w l wr) (a:BW wr.heap.size wr w'):ve w l w':=⟨h.low.trans (a.mono h.low.size),Ae a h.box (Ac h.box),Ae a h.res (Ac h.res)⟩
def ve.new (w:WD) (l:Lf):ve w l ((w.alloc (J l.cells 43 (0,0))).alloc (J Lf.zero.cells 43 (0,0))):=
 ⟨Bn.alloc as9 _,Ak _ (Ah _ _),A2 _ _ as9⟩
def Ni {w w1:WD} {b:Nat} (h:BW w.heap.size w w1) (a:w.heap.size<=b) (c d e f g:VL):BW w.heap.size w (((((w1.setCell ⟨b,0,I⟩ c).setCell ⟨b,1,I⟩ d).setCell ⟨b,2,I⟩ e).setCell ⟨b,3,I⟩ f).setCell ⟨b,4,I⟩ g):=
 ((((h.setCell a _).setCell a _).setCell a _).setCell a _).setCell a _
def Agb (l:Lf) (s:Int) (w:WD) (hs:1<=s/\s<=8):CS prog 100 #[l.val,Z G s] w λe w'=>e=Q (D #[(Ay l s).1.val,Z G (Ay l s).2])/\BW w.heap.size w w':=by
 have d:=ve.new w l;have y:=λW=>Ap4 l W;have hW:=λW=>Ap7 l s W;have hV:=λW=>Ap8 l s W;have n:=@Aqa l;have n1:=@Ap9 l s;have n2:=@Qn l s;have n3:=@Sk l s;have n4:=@Aga l s;have kw:=λW=>Af7 l.st W;have kl:=λW=>Qm l.st W;obtain⟨q,z⟩:=Ex (Kz l);rw[<-z]at y;obtain⟨qw,f⟩:=Ex (ei l.st);rw[<-f]at kw;obtain⟨ql,g⟩:=Ex (di l.st);rw[<-g]at kl;obtain⟨⟨p1,p2,p3,p4,p5⟩,hp⟩:∃p,p=(Ei l s).1:=⟨_,rfl⟩;obtain⟨qp,af⟩:=Ex ((Ei l s).2);obtain⟨⟨v1,v2,v3,v4,v5⟩,hv⟩:∃p,p=(Dh l s).1:=⟨_,rfl⟩;obtain⟨qv,al⟩:=Ex ((Dh l s).2);rw[<-hp,<-af]at hW n2;rw[<-hv,<-al]at hV n3;clear hp af hv al
 cases q with
 | false=>
  rw[n1 z.symm];obtain⟨st,bp,left,ad,ac⟩:=l;replace⟨d,y,hW,hV,n,n1,n2,n3⟩:=H8 d y hW hV n n1 n2 n3;replace⟨n4,kw,kl,z,f,g,hs⟩:=H7 n4 kw kl z f g hs;go_enter Rt,Rp;go_wp2_with fail;refine(y.out _).mono ?_;rintro e w1 ⟨rfl,c⟩;have a:=d.out.jk c;obtain⟨h,i,j,k,m⟩:=C5 a.box;(try dsimp only at h i j k m);have o:=Bk a.res 0 (Z G 0) rfl;have r:=Bk a.res 1 (Z G 0) rfl;have t:=Bk a.res 2 (Z G 0) rfl;have u:=Bk a.res 3 (Y false) rfl;have x:=Bk a.res 4 (Y false) rfl;have fc:=Ag a.box;have fr:=Ag a.res;replace⟨a,c⟩:=H2 a c;go_wp2;refine An (v:=D #[Lf.zero.val,Z G 1]) (by simp[results,results100,go_sem,Lf.zero,o,r,t,u,x]) rfl ⟨rfl,?_⟩;exact Ni a.out.low (D9 _) _ _ _ _ _
 | true=>
  obtain⟨b1,b2,b3,b4,b5,b6⟩:=n z.symm
  cases qw with
  | true=>
   have hW:=λW=>hW W (Nh.1 f.symm) hs ao9 ao9;rw[n2 z.symm f.symm];obtain⟨st,bp,left,ad,ac⟩:=l;replace⟨d,y,hW,hV,n,n1,n2,n3⟩:=H8 d y hW hV n n1 n2 n3;replace⟨n4,kw,kl,z,f,g,hs,b1⟩:=H8 n4 kw kl z f g hs b1;replace⟨b2,b3,b4,b5,b6⟩:=H5 b2 b3 b4 b5 b6
   cases qp with
   | true=>
    go_enter Rt,Rp;go_wp2_with fail;refine(y.out _).mono ?_;rintro e w1 ⟨rfl,c⟩;have a:=d.out.jk c;obtain⟨h,i,j,k,m⟩:=C5 a.box;(try dsimp only at h i j k m);have o:=Bk a.res 0 (Z G 0) rfl;have r:=Bk a.res 1 (Z G 0) rfl;have t:=Bk a.res 2 (Z G 0) rfl;have u:=Bk a.res 3 (Y false) rfl;have x:=Bk a.res 4 (Y false) rfl;have fc:=Ag a.box;have fr:=Ag a.res;replace⟨a,c⟩:=H2 a c;go_wp2_with fail;refine(kw.out _).mono ?_;rintro e w2 ⟨rfl,rfl⟩;go_wp2_with fail;refine(hW.out _).mono ?_;rintro e w3 ⟨rfl,c⟩;have b:=a.out.jk c;clear h i j k m o r t u x fc fr;obtain⟨h,i,j,k,m⟩:=C5 b.box;(try dsimp only at h i j k m);have o:=Bk b.res 0 (Z G 0) rfl;have r:=Bk b.res 1 (Z G 0) rfl;have t:=Bk b.res 2 (Z G 0) rfl;have u:=Bk b.res 3 (Y false) rfl;have x:=Bk b.res 4 (Y false) rfl;have fc:=Ag b.box;have fr:=Ag b.res;replace⟨b,c⟩:=H2 b c;go_wp2;refine An (v:=D #[(⟨p1,p2,p3,p4,p5⟩:Lf).val,Z G 0]) (by simp[results,results100,go_sem,o,r,t,u,x]) rfl ⟨rfl,?_⟩;exact Ni (Ni b.out.low Ln _ _ _ _ _) (D9 _) _ _ _ _ _
   | false=>
    go_enter Rt,Rp;go_wp2_with fail;refine(y.out _).mono ?_;rintro e w1 ⟨rfl,c⟩;have a:=d.out.jk c;obtain⟨h,i,j,k,m⟩:=C5 a.box;(try dsimp only at h i j k m);have o:=Bk a.res 0 (Z G 0) rfl;have r:=Bk a.res 1 (Z G 0) rfl;have t:=Bk a.res 2 (Z G 0) rfl;have u:=Bk a.res 3 (Y false) rfl;have x:=Bk a.res 4 (Y false) rfl;have fc:=Ag a.box;have fr:=Ag a.res;replace⟨a,c⟩:=H2 a c;go_wp2_with fail;refine(kw.out _).mono ?_;rintro e w2 ⟨rfl,rfl⟩;go_wp2_with fail;refine(hW.out _).mono ?_;rintro e w3 ⟨rfl,c⟩;have b:=a.out.jk c;clear h i j k m o r t u x fc fr;obtain⟨h,i,j,k,m⟩:=C5 b.box;(try dsimp only at h i j k m);have o:=Bk b.res 0 (Z G 0) rfl;have r:=Bk b.res 1 (Z G 0) rfl;have t:=Bk b.res 2 (Z G 0) rfl;have u:=Bk b.res 3 (Y false) rfl;have x:=Bk b.res 4 (Y false) rfl;have fc:=Ag b.box;have fr:=Ag b.res;replace⟨b,c⟩:=H2 b c;go_wp2;refine An (v:=D #[Lf.zero.val,Z G 100]) (by simp[results,results100,go_sem,Lf.zero,o,r,t,u,x]) rfl ⟨rfl,?_⟩;exact Ni (Ni b.out.low Ln _ _ _ _ _) (D9 _) _ _ _ _ _
  | false=>
   cases ql with
   | true=>
    have hV:=λW=>hV W (Ma.1 g.symm) hs ao9 ao9;rw[n3 z.symm f.symm g.symm];obtain⟨st,bp,left,ad,ac⟩:=l;replace⟨d,y,hW,hV,n,n1,n2,n3⟩:=H8 d y hW hV n n1 n2 n3;replace⟨n4,kw,kl,z,f,g,hs,b1⟩:=H8 n4 kw kl z f g hs b1;replace⟨b2,b3,b4,b5,b6⟩:=H5 b2 b3 b4 b5 b6
    cases qv with
    | true=>
     go_enter Rt,Rp;go_wp2_with fail;refine(y.out _).mono ?_;rintro e w1 ⟨rfl,c⟩;have a:=d.out.jk c;obtain⟨h,i,j,k,m⟩:=C5 a.box;(try dsimp only at h i j k m);have o:=Bk a.res 0 (Z G 0) rfl;have r:=Bk a.res 1 (Z G 0) rfl;have t:=Bk a.res 2 (Z G 0) rfl;have u:=Bk a.res 3 (Y false) rfl;have x:=Bk a.res 4 (Y false) rfl;have fc:=Ag a.box;have fr:=Ag a.res;replace⟨a,c⟩:=H2 a c;go_wp2_with fail;refine(kw.out _).mono ?_;rintro e w2 ⟨rfl,rfl⟩;go_wp2_with fail;refine(kl.out _).mono ?_;rintro e w2 ⟨rfl,rfl⟩;go_wp2_with fail;refine(hV.out _).mono ?_;rintro e w3 ⟨rfl,c⟩;have b:=a.out.jk c;clear h i j k m o r t u x fc fr;obtain⟨h,i,j,k,m⟩:=C5 b.box;(try dsimp only at h i j k m);have o:=Bk b.res 0 (Z G 0) rfl;have r:=Bk b.res 1 (Z G 0) rfl;have t:=Bk b.res 2 (Z G 0) rfl;have u:=Bk b.res 3 (Y false) rfl;have x:=Bk b.res 4 (Y false) rfl;have fc:=Ag b.box;have fr:=Ag b.res;replace⟨b,c⟩:=H2 b c;go_wp2;refine An (v:=D #[(⟨v1,v2,v3,v4,v5⟩:Lf).val,Z G 0]) (by simp[results,results100,go_sem,o,r,t,u,x]) rfl ⟨rfl,?_⟩;exact Ni (Ni b.out.low Ln _ _ _ _ _) (D9 _) _ _ _ _ _
    | false=>
     go_enter Rt,Rp;go_wp2_with fail;refine(y.out _).mono ?_;rintro e w1 ⟨rfl,c⟩;have a:=d.out.jk c;obtain⟨h,i,j,k,m⟩:=C5 a.box;(try dsimp only at h i j k m);have o:=Bk a.res 0 (Z G 0) rfl;have r:=Bk a.res 1 (Z G 0) rfl;have t:=Bk a.res 2 (Z G 0) rfl;have u:=Bk a.res 3 (Y false) rfl;have x:=Bk a.res 4 (Y false) rfl;have fc:=Ag a.box;have fr:=Ag a.res;replace⟨a,c⟩:=H2 a c;go_wp2_with fail;refine(kw.out _).mono ?_;rintro e w2 ⟨rfl,rfl⟩;go_wp2_with fail;refine(kl.out _).mono ?_;rintro e w2 ⟨rfl,rfl⟩;go_wp2_with fail;refine(hV.out _).mono ?_;rintro e w3 ⟨rfl,c⟩;have b:=a.out.jk c;clear h i j k m o r t u x fc fr;obtain⟨h,i,j,k,m⟩:=C5 b.box;(try dsimp only at h i j k m);have o:=Bk b.res 0 (Z G 0) rfl;have r:=Bk b.res 1 (Z G 0) rfl;have t:=Bk b.res 2 (Z G 0) rfl;have u:=Bk b.res 3 (Y false) rfl;have x:=Bk b.res 4 (Y false) rfl;have fc:=Ag b.box;have fr:=Ag b.res;replace⟨b,c⟩:=H2 b c;go_wp2;refine An (v:=D #[Lf.zero.val,Z G 100]) (by simp[results,results100,go_sem,Lf.zero,o,r,t,u,x]) rfl ⟨rfl,?_⟩;exact Ni (Ni b.out.low Ln _ _ _ _ _) (D9 _) _ _ _ _ _
   | false=>
    rw[n4 z.symm f.symm g.symm];obtain⟨st,bp,left,ad,ac⟩:=l;replace⟨d,y,hW,hV,n,n1,n2,n3⟩:=H8 d y hW hV n n1 n2 n3;replace⟨n4,kw,kl,z,f,g,hs,b1⟩:=H8 n4 kw kl z f g hs b1;replace⟨b2,b3,b4,b5,b6⟩:=H5 b2 b3 b4 b5 b6;go_enter Rt,Rp;go_wp2_with fail;refine(y.out _).mono ?_;rintro e w1 ⟨rfl,c⟩;have a:=d.out.jk c;obtain⟨h,i,j,k,m⟩:=C5 a.box;(try dsimp only at h i j k m);have o:=Bk a.res 0 (Z G 0) rfl;have r:=Bk a.res 1 (Z G 0) rfl;have t:=Bk a.res 2 (Z G 0) rfl;have u:=Bk a.res 3 (Y false) rfl;have x:=Bk a.res 4 (Y false) rfl;have fc:=Ag a.box;have fr:=Ag a.res;replace⟨a,c⟩:=H2 a c;go_wp2_with fail;refine(kw.out _).mono ?_;rintro e w2 ⟨rfl,rfl⟩;go_wp2_with fail;refine(kl.out _).mono ?_;rintro e w2 ⟨rfl,rfl⟩;go_wp2;refine An (v:=D #[Lf.zero.val,Z G 100]) (by simp[results,results100,go_sem,Lf.zero,o,r,t,u,x]) rfl ⟨rfl,?_⟩;exact Ni a.out.low (D9 _) _ _ _ _ _
section
variable {w w':WD} {b b' o B:Nat} {c:Array VL} {T:TypeId} {fr:Nat×Nat} {x y:Obj} {v:VL}
end
def Aqz {P:Program} {t e:TypeId} {i:TypeInfo} (d:P.underlying t=O (.slice e)) (f:P.info? e=O i) (b a cap n:Nat) (x:Int) (j:x=n) (g:n<=cap) (w:WD) :
  (Instr.slice t (V (O ⟨b,0,I⟩) a cap) I (O (Z G x)) (O (Z G x))).run P w=.ok (V (O ⟨b,0,I⟩) n n) w:=by
 subst j
 have h1:∀(y:Nat) (_:n<=y) c,(Instr.sliceBound (Z G (n:Int)) y c).run P w=.ok n w:=λy h c=>by
  simp[Instr.sliceBound,asIntOf,h]
 simp[Instr.slice,Instr.sliceBounds,My d,h1 cap g,h1 n Ln,sizeOf,typeInfo,f,Addr.add]
def Abf (F:FuncId) (y:Array VL) (p:Nat->Int) (w:WD)
  (hF:∀args w,(callFunc F args).run prog w=.ok (.enter F args) w)
  (H:∀(i:Nat) (w1:WD),i<4->BW w.heap.size w w1->CS prog F (#[Z G i]++y) w1 λe w2=>e=Q (Z G (p i))/\BW w1.heap.size w1 w2) :
  CS prog 318 #[.func (.func F) #[] y] w λe w'=>e=Q (.agg #[Z G (p 0),Z G (p 1),Z G (p 2),Z G (p 3)])/\BW w.heap.size w w':=by
 have H':=Hh H;clear H;go_enter func318,ntmps318;go_wp2;go_loopw [4,5] (λ_ i wr=>∃k:Nat,k<=4/\i=Z G k/\BW w.heap.size w wr/\(∃x,wr.heap[w.heap.size]?=O (J #[x,x,x,x] 30 (0,0)))/\(∃f:Nat->Int,wr.heap[w.heap.size+1]?=O (J #[Z G (f 0),Z G (f 1),Z G (f 2),Z G (f 3)] 30 (0,0))/\∀j,j<k->f j=p j)) (λ_ i _=>4-(intOf i).toNat)
 case atStart=>exact⟨0,ao9,rfl,Bn.alloc as9 _,⟨_,Ak _ (Ah _ _)⟩,λ_=>0,A2 _ _ as9,ao9⟩
 case round=>
  obtain⟨k,hk,rfl,r,⟨x,hx⟩,f,hf,l⟩:=hrel;have m:=Hh l;clear l;have c:=Hh hx;have b:=Hh hf;clear hx hf;by_cases q:k<4
  .have hi:(k:Int)<4:=ao9;go_wp2_with fail;refine(H'.out k _ q r).mono ?_;rintro e w2 ⟨rfl,a⟩;have g:=Ae a b.out (Ac b.out);have z:=Ae a c.out (Ac c.out);have cc:=Aa g;have ff:=Ag g;have g':=Hh g;clear g;have o:=Hh z;clear z;have d:=a.mono (Ac b.out);have s:=r.trans (d.mono ao9)
   obtain⟨n,t,u⟩:∃n:Nat->Int,Hid (∀j,j<k+1->n j=p j)/\Hid (∀j,n j=if j=k then p k else f j):=by
    refine⟨λj=>if j=k then p k else f j,λj hj=>?_,λ_=>rfl⟩;show(if j=k then p k else f j)=p j;split
    .next h=>rw[h]
    .exact m.out j ao9
   rcases tw q with rfl|rfl|rfl|rfl
   all_goals
    clear a d;go_wp2;go_roundw
    case rel=>
     refine⟨_,q,by go_num,s.setCell as9 _,⟨x,Dg ao9 _ o.out⟩,n,?_,t.out⟩;rw[Am g'.out];simp[u.out]
    case measure=>simp[intOf]
  .have hi:¬(k:Int)<4:=ao9;have l:=m.out;have cc:=Aa b.out;have cx:=Aa c.out;have fx:=Ag c.out;have p0:=l 0 ao9;have p1:=l 1 ao9;have p2:=l 2 ao9;have p3:=l 3 ao9;clear l;go_wp2;refine An (v:=.agg #[Z G (p 0),Z G (p 1),Z G (p 2),Z G (p 3)]) (by simp[results,results318,go_sem,cx]) rfl ⟨rfl,?_⟩;exact(((r.setCell Ln _).setCell Ln _).setCell Ln _).setCell Ln _
def Aq0:∀args w,(callFunc 333 args).run prog w=.ok (.enter 333 args) w:=Iy func333 ad9 (by simp[f333])
def Aq1 (u v:V4) (c d:Nat) (i:Nat) (w:WD) (o:i<4)
  (a:w.heap[c]?=O (J u.cells 30 (0,0))) (b:w.heap[d]?=O (J v.cells 30 (0,0))) :
  CS prog 333 (#[Z G i]++#[K (O ⟨c,0,I⟩),K (O ⟨d,0,I⟩)]) w λe w'=>e=Q (Z G (min (u.get i) (v.get i)))/\BW w.heap.size w w':=by
 have f:=Aa a 0;have g:=Aa a 1;have h:=Aa a 2;have j:=Aa a 3;have k:=Aa b 0;have l:=Aa b 1;have m:=Aa b 2;have n:=Aa b 3;simp at f g h j k l m n;clear a b;rcases tw o with rfl|rfl|rfl|rfl
 all_goals
  go_enter func333,ntmps333;go_wp2;go_quiet (fail);go_wp2
  all_goals
   go_ret;refine⟨?_,⟨rfl,rfl,rfl,Nat.le_refl _,λ_ _=>rfl⟩⟩;simp[V4.get];omega
def V4.least (u v:V4):V4:=⟨min u.a v.a,min u.b v.b,min u.c v.c,min u.d v.d⟩
def Aq2 (u v:V4) (w:WD) :
  CS prog 314 #[u.val,v.val] w λe w'=>e=Q (u.least v).val/\BW w.heap.size w w':=by
 go_enter func314,ntmps314;go_wp2_with fail;refine(Abf 333 _ (λi=>min (u.get i) (v.get i)) _ Aq0 ?_).mono ?_
 .intro i w1 f c;exact Aq1 u v w.heap.size (w.heap.size+1) i w1 f (Ae c (Ak _ (Ak _ (Ah _ _))) (by simp;omega)) (Ae c (Ak _ (A2 _ _ as9)) as9)
 .rintro e j ⟨rfl,a⟩;have g:=Ae a (A2 (b:=w.heap.size+2) _ _ as9) as9;have d:=Aa g;have h:=Ag g;clear g;go_wp2;refine An (v:=(u.least v).val) (by simp[results,results314,go_sem,d,V4.least,V4.get]) rfl ⟨rfl,?_⟩;refine Cn ?_ (by simp;omega) _;refine Cn ?_ (by simp;omega) _;refine Cn ?_ (by simp;omega) _;refine Cn ?_ (by simp;omega) _;exact((Bn.alloc as9 _).alloc (by simp;omega) _).trans (a.mono (by simp;omega))
def X7 {v:V4} (h:v.right=true):(((0<=v.a/\v.a<=1073741824)/\(0<=v.b/\v.b<=1073741824))/\(0<=v.c/\v.c<=1073741824))/\(0<=v.d/\v.d<=1073741824):=by
 simpa[V4.right,oz]using h
def Aq3:∀args w,(callFunc 319 args).run prog w=.ok (.enter 319 args) w:=Iy func319 ad9 (by simp[f319])
def Aq4 (u v:V4) (c d:Nat) (i:Nat) (w:WD) (q:i<4) (f:u.right=true) (g:v.right=true)
  (a:w.heap[c]?=O (J u.cells 30 (0,0))) (b:w.heap[d]?=O (J v.cells 30 (0,0))) :
  CS prog 319 (#[Z G i]++#[K (O ⟨c,0,I⟩),K (O ⟨d,0,I⟩)]) w λe w'=>e=Q (Z G (u.get i-v.get i))/\BW w.heap.size w w':=by
 have h:=Aa a 0;have j:=Aa a 1;have k:=Aa a 2;have l:=Aa a 3;have m:=Aa b 0;have n:=Aa b 1;have o:=Aa b 2;have p:=Aa b 3;simp at h j k l m n o p;clear a b;obtain⟨⟨⟨⟨_,_⟩,⟨_,_⟩⟩,⟨_,_⟩⟩,⟨_,_⟩⟩:=X7 f;obtain⟨⟨⟨⟨_,_⟩,⟨_,_⟩⟩,⟨_,_⟩⟩,⟨_,_⟩⟩:=X7 g;clear f g;rcases tw q with rfl|rfl|rfl|rfl
 all_goals
  go_enter func319,ntmps319;go_wp2;go_quiet (fail);go_wp2;go_ret;refine⟨?_,⟨rfl,rfl,rfl,Nat.le_refl _,λ_ _=>rfl⟩⟩;simp[V4.get]
  done
def Aq5:∀args w,(callFunc 320 args).run prog w=.ok (.enter 320 args) w:=Iy func320 ad9 (by simp[f320])
def Aq6 (u v:V4) (c d:Nat) (i:Nat) (w:WD) (q:i<4) (f:u.right=true) (g:v.right=true)
  (a:w.heap[c]?=O (J u.cells 30 (0,0))) (b:w.heap[d]?=O (J v.cells 30 (0,0))) :
  CS prog 320 (#[Z G i]++#[K (O ⟨c,0,I⟩),K (O ⟨d,0,I⟩)]) w λe w'=>e=Q (Z G (u.get i+v.get i))/\BW w.heap.size w w':=by
 have h:=Aa a 0;have j:=Aa a 1;have k:=Aa a 2;have l:=Aa a 3;have m:=Aa b 0;have n:=Aa b 1;have o:=Aa b 2;have p:=Aa b 3;simp at h j k l m n o p;clear a b;obtain⟨⟨⟨⟨_,_⟩,⟨_,_⟩⟩,⟨_,_⟩⟩,⟨_,_⟩⟩:=X7 f;obtain⟨⟨⟨⟨_,_⟩,⟨_,_⟩⟩,⟨_,_⟩⟩,⟨_,_⟩⟩:=X7 g;clear f g;rcases tw q with rfl|rfl|rfl|rfl
 all_goals
  go_enter func320,ntmps320;go_wp2;go_quiet (fail);go_wp2;go_ret;refine⟨?_,⟨rfl,rfl,rfl,Nat.le_refl _,λ_ _=>rfl⟩⟩;simp[V4.get]
  done
end
section
open Go.RowKit Go.Maps Go.Lib
def V4.sub (u v:V4):V4×Int:=if u.right=true/\v.right=true then V4.told ⟨u.a-v.a,u.b-v.b,u.c-v.c,u.d-v.d⟩ 31 else(V4.zero,1)
def Aq7 (u v:V4) (w:WD) :
  CS prog 280 #[u.val,v.val] w λe w'=>e=Q (D #[(u.sub v).1.val,Z G (u.sub v).2])/\BW w.heap.size w w':=by
 by_cases o:u.right=true/\v.right=true
 .have hs:u.sub v=V4.told ⟨u.a-v.a,u.b-v.b,u.c-v.c,u.d-v.d⟩ 31:=Ad o;obtain⟨t,x⟩:=o;have p:=Hh hs;clear hs;have q:=Hh t;clear t;have s:=Hh x;clear x;go_enter func280,ntmps280;go_wp2_with fail;refine(Iz u _).mono ?_;rintro e w2 ⟨rfl,f⟩;rw[q.out];have j:=((Bn.alloc as9 _).alloc (by simp;omega) _).trans (f.mono (by simp;omega));have gu:=Ae f (Ak _ (Ak _ (Ah _ _))) (by simp;omega);have k:=Ae f (Ak _ (A2 (b:=w.heap.size+1) _ _ as9)) as9;have g:=Ae f (A2 (b:=w.heap.size+2) _ _ as9) as9;have cv:=Aa k;have gu:=Hh gu;have k:=Hh k;have g:=Hh g;have f:=Hh f;go_wp2_with fail;refine(Iz v _).mono ?_;rintro e w3 ⟨rfl,h⟩;rw[s.out];have l:=j.trans (h.mono j.size);have ac:=Hh (Ae h gu.out (Ac gu.out));have ad:=Hh (Ae h k.out (Ac k.out));have y:=Hh (Ae h g.out (Ac g.out));clear cv;have h:=Hh h;go_wp2_with fail;refine(Abf 319 _ (λi=>u.get i-v.get i) _ Aq3 ?_).mono ?_
  .intro i w1 hi hb;exact Aq4 u v w.heap.size (w.heap.size+1) i w1 hi q.out s.out (Ae hb ac.out (Ac ac.out)) (Ae hb ad.out (Ac ad.out))
  rintro e w4 ⟨rfl,m⟩;have af:=l.trans (m.mono l.size);have g4:=Hh (Ae m y.out (Ac y.out));have m:=Hh m;go_wp2_with fail;refine(Z1 ⟨u.a-v.a,u.b-v.b,u.c-v.c,u.d-v.d⟩ 31 _).mono ?_;rintro e w5 ⟨rfl,n⟩;have al:=af.trans (n.mono af.size);have g5:=Ae n g4.out (Ac g4.out);have z:=Aa g5;have fx:=Ag g5;clear g5;have n:=Hh n;rw[<-p.out];generalize o:u.sub v=r;have o:=Hh o;go_wp2;refine An (v:=D #[r.1.val,Z G r.2]) (by simp[results,results280,go_sem,z]) rfl ⟨by rw[o.out],?_⟩;refine Cn ?_ (by simp;omega) _;refine Cn ?_ (by simp;omega) _;refine Cn ?_ (by simp;omega) _;refine Cn ?_ (by simp;omega) _;exact al
 .have hs:u.sub v=(V4.zero,1):=Ab o;have p:=Hh hs;clear hs;have am:=Hh o;clear o;go_enter func280,ntmps280;go_wp2_with fail;refine(Iz u _).mono ?_;rintro e w2 ⟨rfl,f⟩;have j:=((Bn.alloc as9 _).alloc (by simp;omega) _).trans (f.mono (by simp;omega));have k:=Ae f (Ak _ (A2 (b:=w.heap.size+1) _ _ as9)) as9;have g:=Ae f (A2 (b:=w.heap.size+2) _ _ as9) as9;have cv:=Aa k;have f:=Hh f;cases t:u.right
  .have q:=Hh t;clear t;have z:=Aa g;have fx:=Ag g;clear g k cv;go_wp2;refine An (v:=D #[V4.zero.val,Z G 1]) (by simp[results,results280,go_sem,z,V4.zero]) rfl ⟨by rw[p.out],?_⟩;refine Cn ?_ (by simp;omega) _;refine Cn ?_ (by simp;omega) _;refine Cn ?_ (by simp;omega) _;refine Cn ?_ (by simp;omega) _;exact j
  .have x:v.right=false:=by
    cases x:v.right
    .rfl
    .exact absurd ⟨t,x⟩ am.out
   have q:=Hh t;clear t;have s:=Hh x;clear x;have g:=Hh g;have k:=Hh k;go_wp2_with fail;refine(Iz v _).mono ?_;rintro e w3 ⟨rfl,h⟩;rw[s.out];have l:=j.trans (h.mono j.size);have y:=Ae h g.out (Ac g.out);have z:=Aa y;have fx:=Ag y;clear y cv;have h:=Hh h;go_wp2;refine An (v:=D #[V4.zero.val,Z G 1]) (by simp[results,results280,go_sem,z,V4.zero]) rfl ⟨by rw[p.out],?_⟩;refine Cn ?_ (by simp;omega) _;refine Cn ?_ (by simp;omega) _;refine Cn ?_ (by simp;omega) _;refine Cn ?_ (by simp;omega) _;exact l
def V4.add (u v:V4):V4×Int:=if u.right=true/\v.right=true then V4.told ⟨u.a+v.a,u.b+v.b,u.c+v.c,u.d+v.d⟩ 30 else(V4.zero,1)
def Agu (u v:V4) (w:WD) :
  CS prog 281 #[u.val,v.val] w λe w'=>e=Q (D #[(u.add v).1.val,Z G (u.add v).2])/\BW w.heap.size w w':=by
 by_cases o:u.right=true/\v.right=true
 .have hs:u.add v=V4.told ⟨u.a+v.a,u.b+v.b,u.c+v.c,u.d+v.d⟩ 30:=Ad o;obtain⟨t,x⟩:=o;have p:=Hh hs;clear hs;have q:=Hh t;clear t;have s:=Hh x;clear x;go_enter func281,ntmps281;go_wp2_with fail;refine(Iz u _).mono ?_;rintro e w2 ⟨rfl,f⟩;rw[q.out];have j:=((Bn.alloc as9 _).alloc (by simp;omega) _).trans (f.mono (by simp;omega));have gu:=Ae f (Ak _ (Ak _ (Ah _ _))) (by simp;omega);have k:=Ae f (Ak _ (A2 (b:=w.heap.size+1) _ _ as9)) as9;have g:=Ae f (A2 (b:=w.heap.size+2) _ _ as9) as9;have cv:=Aa k;have gu:=Hh gu;have k:=Hh k;have g:=Hh g;have f:=Hh f;go_wp2_with fail;refine(Iz v _).mono ?_;rintro e w3 ⟨rfl,h⟩;rw[s.out];have l:=j.trans (h.mono j.size);have ac:=Hh (Ae h gu.out (Ac gu.out));have ad:=Hh (Ae h k.out (Ac k.out));have y:=Hh (Ae h g.out (Ac g.out));clear cv;have h:=Hh h;go_wp2_with fail;refine(Abf 320 _ (λi=>u.get i+v.get i) _ Aq5 ?_).mono ?_
  .intro i w1 hi hb;exact Aq6 u v w.heap.size (w.heap.size+1) i w1 hi q.out s.out (Ae hb ac.out (Ac ac.out)) (Ae hb ad.out (Ac ad.out))
  rintro e w4 ⟨rfl,m⟩;have af:=l.trans (m.mono l.size);have g4:=Hh (Ae m y.out (Ac y.out));have m:=Hh m;go_wp2_with fail;refine(Z1 ⟨u.a+v.a,u.b+v.b,u.c+v.c,u.d+v.d⟩ 30 _).mono ?_;rintro e w5 ⟨rfl,n⟩;have al:=af.trans (n.mono af.size);have g5:=Ae n g4.out (Ac g4.out);have z:=Aa g5;have fx:=Ag g5;clear g5;have n:=Hh n;rw[<-p.out];generalize o:u.add v=r;have o:=Hh o;go_wp2;refine An (v:=D #[r.1.val,Z G r.2]) (by simp[results,results281,go_sem,z]) rfl ⟨by rw[o.out],?_⟩;refine Cn ?_ (by simp;omega) _;refine Cn ?_ (by simp;omega) _;refine Cn ?_ (by simp;omega) _;refine Cn ?_ (by simp;omega) _;exact al
 .have hs:u.add v=(V4.zero,1):=Ab o;have p:=Hh hs;clear hs;have am:=Hh o;clear o;go_enter func281,ntmps281;go_wp2_with fail;refine(Iz u _).mono ?_;rintro e w2 ⟨rfl,f⟩;have j:=((Bn.alloc as9 _).alloc (by simp;omega) _).trans (f.mono (by simp;omega));have k:=Ae f (Ak _ (A2 (b:=w.heap.size+1) _ _ as9)) as9;have g:=Ae f (A2 (b:=w.heap.size+2) _ _ as9) as9;have cv:=Aa k;have f:=Hh f;cases t:u.right
  .have q:=Hh t;clear t;have z:=Aa g;have fx:=Ag g;clear g k cv;go_wp2;refine An (v:=D #[V4.zero.val,Z G 1]) (by simp[results,results281,go_sem,z,V4.zero]) rfl ⟨by rw[p.out],?_⟩;refine Cn ?_ (by simp;omega) _;refine Cn ?_ (by simp;omega) _;refine Cn ?_ (by simp;omega) _;refine Cn ?_ (by simp;omega) _;exact j
  .have x:v.right=false:=by
    cases x:v.right
    .rfl
    .exact absurd ⟨t,x⟩ am.out
   have q:=Hh t;clear t;have s:=Hh x;clear x;have g:=Hh g;have k:=Hh k;go_wp2_with fail;refine(Iz v _).mono ?_;rintro e w3 ⟨rfl,h⟩;rw[s.out];have l:=j.trans (h.mono j.size);have y:=Ae h g.out (Ac g.out);have z:=Aa y;have fx:=Ag y;clear y cv;have h:=Hh h;go_wp2;refine An (v:=D #[V4.zero.val,Z G 1]) (by simp[results,results281,go_sem,z,V4.zero]) rfl ⟨by rw[p.out],?_⟩;refine Cn ?_ (by simp;omega) _;refine Cn ?_ (by simp;omega) _;refine Cn ?_ (by simp;omega) _;refine Cn ?_ (by simp;omega) _;exact l
end
namespace Pl
open Go.RowKit
variable{b cap i:Nat}{w w':WD}
structure St where
 t:Int
 f:V4
deriving DecidableEq
def St.zero:St:=⟨0,V4.zero⟩
abbrev St.val (s:St):VL:=.agg #[Z G s.t,Z G s.f.a,Z G s.f.b,Z G s.f.c,Z G s.f.d]
def St.cells (s:St):List VL:=[Z G s.t,Z G s.f.a,Z G s.f.b,Z G s.f.c,Z G s.f.d]
def Bd (l:List St):List VL:=l.flatMap St.cells
def Od (l:List St):(Bd l).length=l.length*5:=by
 induction l with
 | nil=>rfl
 | cons s l ih=>simp only[Bd,Pz,Av]at *;rw[ih];simp[St.cells];omega
def Abg (l m:List St):Bd (l++m)=Bd l++Bd m:=by simp[Bd]
def nth (l:List St) (i:Nat):St:=l.getD i St.zero
def Aq8 (l:List St) (i j:Nat) (a:i<l.length) (b:j<5):(Bd l)[i*5+j]?=(nth l i).cells[j]?:=by
 induction l generalizing i with
 | nil=>simp at a
 | cons s l ih=>
  cases i with
  | zero=>
   simp only[nth,Bd,Pz,Nat.zero_mul,Dm,List.getD_cons_zero];rw[Es (by simp[St.cells];omega)]
  | succ i=>
   have e:(i+1)*5+j=s.cells.length+(i*5+j):=(by simp[St.cells];omega);simp only[nth,Bd,Pz,List.getD_cons_succ];rw[e,Gb ao9,Nat.add_sub_cancel_left];exact ih i (by simpa using a)
structure Row (w:WD) (sb cap:Nat) (l:List St):Prop where
 le:l.length<=cap
 max:cap<=9223372036854775807
 ar:∃cur:Array VL,w.heap[sb]?=O (J cur 398 (0,0))/\cur.size=cap*5/\cur.toList.take (l.length*5)=Bd l
def Row.cell   {l:List St} (h:Row w b cap l) {i j:Nat} (d:i<l.length) (e:j<5) :
  w.cell? ⟨b,i*5+j,I⟩=(nth l i).cells[j]?:=by
 obtain⟨a,c,g,f⟩:=h.ar;rw[Aa c]
 have:(Bd l)[i*5+j]?=a[i*5+j]?:=by rw[<-f,Lr,Ad ao9];simp
 rw[<-this];exact Aq8 l i j d e
def Row.cells  {e cap:Nat} {l:List St} (h:Row w e cap l)  (g:i<l.length) :
  w.cell? ⟨e,i*5,I⟩=O (Z G (nth l i).t)/\w.cell? ⟨e,i*5+1,I⟩=O (Z G (nth l i).f.a) /\
  w.cell? ⟨e,i*5+2,I⟩=O (Z G (nth l i).f.b)/\w.cell? ⟨e,i*5+3,I⟩=O (Z G (nth l i).f.c) /\
  w.cell? ⟨e,i*5+4,I⟩=O (Z G (nth l i).f.d):=
 ⟨h.cell g (j:=0) ao9,h.cell g (j:=1) ao9,h.cell g (j:=2) ao9,h.cell g (j:=3) ao9,h.cell g (j:=4) ao9⟩
def Row.of_block  {c cap:Nat} {l:List St} (h:Row w c cap l) (f:w'.heap[c]?=w.heap[c]?):Row w' c cap l:=by
 obtain⟨a,b,d,h1,e⟩:=h;exact⟨a,b,d,f.trans h1,e⟩
def Row.lt  {a cap:Nat} {l:List St} (h:Row w a cap l):a<w.heap.size:=by
 obtain⟨_,_,b,h1,c⟩:=h;exact Ac h1
def Row.below {B:Nat}   {l:List St} (h:Row w b cap l) (c:BW B w w') (a:b<B):Row w' b cap l:=h.of_block (c.block _ a)
def Agv (s:St) (t:Int) (w:WD) (h1:-1099511627776<=s.t) (a:s.t<=1099511627776) (b:-1099511627776<=t) (c:t<=1099511627776) :
  CS prog 332 #[s.val,Z G t] w λe w'=>e=Q (Z G (s.t-t))/\BW w.heap.size w w':=by
 go_enter func332,ntmps332;go_wp2;go_ret;exact⟨rfl,Bn⟩
def Aq9 (n:Nat) (T:Nat->Int) (t:Int) (w:WD) (e:Ending) (w':WD):Prop:=
 ∃r:Nat,e=Q (D #[Z G r,Y (decide (r<n/\T r=t))])/\r<=n/\(∀k,k<r->T k<t)/\(∀k,r<=k->k<n->t<=T k)/\BW w.heap.size w w'
def Me (l:List St):Prop:=∀i j,i<j->j<l.length->(nth l i).t<(nth l j).t
def Ara (l:List St) (sb cap:Nat) (t:Int) (w:WD) (n:Row w sb cap l) (p:∀i,i<l.length->0<=(nth l i).t/\(nth l i).t<=1099511627776) (c:Me l)
  (h3:0<=t) (u:t<=1099511627776) (z:l.length<=1099511627776) :
  CS prog 331 #[V (O ⟨sb,0,I⟩) l.length cap,Z G t,.func (.func 332) #[] #[]] w (Aq9 l.length (λi=>(nth l i).t) t w):=by
 have n:=Hh n;have p:=Hh p;have c:=Hh c;go_enter func331,ntmps331;go_wp2;go_loopw [9,10,11] (λi j _ wr=>∃a b:Nat,a<=b/\b<=l.length/\i=Z G a/\j=Z G b/\BW w.heap.size w wr/\Hid (∀k,k<a->(nth l k).t<t)/\Hid (∀k,b<=k->k<l.length->t<=(nth l k).t)) (λi j _ _=>(intOf j).toNat-(intOf i).toNat)
 case atStart=>exact⟨0,l.length,ao9,ao9,rfl,rfl,Below.refl _ _,by intro k r;omega,by intro k r;omega⟩
 case round=>
  obtain⟨a,b,af,y,rfl,rfl,f,q,m⟩:=hrel;by_cases am:a<b
  .have ac:(a:Int)<b:=ao9;have x:(a:Int)+b<=2199023255552:=ao9;have v:(0:Int)<=(a:Int)+b:=ao9;have an:((a:Int)+b) / 2<l.length:=ao9;obtain⟨c0,c1,c2,c3,c4⟩:=(n.out.of_block (f.block _ n.out.lt)).cells (i:=(a+b) / 2) ao9;obtain⟨l1,l2⟩:=p.out ((a+b) / 2) ao9;go_wp2_with fail;refine(Agv (nth l ((a+b) / 2)) t wr ao9 ao9 ao9 u).mono ?_;rintro e w2 ⟨rfl,d⟩;have g:=Hh (f.trans (d.mono f.size));have d:=Hh d;clear f;by_cases ad:(nth l ((a+b) / 2)).t-t<0
   .go_wp2;go_roundw
    case rel=>
     refine⟨(a+b) / 2+1,b,ao9,ao9,by go_num,rfl,g.out,?_,m⟩;intro k r;by_cases h:k=(a+b) / 2
     .subst h;omega
     .have:=c.out k ((a+b) / 2) ao9 ao9;omega
    case measure=>simp[intOf];omega
   .go_wp2;go_roundw
    case rel=>
     refine⟨a,(a+b) / 2,ao9,ao9,rfl,by go_num,g.out,q,?_⟩;intro k r al;by_cases h:k=(a+b) / 2
     .subst h;omega
     .have:=c.out ((a+b) / 2) k ao9 ao9;omega
    case measure=>simp[intOf];omega
  .have o:a=b:=ao9;subst o;by_cases hn:a<l.length
   .have s:(a:Int)<l.length:=ao9;obtain⟨c0,c1,c2,c3,c4⟩:=(n.out.of_block (f.block _ n.out.lt)).cells (i:=a) ao9;obtain⟨l1,l2⟩:=p.out a ao9;go_wp2_with fail;refine(Agv (nth l a) t wr ao9 ao9 ao9 u).mono ?_;rintro e w2 ⟨rfl,d⟩;have g:=Hh (f.trans (d.mono f.size));have d:=Hh d;clear f;go_wp2;go_ret2;refine⟨a,?_,y,q,m,g.out⟩;have e:((nth l a).t-t == 0)=decide (a<l.length/\(nth l a).t=t):=(by rw[P4];simp[hn];omega);rw[<-e];rfl
   .have s:¬(a:Int)<l.length:=ao9;go_wp2;go_ret2;refine⟨a,?_,y,q,m,f⟩;simp[hn]
def Kk (l:List St) (t:Int) (k:Nat):Prop:=k<l.length/\(nth l k).t<=t/\∀j,k<j->j<l.length->t<(nth l j).t
def Arb {l:List St} (h:Me l) (h0:0<=(nth l 0).t):∀i,i<l.length->(i:Int)<=(nth l i).t:=by
 intro i
 induction i with
 | zero=>intro _;simpa using h0
 | succ i ih=>intro a;have:=h i (i+1) ao9 a;have:=ih ao9;omega
structure Ce (w:WD) (pb sb cap:Nat) (whole:V4) (l:List St):Prop where
 head:w.heap[pb]?=O (J #[Z G whole.a,Z G whole.b,Z G whole.c,Z G whole.d,V (O ⟨sb,0,I⟩) l.length cap] 363 (0,0))
 row:Row w sb cap l
 ne:pb≠sb
structure B9 (l:List St):Prop where
 pos:0<l.length
 zero:(nth l 0).t=0
 bj:Me l
 last:∀i,i<l.length->(nth l i).t<1099511627776
def B9.ge {l:List St} (h:B9 l) (i:Nat) (a:i<l.length):(i:Int)<=(nth l i).t:=Arb h.bj (by rw[h.zero];omega) i a
def B9.len {l:List St} (h:B9 l):l.length<=1099511627776:=by
 have h1:=h.ge (l.length-1) (by have:=h.pos;omega);have a:=h.last (l.length-1) (by have:=h.pos;omega);have:=h.pos;omega
def Arc (l:List St) (t:Int) (w:WD) (e:Ending) (w':WD):Prop:=∃k:Nat,e=Q (Z G k)/\Kk l t k/\BW w.heap.size w w'
def X8 (q s cap:Nat) (whole:V4) (l:List St) (t:Int) (w:WD) (m:Ce w q s cap whole l) (c:B9 l) (v:0<=t) (x:t<=1099511627776) :
  CS prog 313 #[K (O ⟨q,0,I⟩),Z G t] w (Arc l t w):=by
 have u:=Aa m.head 4;simp at u;have k:=c.len;have m:=Hh m;have c:=Hh c;go_enter func313,ntmps313;go_wp2_with fail;refine(Ara l s cap t w m.out.row (λi o=>⟨by have:=c.out.ge i o;omega,by have:=c.out.last i o;omega⟩) c.out.bj v x k).mono ?_;rintro e w2 ⟨r,rfl,hr,h1,f,d⟩;have h1:=Hh h1;have f:=Hh f;have d:=Hh d;by_cases a:r<l.length/\(nth l r).t=t
 .have g:decide (r<l.length/\(nth l r).t=t)=true:=by simpa using a
  simp only[g];have a:=Hh a;clear g;go_wp2;go_ret;refine⟨r,rfl,⟨a.out.1,by rw[a.out.2];omega,?_⟩,d.out⟩;intro j p b;have:=c.out.bj r j p b;rw[a.out.2]at this;exact this
 .have g:decide (r<l.length/\(nth l r).t=t)=false:=by simpa using a
  simp only[g]
  have h0:0<r:=by
   apply Is;intro hc
   have:r=0:=ao9
   subst this;have z:t<=(nth l 0).t:=f.out 0 Ln c.out.pos;have hz:=c.out.zero;have y:(nth l 0).t=t:=ao9;exact a ⟨c.out.pos,y⟩
  have a:=Hh a;clear g;go_wp2;go_ret;refine⟨r-1,?_,⟨ao9,?_,?_⟩,d.out⟩
  .have e:((r:Int)-1)=((r-1:Nat):Int):=ao9;rw[<-e];rfl
  .have:=h1.out (r-1) ao9;omega
  .intro j p b;have hq:=f.out j ao9 b;by_cases n:j=r
   .subst n;have:(nth l j).t≠t:=λh=>a.out ⟨b,h⟩;omega
   .have:=f.out r Ln ao9;have:=c.out.bj r j ao9 b;omega
def Fp (p:V4):List St->List St
 | []=>[]
 | s :: r=>if s.f=p then Fp s.f r else s :: Fp s.f r
def B5:List St->List St
 | []=>[]
 | s :: r=>s :: Fp s.f r
def Pc (p:V4):List St->V4
 | []=>p
 | s :: r=>Pc s.f r
def Ari (p:V4) (l:List St) (x:St):Fp p (l++[x])=Fp p l++(if x.f=Pc p l then[]else[x]):=by
 induction l generalizing p with
 | nil=>by_cases h:x.f=p<;>simp[Fp,Pc,h]
 | cons s r ih=>
  simp only[P1,Fp,Pc];rw[ih]
  by_cases h:s.f=p<;>by_cases a:x.f=Pc s.f r<;>simp[h,a]
def Arj (l:List St) (x:St) (h:0<l.length):B5 (l++[x])=B5 l++(if x.f=(nth l (l.length-1)).f then[]else[x]):=by
 have a:∀(l:List St) (p:V4),Pc p l=if 0<l.length then(nth l (l.length-1)).f else p:=by
  intro l
  induction l with
  | nil=>intro p;simp[Pc]
  | cons s r ih=>
   intro p;simp only[Pc];rw[ih]
   cases r with
   | nil=>simp[nth]
   | cons s2 r2=>simp[nth]
 cases l with
 | nil=>simp at h
 | cons s r=>
  simp only[P1,B5];rw[Ari,a]
  cases r with
  | nil=>simp[nth]
  | cons s2 r2=>simp[nth]
def Ark (l m:List St) (i:Nat) (h:i<l.length):nth (l++m) i=nth l i:=by
 simp[nth,Es h]
def Ya (l:List St) (n i:Nat) (h:i<n):nth (l.take n) i=nth l i:=by
 simp[nth,h]
def Abi (l:List St) (n i:Nat) (s:St) (h:n<l.length):nth (l.set n s) i=if i=n then s else nth l i:=by
 simp only[nth,Zf,Do];by_cases e:n=i
 .subst e;simp[h]
 .simp [e,P7 e]
def Un (l:List St) (n:Nat) (h:n<l.length):l.take (n+1)=l.take n++[nth l n]:=by
 rw[List.take_succ_eq_append_getElem h];simp[nth,h]
def Abj (l:List St) (n:Nat) (h0:0<n) (h:n<l.length):B5 (l.take (n+1))=B5 (l.take n)++(if (nth l n).f=(nth l (n-1)).f then[]else[nth l n]):=by
 rw[Un l n h,Arj _ _ (by rw[Dt];omega)];congr 2;rw[Dt,Mw ao9,Ya l n (n-1) ao9]
def Abk:∀(l:List St) (n:Nat),n<=l.length->(∀i,0<i->i<n->(nth l i).f≠(nth l (i-1)).f)->B5 (l.take n)=l.take n:=by
 intro l n a h
 induction n with
 | zero=>simp[B5]
 | succ n ih=>
  cases n with
  | zero=>
   cases l with
   | nil=>simp at a
   | cons s r=>simp[B5,Fp]
  | succ n=>
   rw[Abj l (n+1) ao9 ao9,ih ao9 (λi h1 b=>h i h1 ao9),Ab (h (n+1) ao9 ao9),<-Un l (n+1) ao9]
def X4 (l:List St) (i:Nat) (s:St) (c:i<l.length):Bd (l.set i s)=(Bd l).take (i*5)++s.cells++(Bd l).drop (i*5+5):=by
 induction l generalizing i with
 | nil=>simp at c
 | cons a l ih=>
  cases i with
  | zero=>simp[Bd,St.cells]
  | succ i=>
   have d:(i+1)*5=5+i*5:=ao9;have e:5+i*5+5=5+(i*5+5):=ao9;have b:=ih i (by simpa using c);simp only[Bd]at b ⊢;simp only[V8,Pz,b];rw[d,e];show _=List.take (a.cells.length+i*5) _++_++List.drop (a.cells.length+(i*5+5)) _;rw[List.take_length_add_append,List.drop_length_add_append];simp
def Arl (f:Array VL) (o:Nat) (a b c d e:VL) (h:o+5<=f.size) :
  (((((f.setIfInBounds o a).setIfInBounds (o+1) b).setIfInBounds (o+2) c).setIfInBounds (o+3) d).setIfInBounds (o+4) e).toList=f.toList.take o++[a,b,c,d,e]++f.toList.drop (o+5):=by
 apply Eg;intro i;simp only[Array.toList_setIfInBounds,Do,Dl,Array.length_toList];rw[Fd];by_cases h1:i<o
 .rw [Es (by simp;omega)];simp[h1,show o≠i by omega,show o+1≠i by omega,show o+2≠i by omega,show o+3≠i by omega,show o+4≠i by omega]
 .rw [Gb (by simp;omega)];have g:(f.toList.take o).length=o:=by simp;omega
  rw[g];by_cases j:i<o+5
  .rw [Es (by simp;omega)]
   have:i=o\/i=o+1\/i=o+2\/i=o+3\/i=o+4:=ao9
   rcases this with rfl|rfl|rfl|rfl|rfl
   .simp;omega
   .simp [show o+1-o=1 by omega];omega
   .simp [show o+2-o=2 by omega];omega
   .simp [show o+3-o=3 by omega];omega
   .simp [show o+4-o=4 by omega];omega
  .rw [Gb (by simp;omega)];simp[show o≠i by omega,show o+1≠i by omega,show o+2≠i by omega,show o+3≠i by omega,show o+4≠i by omega];congr 1;omega
def World.mi (w:WD) (sb i:Nat) (s:St):WD:=
 ((((w.setCell ⟨sb,i*5,I⟩ (Z G s.t)).setCell ⟨sb,i*5+1,I⟩ (Z G s.f.a)).setCell ⟨sb,i*5+2,I⟩ (Z G s.f.b)).setCell ⟨sb,i*5+3,I⟩ (Z G s.f.c)).setCell ⟨sb,i*5+4,I⟩ (Z G s.f.d)
def Row.mi   {l:List St} (h:Row w b cap l) (i:Nat) (s:St) (e:i<l.length):Row (World.mi w b i s) b cap (l.set i s):=by
 obtain⟨h1,c,a,d,f,g⟩:=h;refine⟨by simpa using h1,c,_,Am (Am (Am (Am (Am d _ _) _ _) _ _) _ _) _ _,by simpa using f,?_⟩;rw[Arl a (i*5) _ _ _ _ _ ao9,X4 l i s e,<-g];simp only[Dl,St.cells];have m:l.length*5=i*5+(5+(l.length*5-(i*5+5))):=ao9
 rw[Fd,Fd,List.take_append,List.take_append];have j:(a.toList.take (i*5)).length=i*5:=by simp;omega
 rw[j];have k:l.length*5-i*5-5=l.length*5-(i*5+5):=ao9
 simp only[D8,Ib,Dm,Nat.reduceAdd,k];rw[Dd (by simp;omega),Dd (l:=[_,_,_,_,_]) (by simp;omega),Wj,Mw ao9,List.drop_take]
def xu (d:Nat) (a b:Int) (w:WD):(Op.equalIn (d+1) 3 (Z G a) (Z G b)).run prog w=.ok (a == b) w:=by
 simp[Op.equalIn,My Kr]
def Lx:(prog.info? 3).map (λi=>(i.zero,i.size,i.bytes))=O (O (Z G 0),1,8):=by kernel_rfl
def Aaq:prog.cellsOf 3=1:=by kernel_rfl
def Arm (f:Nat) (u v:V4) (w:WD):(Op.equalIn (f+2) 30 u.val v.val).run prog w=.ok (decide (u=v)) w:=by
 obtain⟨q,e,o,g,p⟩:=B6 Lx;show(Op.equalIn ((f+1)+1) 30 u.val v.val).run prog w=_;rw[run_equalIn_array w (f+1) _ _ underlying30 e,Aaq];show(Op.eqItems (f+1) 3 1 _ _ [0,1,2,3]).run prog w=_;obtain⟨a,b,c,d⟩:=u;obtain⟨h,i,j,k⟩:=v
 by_cases h1:a=h<;>by_cases l:b=i<;>by_cases m:c=j<;>by_cases n:d=k
 all_goals
  simp[Op.eqItems,xu,part,sizeOf,typeInfo,e,g,h1,l,m,n]
def Arn (u v:V4) (w:WD):(Op.equalIn 10000 30 u.val v.val).run prog w=.ok (decide (u=v)) w:=Arm 9998 u v w
end Pl
section
open Go.RowKit Go.Maps Go.Lib
variable{k r:Int}{M i n:Nat}{α:Type}
def Po (n i:Nat) (st:List Int×List (List Int)) (k:Int):List Int×List (List Int):=
 if 0<=k/\k<(n:Int)then(st.1.modify i (·+1),st.2.modify k.toNat (·++[(i:Int)]))else st
def Kp (n i:Nat) (st:List Int×List (List Int)) (l:List Int):Nat->List Int×List (List Int)
 | 0=>st
 | j+1=>Po n i (Kp n i st l j) ((l[j]?).getD 0)
def Ji (after:List (List Int)):Nat->List Int×List (List Int)
 | 0=>(List.replicate after.length 0,List.replicate after.length [])
 | i+1=>Kp after.length i (Ji after i) ((after[i]?).getD []) ((after[i]?).getD []).length
def G3 (left:List Int):Nat->List Int
 | 0=>[]
 | i+1=>if (left[i]?).getD 0=0 then G3 left i++[(i:Int)]else G3 left i
def gi (k:Int) (l:List Int):List Int:=l.take (l.countP (·<k))++k :: l.drop (l.countP (·<k))
def Q7 (st:List Int×List Int) (k:Int):List Int×List Int:=
 (st.1.modify k.toNat (· - 1),if ((st.1.modify k.toNat (· - 1))[k.toNat]?).getD 0=0 then gi k st.2 else st.2)
def Du (st:List Int×List Int) (l:List Int):Nat->List Int×List Int
 | 0=>st
 | j+1=>Q7 (Du st l j) ((l[j]?).getD 0)
structure qz where
 left:List Int
 free:List Int
 out:List Int
def S8 (back:List (List Int)) (s:qz):qz:=match s.free with
 | []=>s
 | i :: r=>let b:=(back[i.toNat]?).getD [];let st:=Du (s.left,r) b b.length;⟨st.1,st.2,s.out++[i]⟩
def Gr (back:List (List Int)) (s:qz):Nat->qz
 | 0=>s
 | n+1=>S8 back (Gr back s n)
def Aji (after:List (List Int)):qz:=
 Gr (Ji after after.length).2 ⟨(Ji after after.length).1,G3 (Ji after after.length).1 after.length,[]⟩ (2*after.length)
def G4 (after:List (List Int)):Bool:=!decide ((Aji after).out.length<after.length)
def Gs (lo hi:Int) (l:List Int):Prop:=∀x,x∈l->lo<=x/\x<=hi
def Gs.mono {d c b a:Int} {l:List Int} (h:Gs d c l) (h1:b<=d) (f:c<=a):Gs b a l:=λx e=>by have:=h x e;omega
def Gs.at {b a:Int} {l:List Int} (h:Gs b a l)  {x:Int} (c:l[i]?=O x):b<=x/\x<=a:=h x (Ai c)
def Ol  {l:List α}  {f:α->α} {x:α} (h:x∈l.modify i f):x∈l\/∃y,y∈l/\x=f y:=by
 obtain⟨j,a⟩:=Dk h;rw[Fc]at a
 cases hy:l[j]? with
 | none=>rw[hy]at a;cases a
 | some y=>
  rw[hy]at a;have b:=Ai hy;split at a
  .simp at a;exact .inr ⟨y,b,a.symm⟩
  .simp at a;exact .inl (a▸b)
def Q8  (l:List α) (i:Nat) (f:α->α) {x:α} (a:l[i]?=O x):l.modify i f=l.set i (f x):=by
 apply Eg;intro j;rw[Fc,Do];by_cases h:i=j
 .subst h;have:=(Ap.1 a).1;rw[a,Ad rfl,Ad this];simp
 .simp [h]
def Gt  {l:List α}  {x d:α} (a:l[i]?=O x):(l[i]?).getD d=x:=by rw[a];rfl
structure Tok (n M:Nat) (st:List Int×List (List Int)):Prop where
 left:Gs 0 M st.1
 back:∀l,l∈st.2->l.length<=M/\Gs 0 ((n:Int)-1) l
def Tok.mono {n M a:Nat} {st:List Int×List (List Int)} (h:Tok n M st) (c:M<=a):Tok n a st:=⟨h.left.mono (Df _) ao9,λl b=>⟨Aw (h.back l b).1 c,(h.back l b).2⟩⟩
def Tok.step  {st:List Int×List (List Int)} (h:Tok n M st) (d:i<n) (k:Int):Tok n (M+1) (Po n i st k):=by
 unfold Po;split
 .refine ⟨λx a=>?_,λl b=>?_⟩
  .rcases Ol a with c|⟨y,c,rfl⟩
   .have:=h.left x c;omega
   .have:=h.left y c;omega
  .rcases Ol b with c|⟨y,c,rfl⟩
   .exact ⟨by have:=(h.back l c).1;omega,(h.back l c).2⟩
   .refine ⟨by have:=(h.back y c).1;simp;omega,λx a=>?_⟩;rcases C7.1 a with a|a
    .exact (h.back y c).2 x a
    .simp at a;omega
 .exact h.mono ao9
def Tok.row  {st:List Int×List (List Int)} (h:Tok n M st) (a:i<n) (l:List Int) (j:Nat):Tok n (M+j) (Kp n i st l j):=by
 induction j with
 | zero=>exact h
 | succ j ih=>exact ih.step a _
def Tok.start (n:Nat):Tok n 0 (List.replicate n 0,List.replicate n []):=
 ⟨λx a=>by simp[Wa]at a;omega,λl b=>by simp[Wa]at b;obtain⟨_,rfl⟩:=b;exact⟨as9,λx a=>by cases a⟩⟩
def Tok.to {after:List (List Int)} {b:Nat} (a:∀l,l∈after->l.length<=b):∀ {i:Nat},i<=after.length->Tok after.length (b*i) (Ji after i)
 | 0,_=>Tok.start _
 | i+1,hi=>by
  have h:=(Tok.to a (i:=i) ao9).row (i:=i) ao9 ((after[i]?).getD []) ((after[i]?).getD []).length;refine h.mono ?_;have c:after[i]?=O (after[i]'(by omega)):=Az _;have:=a _ (Ai c);rw[Gt c];rw[Nat.mul_succ];omega
structure lq (n:Nat) (l:List Int):Prop where
 bj:l.Pairwise (·<=·)
 ur:Gs 0 ((n:Int)-1) l
def lq.start (left:List Int):∀i:Nat,lq i (G3 left i)/\(G3 left i).length<=i
 | 0=>⟨⟨List.Pairwise.nil,λx c=>by cases c⟩,Nat.le_refl _⟩
 | i+1=>by
  obtain⟨h,f⟩:=lq.start left i;unfold G3;split
  .refine ⟨⟨?_,λx c=>?_⟩,by simp;omega⟩
   .rw [Tj];exact⟨h.bj,List.pairwise_singleton _ _,λa d b e=>by simp at e;have:=h.ur a d;omega⟩
   .rcases C7.1 c with c|c
    .have:=h.ur x c;omega
    .simp at c;omega
  .exact ⟨⟨h.bj,λx c=>by have:=h.ur x c;omega⟩,ao9⟩
def lq.tail  {x:Int} {l:List Int} (h:lq n (x :: l)):lq n l:=⟨(Ox.1 h.bj).2,λy a=>h.ur y (Dj _ a)⟩
def Ajj {k:Int}:∀ {l:List Int},l.Pairwise (·<=·)->(∀x,x∈l.take (l.countP (·<k))->x<k)/\∀x,x∈l.drop (l.countP (·<k))->k<=x
 | [],_=>⟨λx c=>by simp at c,λx c=>by simp at c⟩
 | y :: l,h=>by
  obtain⟨h1,e⟩:=Ox.1 h;obtain⟨a,b⟩:=Ajj (k:=k) e;by_cases d:y<k
  .rw [List.countP_cons_of_pos (by simpa using d)];refine⟨λx c=>?_,λx c=>b x (by simpa using c)⟩;simp at c;rcases c with rfl|c
   .exact d
   .exact a x c
  .have h0:(y :: l).countP (·<k)=0:=by
    rw[List.countP_eq_zero];intro x c;rcases Eh.1 c with rfl|c
    .simpa using d
    .have:=h1 x c;simp;omega
   rw[h0];refine⟨λx c=>by simp at c,λx c=>?_⟩;simp at c;rcases c with rfl|c
   .omega
   .have:=h1 x c;omega
def Avq (k:Int) (l:List Int):(gi k l).length=l.length+1:=by
 unfold gi;have:l.countP (·<k)<=l.length:=Vw;simp;omega
def lq.ins   {l:List Int} (h:lq n l) (h0:0<=k) (e:k<n):lq n (gi k l):=by
 obtain⟨a,b⟩:=Ajj (k:=k) h.bj;unfold gi;refine⟨?_,λx c=>?_⟩
 .rw [Tj,Ox];refine⟨h.bj.sublist (List.take_sublist _ _),⟨b,h.bj.sublist (List.drop_sublist _ _)⟩,λx c y d=>?_⟩;have:=a x c;rcases Eh.1 d with rfl|d
  .omega
  .have:=b y d;omega
 .rcases C7.1 c with c|c
  .exact h.ur x (Ms c)
  .rcases Eh.1 c with rfl|c
   .omega
   .exact h.ur x (List.mem_of_mem_drop c)
def Jw (st:List Int×List Int):Nat:=st.1.countP (λx=>decide (0<x))+st.2.length
def Ajk {p:Int->Bool}:∀ {l:List Int} {i:Nat} {x y:Int},l[i]?=O x->(l.set i y).countP p+(if p x=true then 1 else 0)=l.countP p+(if p y=true then 1 else 0)
 | [],i,x,y,h=>by simp at h
 | z :: l,0,x,y,h=>by
  simp at h;subst h;simp only[List.set_cons_zero,We];omega
 | z :: l,i+1,x,y,h=>by
  have:=Ajk (p:=p) (l:=l) (i:=i) (x:=x) (y:=y) (by simpa using h);simp only[V8,We];omega
def Avr {st:List Int×List Int} {k x:Int} (b:st.1[k.toNat]?=O x):Jw (Q7 st k)<=Jw st:=by
 unfold Q7;rw[Q8 _ _ _ b];have d:=(Ap.1 b).1;have a:=Ajk (p:=λx=>decide (0<x)) (y:=x-1) b;have c:((st.1.set k.toNat (x-1))[k.toNat]?).getD 0=x-1:=by simp[d]
 rw[c];unfold Jw;simp only[Iu]at a;split
 .rename_i e;rw[Avq];simp only;rw[Ad ao9,Ab ao9]at a;omega
 .simp only
  split at a<;>split at a<;>omega
def Avs {st:List Int×List Int} {k x:Int} (a:st.1[k.toNat]?=O x):Q7 st k=(st.1.set k.toNat (x-1),if x-1=0 then gi k st.2 else st.2):=by
 have c:=(Ap.1 a).1;unfold Q7;rw[Q8 _ _ _ a];have b:((st.1.set k.toNat (x-1))[k.toNat]?).getD 0=x-1:=by simp[c]
 rw[b]
def Gs.set {e d b a:Int} {l:List Int}  {y:Int} (h:Gs e d l) (k:b<=e) (j:d<=a) (h1:b<=y) (f:y<=a):Gs b a (l.set i y):=λx g=>by
 rcases Vo g with c|rfl
 .have:=h x c;omega
 .exact ⟨h1,f⟩
def Ajl {a:List (List Int)} {s:qz} {p:Nat} (h:(Gr a s p).free=[]):∀n,p<=n->Gr a s n=Gr a s p
 | 0,hn=>by
  obtain rfl:p=0:=ao9
  rfl
 | n+1,hn=>by
  by_cases e:p=n+1
  .rw [e]
  .have b:=Ajl h n ao9;show S8 a (Gr a s n)=_;rw[b];unfold S8;rw[h]
structure E9 (l:Lf) (r:Int):Prop where
 right:Kz l=true
 wait:ei l.st=true->l.bp+l.left=r
 live:di l.st=true->l.bp+l.left=r+1
 dz:l.bp+l.left<=r+1
def Om {st a left r:Int} {c b:Bool} (h:(1<=st/\st<=8/\0<=a/\0<=left/\a<=Et st/\left<=Et st-a)/\¬(a=0/\(di st=true\/(jz st=true/\st≠8)))/\(st=4\/(c=false/\b=false)))
  (h1:ei st=true->a+left=r) (d:di st=true->a+left=r+1) (e:a+left<=r+1):E9 ⟨st,a,left,c,b⟩ r:=⟨(Ul _ _ _ _ _).2 h,h1,d,e⟩
def U7:Et 1=5:=rfl
def Ack:Et 2=5:=rfl
def Av8:Et 3=6:=rfl
def Av9:Et 4=6:=rfl
def Awa:Et 8=6:=rfl
def Awb  {h:Bool} (h1:0<=r) (a:r<=5):E9 (J9 r h).1 r/\ei (J9 r h).1.st=true:=by
 unfold J9;rw[Ab ao9];cases h
 .exact ⟨Om ⟨by simp only[Bool.false_eq_true,if_false];rw[U7];omega,by simp[di,jz],.inr ⟨rfl,rfl⟩⟩ (λ_=>by omega) (λc=>by simp[di]at c) ao9,by simp[ei]⟩
 .exact ⟨Om ⟨by simp only[Ky];rw[Ack];omega,by simp[di,jz],.inr ⟨rfl,rfl⟩⟩ (λ_=>by omega) (λc=>by simp[di]at c) ao9,by simp[ei]⟩
def Tc {st d left r:Int} {f e:Bool} (h:E9 ⟨st,d,left,f,e⟩ r):(1<=st/\st<=8/\0<=d/\0<=left/\d<=Et st/\left<=Et st-d)/\¬(d=0/\(di st=true\/(jz st=true/\st≠8)))/\(st=4\/(f=false/\e=false))/\(ei st=true->d+left=r)/\(di st=true->d+left=r+1)/\d+left<=r+1:=by
 obtain⟨a,b,c⟩:=(Ul _ _ _ _ _).1 h.right;exact⟨a,b,c,h.wait,h.live,h.dz⟩
def Ajq {l:Lf} {r s:Int} (h:E9 l r) (m:ei l.st=true) (p:s=6\/s=7):E9 (Ay l s).1 r/\(Ay l s).1.st=8:=by
 rw[Qn h.right m];obtain⟨st,k,left,i,g⟩:=l
 have e:Ei ⟨st,k,left,i,g⟩ s=(⟨8,k,left,i,g⟩,true):=by
  unfold Ei
  rcases p with rfl|rfl<;>simp
 obtain⟨a,b,c,d,_,f⟩:=Tc h;rw[e];simp only[Ky];have j:st=1\/st=2:=Nh.1 m
 have n:i=false/\g=false:=by
  rcases c with c|c
  .omega
  .exact c
 have o:Et st=5:=by rcases j with rfl|rfl<;>rfl
 rw[o]at a;exact⟨Om ⟨by rw[Awa];omega,by simp[di,jz],.inr n⟩ (λc=>by simp[ei]at c) (λc=>by simp[di]at c) f,by first|rfl|trivial⟩
def Awc {l:Lf}  (h:E9 l r) (j:l.st=1):E9 (Ay l 1).1 r/\(Ay l 1).1.st=2:=by
 rw[Qn h.right (Nh.2 (.inl j))];obtain⟨st,k,left,i,g⟩:=l;have j:st=1:=j;subst j;have e:Ei ⟨1,k,left,i,g⟩ 1=(⟨2,k,left,i,g⟩,true):=by simp[Ei]
 obtain⟨a,b,c,d,_,f⟩:=Tc h;rw[e];simp only[Ky]
 have m:i=false/\g=false:=by
  rcases c with c|c
  .omega
  .exact c
 rw[U7]at a;exact⟨Om ⟨by rw[Ack];omega,by simp[di,jz],.inr m⟩ (λ_=>d ad9) (λc=>by simp[di]at c) f,by first|rfl|trivial⟩
def Awd {l:Lf}  (h:E9 l r) (j:l.st=2):E9 (Ay l 2).1 r/\(Ay l 2).1.st=1:=by
 rw[Qn h.right (Nh.2 (.inr j))];obtain⟨st,k,left,i,g⟩:=l;have j:st=2:=j;subst j;have e:Ei ⟨2,k,left,i,g⟩ 2=(⟨1,k,left,i,g⟩,true):=by simp[Ei]
 obtain⟨a,b,c,d,_,f⟩:=Tc h;rw[e];simp only[Ky]
 have m:i=false/\g=false:=by
  rcases c with c|c
  .omega
  .exact c
 rw[Ack]at a;exact⟨Om ⟨by rw[U7];omega,by simp[di,jz],.inr m⟩ (λ_=>d ad9) (λc=>by simp[di]at c) f,by first|rfl|trivial⟩
def Awe {l:Lf}  (h:E9 l r) (j:l.st=1):E9 (Ay l 3).1 r/\(Ay l 3).1.st=3:=by
 rw[Qn h.right (Nh.2 (.inl j))];obtain⟨st,k,left,i,g⟩:=l;have j:st=1:=j;subst j;have e:Ei ⟨1,k,left,i,g⟩ 3=(⟨3,k+1,left,i,g⟩,true):=by simp[Ei]
 obtain⟨a,b,c,d,_,f⟩:=Tc h;rw[e];simp only[Ky]
 have m:i=false/\g=false:=by
  rcases c with c|c
  .omega
  .exact c
 have d:=d ad9;rw[U7]at a;exact⟨Om ⟨by rw[Av8];omega,by simp[di,jz];omega,.inr m⟩ (λc=>by simp[ei]at c) (λ_=>by omega) ao9,by first|rfl|trivial⟩
def Acl {l:Lf} {r s:Int} (h:E9 l r) (n:di l.st=true) (m:s=4\/s=5\/(s=6/\l.stop=false)):E9 (Ay l s).1 r/\(Ay l s).1.st=4/\(Ay l s).2=0:=by
 have i:=Ma.1 n;rw[Sk h.right (by rcases i with e|e<;>rw[e]<;>rfl) n];obtain⟨st,k,left,j,g⟩:=l;have i:st=3\/st=4:=i;have m:s=4\/s=5\/(s=6/\g=false):=m
 have e:Dh ⟨st,k,left,j,g⟩ s=(⟨4,k,left,j || decide (s=4),g || decide (s=6)⟩,true):=by
  unfold Dh
  rcases m with rfl|rfl|⟨rfl,rfl⟩<;>simp
 obtain⟨a,b,c,_,d,f⟩:=Tc h;have o:di st=true:=n;have d:=d o
 have q:Et st=6:=by rcases i with rfl|rfl<;>rfl
 have p:k≠0:=λe=>b ⟨e,.inl o⟩;rw[e];simp only[Ky];rw[q]at a;exact⟨Om ⟨by rw[Av9];omega,λc=>p c.1,.inl rfl⟩ (λc=>by simp[ei]at c) (λ_=>d) f,by first|rfl|trivial,by first|rfl|trivial⟩
def Awf {l:Lf}  (h:E9 l r) (o:di l.st=true):E9 (Ay l 8).1 r/\((Ay l 8).1.st=1\/(5<=(Ay l 8).1.st/\(Ay l 8).1.st<=8)):=by
 have i:=Ma.1 o;rw[Sk h.right (by rcases i with e|e<;>rw[e]<;>rfl) o];obtain⟨st,n,left,m,k⟩:=l;have i:st=3\/st=4:=i;obtain⟨a,b,c,_,d,f⟩:=Tc h;have q:di st=true:=o;have d:=d q
 have s:Et st=6:=by rcases i with rfl|rfl<;>rfl
 have p:n≠0:=λe=>b ⟨e,.inl q⟩;rw[s]at a
 have g:∀(j:Int),5<=j->j<=8->E9 ⟨j,n,left,false,false⟩ r:=λj h1 t=>by
  have e:Et j=6:=by unfold Et;rw[Ab];intro c;rw[Nh]at c;omega
  exact Om ⟨by rw[e];omega,λc=>p c.1,.inr ⟨rfl,rfl⟩⟩ (λc=>by rw[Nh]at c;omega) (λc=>by rw[Ma]at c;omega) f
 rcases i with rfl|rfl
 .obtain ⟨rfl,rfl⟩:m=false/\k=false:=by
   rcases c with c|c
   .omega
   .exact c
  have e:Dh ⟨3,n,left,false,false⟩ 8=(⟨5,n,left,false,false⟩,true):=by simp[Dh]
  rw[e];exact⟨g 5 ao9 ao9,.inr ⟨by show(5:Int)<=5;omega,by show(5:Int)<=8;omega⟩⟩
 .have e:Dh ⟨4,n,left,m,k⟩ 8=(N8 ⟨4,n,left,m,k⟩,true):=by simp[Dh]
  rw[e];simp only[Ky];unfold N8;split
  .exact ⟨g 8 ao9 ao9,.inr ⟨by show(5:Int)<=8;omega,by show(8:Int)<=8;omega⟩⟩
  split
  .exact ⟨g 6 ao9 ao9,.inr ⟨by show(5:Int)<=6;omega,by show(6:Int)<=8;omega⟩⟩
  split
  .rename_i h1;have h1:0<left:=h1;refine⟨Om ⟨?_,λc=>p c.1,.inr ⟨rfl,rfl⟩⟩ (λ_=>?_) (λc=>by simp[di]at c) ?_,.inl rfl⟩
   .rw [U7];simp only;omega
   .simp only;omega
   .simp only;omega
  .exact ⟨g 7 ao9 ao9,.inr ⟨by show(5:Int)<=7;omega,by show(7:Int)<=8;omega⟩⟩
def Awg {l:Lf} {r s:Int} (h:E9 l r) (h0:(Ay l s).2=0) (j:s=6\/s=1\/s=2):E9 (Ay l s).1 r/\((di l.st=true/\(Ay l s).1.st=4)\/(di l.st=false/\ei l.st=true/\di (Ay l s).1.st=false/\((Ay l s).1.st=1\/(Ay l s).1.st=2\/(Ay l s).1.st=8))):=by
 by_cases f:ei l.st=true
 .have c:=Nh.1 f
  have g:di l.st=false:=by rcases c with e|e<;>rw[e]<;>rfl
  rcases j with rfl|rfl|rfl
  .obtain ⟨a,b⟩:=Ajq h f (.inl rfl);exact⟨a,.inr ⟨g,f,by rw[b];rfl,.inr (.inr b)⟩⟩
  .by_cases q:l.st=1
   .obtain ⟨a,b⟩:=Awc h q;exact⟨a,.inr ⟨g,f,by rw[b];rfl,.inr (.inl b)⟩⟩
   .rw [Qn h.right f]at h0;have e:(Ei l 1).2=false:=(by unfold Ei;simp[q]);rw[e]at h0;simp at h0
  .by_cases q:l.st=2
   .obtain ⟨a,b⟩:=Awd h q;exact⟨a,.inr ⟨g,f,by rw[b];rfl,.inl b⟩⟩
   .rw [Qn h.right f]at h0;have e:(Ei l 2).2=false:=(by unfold Ei;simp[q]);rw[e]at h0;simp at h0
 .have d:ei l.st=false:=by simpa using f
  by_cases i:di l.st=true
  .rcases j with rfl|rfl|rfl
   .cases c:l.stop with
    | true=>
     rw[Sk h.right d i]at h0;have e:(Dh l 6).2=false:=(by unfold Dh;simp[c]);rw[e]at h0;simp at h0
    | false=>
     obtain⟨a,b,_⟩:=Acl h i (.inr (.inr ⟨rfl,c⟩));exact⟨a,.inl ⟨i,b⟩⟩
   .rw [Sk h.right d i]at h0;have e:(Dh l 1).2=false:=(by unfold Dh;simp);rw[e]at h0;simp at h0
   .rw [Sk h.right d i]at h0;have e:(Dh l 2).2=false:=(by unfold Dh;simp);rw[e]at h0;simp at h0
  .rw [Aga h.right d (by simpa using i)]at h0;simp at h0
