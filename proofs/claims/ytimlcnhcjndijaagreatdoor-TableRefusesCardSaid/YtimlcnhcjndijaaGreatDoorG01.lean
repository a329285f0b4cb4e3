/- Parts of a proof. No condition. -/
import Derived.Test.YtimlcnhcjndijaaGreatDoorG00
import Derived.Test.YtimlcnhcjndijaaGreatDoorProg
import Derived.WalkLawsBesides
import Derived.WalkSpells
import Derived.Lib.Hide
import Derived.BigQuiet
set_option linter.all false
set_option maxRecDepth 100000
set_option maxHeartbeats 3200000
namespace Go.Proofs.YtimlcnhcjndijaaGreatDoor
open IntKind renaming i64->O
open Value renaming int->G,slice->J,string->Y,bool->D,pointer->Q,tuple->E
open Option renaming none->I,some->Z
open Obj renaming cells->V
open Ending renaming returned->K
open Go renaming World->WD,Value->VL,Calls->CS
open Go.RowKit renaming Below->BW
open Go.Proofs.Tryz
section
open Go.RowKit Go.Maps Go.Lib
def Hh{p:Prop}(h:p):Go.RowKit.Hid p:=h
def Ln{n:Nat}:n<=n:=Nat.le_refl _
def Ex{α:Sort _}(a:α):∃x,x=a:=⟨_,rfl⟩
def Bn{w:WD}{o:Obj}:BW w.heap.size w (w.alloc o):=(Below.refl _ _).alloc Ln _
abbrev Jz:Array VL:=#[G O 0,Y ⟨#[]⟩,Y ⟨#[]⟩,G O 0,G O 0,G O 0,G O 0,G O 0,G O 0,G O 0,G O 0,G O 0,D false,J I 0 0,G O 0,G O 0,G O 0,D false,D false,G O 0,J I 0 0,J I 0 0]
def H2{pa pb:Prop}(a:pa)(b:pb):Go.RowKit.Hid pa/\Go.RowKit.Hid pb:=⟨a,b⟩
def H3{pa pb pc:Prop}(a:pa)(b:pb)(c:pc):Go.RowKit.Hid pa/\Go.RowKit.Hid pb/\Go.RowKit.Hid pc:=⟨a,b,c⟩
def H4{pa pb pc pd:Prop}(a:pa)(b:pb)(c:pc)(d:pd):Go.RowKit.Hid pa/\Go.RowKit.Hid pb/\Go.RowKit.Hid pc/\Go.RowKit.Hid pd:=⟨a,b,c,d⟩
def H5{pa pb pc pd pe:Prop}(a:pa)(b:pb)(c:pc)(d:pd)(e:pe):Go.RowKit.Hid pa/\Go.RowKit.Hid pb/\Go.RowKit.Hid pc/\Go.RowKit.Hid pd/\Go.RowKit.Hid pe:=⟨a,b,c,d,e⟩
def H6{pa pb pc pd pe pf:Prop}(a:pa)(b:pb)(c:pc)(d:pd)(e:pe)(f:pf):Go.RowKit.Hid pa/\Go.RowKit.Hid pb/\Go.RowKit.Hid pc/\Go.RowKit.Hid pd/\Go.RowKit.Hid pe/\Go.RowKit.Hid pf:=⟨a,b,c,d,e,f⟩
def H7{pa pb pc pd pe pf pg:Prop}(a:pa)(b:pb)(c:pc)(d:pd)(e:pe)(f:pf)(g:pg):Go.RowKit.Hid pa/\Go.RowKit.Hid pb/\Go.RowKit.Hid pc/\Go.RowKit.Hid pd/\Go.RowKit.Hid pe/\Go.RowKit.Hid pf/\Go.RowKit.Hid pg:=⟨a,b,c,d,e,f,g⟩
def H8{pa pb pc pd pe pf pg ph:Prop}(a:pa)(b:pb)(c:pc)(d:pd)(e:pe)(f:pf)(g:pg)(h:ph):Go.RowKit.Hid pa/\Go.RowKit.Hid pb/\Go.RowKit.Hid pc/\Go.RowKit.Hid pd/\Go.RowKit.Hid pe/\Go.RowKit.Hid pf/\Go.RowKit.Hid pg/\Go.RowKit.Hid ph:=⟨a,b,c,d,e,f,g,h⟩
def Ge{α:Type _}(l:List α)(k:Nat)(h:k<l.length):∃x,l[k]?=Z x:=⟨_,List.getElem?_eq_getElem h⟩
def A4:=@List.getElem?_eq_getElem
def Ai:=@List.mem_of_getElem?
def Aq:=@List.getElem?_eq_some_iff
def Ac:=@if_neg
def Ad:=@if_pos
def Cd:=@congrArg
def Ak:=@bodyPost_ret
def Ar:=@List.length_map
def Az:=@List.length_append
def Au:=@decide_eq_false
def At:=@decide_eq_true
def As:=@Nat.zero_le
def Bj:=@beq_eq_false_iff_ne
def Bs:=@World.cell?_of_block
def Ay:=@Nat.le_trans
def Bg:=@List.getElem?_map
def By:=@Nat.lt_of_lt_of_le
def Cr:=@List.take_of_length_le
def D5:=@underlying3
def A8:=@List.mem_map
def Dr:=@underlying9
def Cm:=@Below.heap_setCell
def Df:=@List.mem_cons_of_mem
def Dn:=@List.getElem?_of_mem
def Fd:=@List.getElem?_append_left
def C2:=@List.map_append
def C4:=@List.mem_append
def Ds:=@List.getElem?_set
def D6:=@List.mem_cons_self
def Dt:=@List.length_take
def Cs:=@Below.setCell
def G7:=@List.getElem?_append_right
def Gb:=@List.length_eq_zero_iff
def Do:=@List.length_set
def Eg:=@List.ext_getElem?
def Cn:=@Nat.zero_add
def B4:=@info_parts
def D7:=@List.length_cons
def Eh:=@Bool.and_eq_true
def Im:=@Classical.byContradiction
def Fo:=@World.ownsRow.cellAt
def Fp:=@List.getElem?_modify
def Dg:=@List.map_map
def Dh:=@Int.le_refl
def M9:=@underlying31
def Fq:=@List.append_assoc
def Aew:=@underlying4
def Ei:=@List.mem_cons
def Gl:=@Bool.eq_false_iff
def Gm:=@Below.heap_alloc
def D8:=@Nat.le_succ
def A4o:=@zeroValue3
def A4p:=@zeroValue4
def Fr:=@IntWalk.i64_in
def A4q:=@underlying0
def G8:=@List.length_drop
def In:=@decide_eq_true_eq
def G9:=@World.size_alloc
def Io:=@of_decide_eq_true
def Ip:=@Function.comp_def
def A4r:=@zeroValue0
def I7:=@wpList_append_own
def N8:=@Array.getElem?_setIfInBounds
def Jy:=@List.mem_singleton
def Kg:=@List.mem_map_of_mem
def A4s:=@sizeOf3
def Iq:=@Exit.noGoto_ret
def Ir:=@List.length_nil
def Qj:=@underlying67
def Kh:=@List.length_modify
def L4:=@List.getElem?_toArray
def A4t:=@sizeOf4
def K2:=@Calls.quiet_of_same
def Is:=@DataW.trod_int
def Ki:=@Int.toNat_natCast
def A4u:=@isAgg3
def Gn:=@Nat.succ_pos
def A4v:=@isAgg4
def It:=@List.map_cons
def A4w:=@sizeOf0
def N9:=@underlying79
def O6:=@Array.getElem?_eq_getElem
def Fs:=@bne_iff_ne
def O7:=@List.pairwise_iff_getElem
def Na:=@List.mem_of_mem_take
def Oa:=@Option.map_eq_some_iff
def L5:=@List.getElem?_take
def L6:=@underlying361
def A4x:=@zeroValue9
def Kj:=@Option.map_some
def K3:=@List.any_eq_true
def Iu:=@Nat.add_zero
def K4:=@List.getElem_mem
def Ob:=@List.length_filter_le
def A4y:=@isAgg0
def L7:=@List.take_add_one
def L8:=@List.foldl_append
def K5:=@Option.some.inj
def Z9:=@underlying5
def O8:=@World.frozen?_of_block
def Nb:=@World.ownsRow_nil
def O9:=@List.take_append_drop
def Pa:=@List.getElem?_eq_none
def L9:=@Nat.min_eq_left
def A4z:=@underlying230
def Oc:=@List.getElem?_drop
def A40:=@zeroValue31
def Pb:=@List.mem_iff_getElem
def R0:=@Array.getElem?_eq_some_iff
def A41:=@sizeOf9
def A42:=@zeroValue230
def Nc:=@Nat.not_lt_zero
def Nf:=@List.append_nil
def K6:=@callsIn_wide
def Pc:=@List.filter_append
def Od:=@wpList_store_row
def Pd:=@List.pairwise_cons
def R1:=@List.eq_of_mem_replicate
def A43:=@isAgg9
def Ng:=@run_underlying
def Pe:=@underlying52
def Oe:=@Bool.eq_iff_iff
def Of:=@List.mem_filter
def Qk:=@List.length_take_le
def K7:=@Nat.add_mul
def A44:=@sizeOf31
def Pf:=@List.cons_append
def Pg:=@List.take_length
def A45:=@sizeOf230
def A46:=@underlying286
def A47:=@zeroValue5
def A48:=@isAgg31
def Ph:=@List.nil_append
def Nh:=@List.map_set
def R2:=@wpList_append_own_at
def Ni:=@ntmps31
def A49:=@zeroValue286
def Ql:=@List.flatMap_cons
def A5a:=@isAgg230
def Og:=@ntmps160
def Uc:=@World.block_lt_of_cell?
def A5b:=@zeroValue67
def Qm:=@World.ownsRow.lt
def Ma:=@beq_iff_eq
def Nj:=@setRow_heap
def Nk:=@rounds_succ
def Nl:=@func31
def A5c:=@underlying229
def R3:=@Nat.lt_or_gt_of_ne
def Oh:=@func160
def R4:=@List.find?_eq_none
def R5:=@of_decide_eq_false
def Ud:=@List.length_replicate
def Pi:=@Bool.and_self
def Wj:=@Array.getElem?_append_left
def A5d:=@zeroValue229
def R6:=@List.nodup_append
def R7:=@underlying46
def Wk:=@List.mem_or_eq_of_mem_set
def Ue:=@List.pairwise_append
def Oi:=@Nat.mul_one
def Aaa:=@List.findIdx?_eq_some_iff_getElem
def A5e:=@sizeOf286
def A5f:=@sizeOf5
def Wl:=@WideMaps.keyOf_string_mk
def R8:=@List.not_mem_nil
def Uf:=@List.map_congr_left
def A5g:=@sizeOf67
def A5h:=@isAgg286
def Kk:=@if_true
def Ug:=@List.mem_mergeSort
def A5i:=@isAgg5
def Uh:=@Option.some.injEq
def Ui:=@List.size_toArray
def Wm:=@Array.getElem?_modify
def A5j:=@isAgg67
def A5k:=@sizeOf229
def Qn:=@Nat.le_of_lt
def Wn:=@List.length_singleton
def Wo:=@List.modify_succ_cons
def Wp:=@List.countP_le_length
def Wq:=@List.length_mergeSort
def Qo:=@List.set_set
def Wr:=@Nat.mul_le_mul_right
def Ws:=@Lib.byteCells_length
def Uj:=@Array.toList_inj
def A5l:=@isAgg229
def R9:=@ntmps100
def Aab:=@List.getD_eq_getElem?_getD
def Sa:=@Prod.mk.injEq
def Mb:=@dif_pos
def Wt:=@List.length_pos_iff
def Aac:=@List.drop_eq_getElem_cons
def Uk:=@List.find?_some
def Wu:=@UInt8.toNat_ofNat'
def Sb:=@List.map_nil
def Wv:=@List.set_cons_succ
def Sc:=@func100
def Ww:=@underlying364
def Wy:=@List.mem_replicate
def Aad:=@underlying328
def Aae:=@underlying108
def Ul:=@wp_loop_rounds
def Um:=@List.Perm.refl
def Aaf:=@List.toArray_replicate
def Wz:=@List.all_eq_true
def Xa:=@List.countP_cons
def Aag:=@List.Perm.append_left
def Xb:=@UInt8.toNat_inj
def Un:=@Addr.add_lit
def Aah:=@wpList_mapUpdate_own
def Aai:=@Array.replicate_succ
def Aaj:=@Array.replicate_zero
def Uo:=@setRow_other
def Up:=@Int.le_trans
def Xc:=@wpList_load_row
def Xd:=@List.range_succ
def Xe:=@List.foldl_cons
def Uq:=@ntmps99
def Aak:=@List.getElem_of_mem
def Aal:=@List.append_toArray
def Aam:=@List.filter_sublist
def Xf:=@List.take_zero
def Xg:=@List.take_take
def Xh:=@size_zeroCells
def Xi:=@List.mem_range
def Ur:=@grownCap_ge
def Us:=@func99
def A5m:=@underlying168
def A5n:=@underlying279
def A5o:=@underlying280
def A5p:=@underlying340
def A5q:=@underlying181
def A5r:=@underlying377
def A5s:=@underlying378
def Aan:=@World.ownsMap_made
def Aao:=@underlying217
def Aap:=@grownCap_le_maxLen
def Aaq:=@List.findIdx?_cons
def Xj:=@ntmps126
def Xk:=@ntmps168
def Xl:=@ntmps212
def Xm:=@ntmps276
def A5t:=@underlying20
def A5u:=@zeroValue168
def A5v:=@zeroValue279
def A5w:=@zeroValue280
def A5x:=@zeroValue340
def A5y:=@zeroValue181
def A5z:=@zeroValue377
def A50:=@zeroValue378
def Aar:=@List.push_toArray
def Aas:=@underlying30
def Aat:=@List.length_range
def Aau:=@underlying44
def Qp:=@Ne.symm
def Aav:=@decide_eq_decide
def Xn:=@func126
def Xo:=@func168
def A51:=@zeroValue20
def A52:=@zeroValue79
def Sd:=@or_false
def Se:=@run_make
def Aaw:=@IntKind.wrap_u64
def Xp:=@func212
def Xq:=@func276
def Aax:=@Bool.not_eq_true
def Xr:=@ntmps85
def Aay:=@List.of_mem_zip
def Xs:=@func85
structure V4 where
 a:Int
 b:Int
 c:Int
 d:Int
deriving DecidableEq
def V4.get (v:V4):Nat->Int
 | 0=>v.a
 | 1=>v.b
 | 2=>v.c
 | _=>v.d
abbrev V4.cells (v:V4):Array VL:=#[G O v.a,G O v.b,G O v.c,G O v.d]
abbrev V4.val (v:V4):VL:=.agg #[G O v.a,G O v.b,G O v.c,G O v.d]
def ve {i:Nat} (h:i<4):i=0\/i=1\/i=2\/i=3:=ao9
def Ag {B:Nat} {w w':WD} (h:BW B w w') {b o:Nat} (a:b<B):w'.cell? ⟨b,o,I⟩=w.cell? ⟨b,o,I⟩:=h.cell (p:=⟨b,o,I⟩) a
section
variable {w w':WD} {b b' o B:Nat} {c:Array VL} {T:TypeId} {fr:Nat×Nat} {x y:Obj} {v:VL}
def Aa (h:w.heap[b]?=Z (V c T fr)) (o:Nat):w.cell? ⟨b,o,I⟩=c[o]?:=by simp[World.cell?,h]
def Af (h:w.heap[b]?=Z (V c T (0,0))) (o:Nat):w.frozen? ⟨b,o,I⟩=false:=by simp[World.frozen?,h]
def Am (h:w.heap[b]?=Z (V c T fr)) (o:Nat) (v:VL):(w.setCell ⟨b,o,I⟩ v).heap[b]?=Z (V (c.setIfInBounds o v) T fr):=by
 simp[World.setCell,Wm,h]
def Cv (a:b≠b') (v:VL) (h:w.heap[b]?=Z x):(w.setCell ⟨b',o,I⟩ v).heap[b]?=Z x:=by
 rw[Cm _ _ _ _ a];exact h
def Ab (h:w.heap[b]?=Z x):b<w.heap.size:=(R0.1 h).1
def Ah (w:WD) (x:Obj):(w.alloc x).heap[w.heap.size]?=Z x:=heap_alloc_new w x
def A5 (w:WD) (x:Obj) (h:b=w.heap.size):(w.alloc x).heap[b]?=Z x:=h▸heap_alloc_new w x
def Aj (y:Obj) (h:w.heap[b]?=Z x):(w.alloc y).heap[b]?=Z x:=(Gm w y b (Ab h)).trans h
def Ae (c:BW B w w') (h:w.heap[b]?=Z x) (a:b<B):w'.heap[b]?=Z x:=(c.block b a).trans h
def Ut (h:w.heap[b]?=Z x):w.drew.heap[b]?=Z x:=h
end
def Sf {P:Program} {t e:TypeId} {i:TypeInfo} (d:P.underlying t=Z (.slice e)) (f:P.info? e=Z i) (b a cap n:Nat) (x:Int) (j:x=n) (g:n<=a) :
  ∃ta,(∀w,(Instr.slice t (J (Z ⟨b,0,I⟩) a cap) (Z (G O x)) I I).run P w=.ok (J (Z ta) (a-n) (cap-n)) w)/\(n<cap->ta=⟨b,n*i.size,I⟩):=by
 subst j
 have h1:∀(y:Nat) (_:n<=y) c w,(Instr.sliceBound (G O (n:Int)) y c).run P w=.ok n w:=λy h c w=>by
  simp[Instr.sliceBound,asIntOf,h]
 refine⟨if cap=n then⟨b,0,I⟩else(⟨b,0,I⟩:Addr).add (n*i.size),λw=>?_,λh=>?_⟩
 .simp [Instr.slice,Instr.sliceBounds,Ng d,h1 a g,sizeOf,typeInfo,f]
  split<;>rfl
 .rw [Ac ao9];unfold Addr.add;split
  .next h=>rw[h]
  .simp
def I8 {F:FuncId} {fn:Func} (h:prog.funcs[F]?=Z fn) (b:fn.name≠"runtime.NumGoroutine") (a:fn.body≠I) :
  ∀args w,(callFunc F args).run prog w=.ok (.enter F args) w:=by
 intro args w;simp[callFunc,go_sem,h,b,a]
def Bk{w:WD}{b:Nat}{c:Array VL}{t:Nat}{z:Nat×Nat}(h:w.heap[b]?=Z (V c t z))(i:Nat)(v:VL)(e:c[i]?=Z v):w.cell? ⟨b,i,I⟩=Z v:=(Aa h i).trans e
def C3{w:WD}{b:Nat}{v0 v1 v2:VL}{t:Nat}{z:Nat×Nat}(h:w.heap[b]?=Z (V #[v0,v1,v2] t z)):w.cell? ⟨b,0,I⟩=Z v0/\w.cell? ⟨b,1,I⟩=Z v1/\w.cell? ⟨b,2,I⟩=Z v2:=by
 refine⟨?_,?_,?_⟩<;>exact Aa h _
def C5{w:WD}{b:Nat}{v0 v1 v2 v3 v4:VL}{t:Nat}{z:Nat×Nat}(h:w.heap[b]?=Z (V #[v0,v1,v2,v3,v4] t z)):w.cell? ⟨b,0,I⟩=Z v0/\w.cell? ⟨b,1,I⟩=Z v1/\w.cell? ⟨b,2,I⟩=Z v2/\w.cell? ⟨b,3,I⟩=Z v3/\w.cell? ⟨b,4,I⟩=Z v4:=by
 refine⟨?_,?_,?_,?_,?_⟩<;>exact Aa h _
def C10{w:WD}{b:Nat}{v0 v1 v2 v3 v4 v5 v6 v7 v8 v9:VL}{t:Nat}{z:Nat×Nat}(h:w.heap[b]?=Z (V #[v0,v1,v2,v3,v4,v5,v6,v7,v8,v9] t z)):w.cell? ⟨b,0,I⟩=Z v0/\w.cell? ⟨b,1,I⟩=Z v1/\w.cell? ⟨b,2,I⟩=Z v2/\w.cell? ⟨b,3,I⟩=Z v3/\w.cell? ⟨b,4,I⟩=Z v4/\w.cell? ⟨b,5,I⟩=Z v5/\w.cell? ⟨b,6,I⟩=Z v6/\w.cell? ⟨b,7,I⟩=Z v7/\w.cell? ⟨b,8,I⟩=Z v8/\w.cell? ⟨b,9,I⟩=Z v9:=by
 refine⟨?_,?_,?_,?_,?_,?_,?_,?_,?_,?_⟩<;>exact Aa h _
def C13{w:WD}{b:Nat}{v0 v1 v2 v3 v4 v5 v6 v7 v8 v9 v10 v11 v12:VL}{t:Nat}{z:Nat×Nat}(h:w.heap[b]?=Z (V #[v0,v1,v2,v3,v4,v5,v6,v7,v8,v9,v10,v11,v12] t z)):w.cell? ⟨b,0,I⟩=Z v0/\w.cell? ⟨b,1,I⟩=Z v1/\w.cell? ⟨b,2,I⟩=Z v2/\w.cell? ⟨b,3,I⟩=Z v3/\w.cell? ⟨b,4,I⟩=Z v4/\w.cell? ⟨b,5,I⟩=Z v5/\w.cell? ⟨b,6,I⟩=Z v6/\w.cell? ⟨b,7,I⟩=Z v7/\w.cell? ⟨b,8,I⟩=Z v8/\w.cell? ⟨b,9,I⟩=Z v9/\w.cell? ⟨b,10,I⟩=Z v10/\w.cell? ⟨b,11,I⟩=Z v11/\w.cell? ⟨b,12,I⟩=Z v12:=by
 refine⟨?_,?_,?_,?_,?_,?_,?_,?_,?_,?_,?_,?_,?_⟩<;>exact Aa h _
end
section
open Go.RowKit Go.Maps Go.Lib
def gr (x:Int):Bool:=decide (0<=x) && decide (x<=1073741824)
def V4.right (v:V4):Bool:=gr v.a && gr v.b && gr v.c && gr v.d
def V4.fits (u v:V4):Bool:=decide (u.a<=v.a) && decide (u.b<=v.b) && decide (u.c<=v.c) && decide (u.d<=v.d)
def Aex (F:FuncId) (l:Array VL) (p:Nat->Bool) (w:WD)
  (hF:∀args w,(callFunc F args).run prog w=.ok (.enter F args) w)
  (H:∀(i:Nat) (w1:WD),i<4->BW w.heap.size w w1->CS prog F (#[G O i]++l) w1 λe m=>e=K (D (p i))/\BW w.heap.size w1 m) :
  CS prog 109 #[.func (.func F) #[] l] w λe w'=>e=K (D (p 0 && p 1 && p 2 && p 3))/\BW w.heap.size w w':=by
 have n:=Hh H;clear H;go_enter func109,ntmps109;go_wp2;go_loopw [3,4] (λ_ i wr=>∃k:Nat,k<=4/\i=G O k/\BW w.heap.size w wr/\(∀j:Nat,j<k->p j=true)) (λ_ i _=>4-(intOf i).toNat)
 case atStart=>exact⟨0,ao9,rfl,Below.refl _ _,ao9⟩
 case round=>
  obtain⟨k,s,rfl,g,c⟩:=hrel;have f:=Hh c;clear c;by_cases o:k<4
  .have q:(k:Int)<4:=ao9;go_wp2_with fail;refine(n k _ o g).mono ?_;rintro e m ⟨rfl,d⟩;cases a:p k
   .have b:=Hh a;clear a;go_wp2;go_ret;refine⟨?_,g.trans d⟩;have a:=b.out
    have:(p 0 && p 1 && p 2 && p 3)=false:=by rcases(show k=0\/k=1\/k=2\/k=3 by omega)with rfl|rfl|rfl|rfl<;>simp[a]
    rw[this];rfl
   .have b:=Hh a;clear a;go_wp2;go_roundw
    case rel=>
     refine⟨k+1,ao9,by go_num,g.trans d,?_⟩;intro j r;by_cases h:j=k
     .subst h;exact b.out
     .exact f.out j ao9
    case measure=>simp[intOf];omega
  .have q:¬(k:Int)<4:=ao9;go_wp2;go_ret;refine⟨?_,g⟩;have c:=f.out;rw[c 0 ao9,c 1 ao9,c 2 ao9,c 3 ao9];rfl
def Ans:∀args w,(callFunc 208 args).run prog w=.ok (.enter 208 args) w:=I8 func208 ad9 (by simp[f208])
def Ant (v:V4) (b:Nat) (i:Nat) (B:Nat) (w:WD) (k:i<4)
  (h0:w.cell? ⟨b,0,I⟩=Z (G O v.a)) (h1:w.cell? ⟨b,1,I⟩=Z (G O v.b)) (m:w.cell? ⟨b,2,I⟩=Z (G O v.c)) (n:w.cell? ⟨b,3,I⟩=Z (G O v.d)) :
  CS prog 208 (#[G O i]++#[Q (Z ⟨b,0,I⟩)]) w λe w'=>e=K (D (gr (v.get i)))/\BW B w w':=by
 have g:∀x:Int,x<0->gr x=false:=by intro x j;simp[gr];omega
 have f:∀x:Int,0<=x->gr x=decide (x<=1073741824):=by intro x j;simp[gr,j]
 have l:=Hh g;have h:=Hh f;clear g f;rcases ve k with rfl|rfl|rfl|rfl
 all_goals
  go_enter func208,ntmps208;go_wp2
  all_goals
   go_ret;refine⟨?_,Below.refl _ _⟩;simp only[V4.get]
   first
    | (rw[l _ (by assumption)];rfl)
    | (rw[h _ (by assumption)];rfl)
def I9 (v:V4) (w:WD) :
  CS prog 152 #[v.val] w λe w'=>e=K (D v.right)/\BW w.heap.size w w':=by
 go_enter func152,ntmps152;go_wp2_with fail;refine(Aex 208 _ (λi=>gr (v.get i)) _ Ans ?_).mono ?_
 .intro i w1 d c;have a:∀j,w1.cell? ⟨w.heap.size,j,I⟩=_:=λj=>Ag (o:=j) c as9;exact Ant v w.heap.size i _ w1 d (by rw[a];simp) (by rw[a];simp) (by rw[a];simp) (by rw[a];simp)
 .rintro e f ⟨rfl,b⟩;go_wp2;go_ret;exact⟨rfl,Bn.trans (b.mono as9)⟩
def Anu:∀args w,(callFunc 110 args).run prog w=.ok (.enter 110 args) w:=I8 func110 ad9 (by simp[f110])
def Anv (u v:V4) (c d:Nat) (i:Nat) (B:Nat) (w:WD) (o:i<4)
  (a:w.heap[c]?=Z (V u.cells 30 (0,0))) (b:w.heap[d]?=Z (V v.cells 30 (0,0))) :
  CS prog 110 (#[G O i]++#[Q (Z ⟨c,0,I⟩),Q (Z ⟨d,0,I⟩)]) w λe w'=>e=K (D (decide (u.get i<=v.get i)))/\BW B w w':=by
 have f:=Aa a 0;have g:=Aa a 1;have h:=Aa a 2;have j:=Aa a 3;have k:=Aa b 0;have l:=Aa b 1;have m:=Aa b 2;have n:=Aa b 3;simp at f g h j k l m n;clear a b;rcases ve o with rfl|rfl|rfl|rfl
 all_goals
  go_enter func110,ntmps110;go_wp2;go_quiet (fail);go_wp2;go_ret;exact⟨rfl,⟨rfl,rfl,rfl,Nat.le_refl _,λ_ _=>rfl⟩⟩
def Xt (u v:V4) (w:WD) :
  CS prog 65 #[u.val,v.val] w λe w'=>e=K (D (u.fits v))/\BW w.heap.size w w':=by
 go_enter func65,ntmps65;go_wp2_with fail;refine(Aex 110 _ (λi=>decide (u.get i<=v.get i)) _ Anu ?_).mono ?_
 .intro i w1 c b;exact Anv u v w.heap.size (w.heap.size+1) i _ w1 c (Ae b (Aj _ (Ah _ _)) (by simp;omega)) (Ae b (A5 _ _ as9) as9)
 .rintro e d ⟨rfl,a⟩;go_wp2;go_ret;exact⟨rfl,(Bn.alloc as9 _).trans (a.mono (by simp;omega))⟩
def V4.zero:V4:=⟨0,0,0,0⟩
def V4.told (v:V4) (e:Int):V4×Int:=if v.right=true then(v,0)else(V4.zero,e)
def Aaz (v:V4) (e:Int) (w:WD) :
  CS prog 127 #[v.val,G O e] w λh w'=>h=K (E #[(v.told e).1.val,G O (v.told e).2])/\BW w.heap.size w w':=by
 go_enter func127,ntmps127;go_wp2_with fail;refine(I9 v _).mono ?_;rintro e l ⟨rfl,a⟩;have g:=Ae a (A5 (b:=w.heap.size+1) _ _ as9) as9;have f:=Aa g;have k:=Af g;have d:=Ae a (Aj _ (Ah _ _)) (by simp;omega);have j:=Aa d;clear g d;have i:=(Bn.alloc as9 _).trans (a.mono (by simp;omega));cases hr:v.right
 all_goals
  have c:=Hh hr;clear hr;go_wp2;refine Ak (v:=E #[(v.told e).1.val,G O (v.told e).2]) (by simp[results,results127,go_sem,f,V4.told,c.out,V4.zero]) rfl ⟨rfl,?_⟩;refine Cs ?_ as9 _;refine Cs ?_ as9 _;refine Cs ?_ as9 _;refine Cs ?_ as9 _;exact i
def dv (s:ByteArray) (k:Nat):Int:=((s.data.toList.getD k 0).toNat:Int)
def Gp (c:Int):Bool:=(decide (97<=c) && decide (c<=122)) || (decide (48<=c) && decide (c<=57)) || decide (c=45)
def E5 (s:ByteArray):Nat->Bool
 | 0=>true
 | k+1=>E5 s k && Gp (dv s k)
def Bp (s:ByteArray):Bool:=decide (1<=s.size) && decide (s.size<=16) && E5 s s.size
def Anw {s:ByteArray} {k n:Nat} (h:E5 s n=true) (a:k<=n):E5 s k=true:=by
 induction n with
 | zero=>
  have:k=0:=ao9
  subst this;rfl
 | succ n ih=>
  simp only[E5,Eh]at h;by_cases c:k=n+1
  .subst c;simp[E5,h]
  .exact ih h.1 ao9
def Sg {s:ByteArray} {k:Nat} (a:k<s.size) (h:Gp (dv s k)=false):E5 s s.size=false:=by
 rw[Gl];intro c;have:=Anw c (show k+1<=s.size by omega);simp[E5,h]at this
def Qq {P:Program} {t:TypeId} (h:P.underlying t=Z .string) (s:ByteArray) (k:Nat) (i:Int) (c:i=k) (d:k<s.size) (w:WD):(Instr.index t (Y s) (G O i)).run P w=.ok (G .u8 (dv s k)) w:=by
 subst c;rw[run_index_string w t s O k h,Mb ⟨ao9,ao9⟩]
 have e:s[((k:Int)).toNat]'(by omega)=s.data.toList.getD k 0:=by
  have b:k<s.data.size:=d;have a:s.data.toList.getD k 0=s.data.toList[k]:=by simp only[List.getD,Array.getElem?_toList,Array.getElem_toList];rw[O6 b];rfl
  rw[a];rfl
 rw[e];rfl
def Aey (c:Int):(Gp c=true/\((97<=c/\c<=122)\/(48<=c/\c<=57)\/c=45))\/(Gp c=false/\((c<48/\c≠45)\/(57<c/\c<97)\/122<c)):=by
 by_cases h:(97<=c/\c<=122)\/(48<=c/\c<=57)\/c=45
 .exact .inl ⟨by unfold Gp;simp;omega,h⟩
 .refine .inr ⟨?_,ao9⟩;rw[Gl];intro a;unfold Gp at a;simp at a;omega
def Xu (s:ByteArray) (w:WD) (hs:s.size<=maxLen):CS prog 78 #[Y s] w λe w'=>e=K (D (Bp s))/\BW w.heap.size w w':=by
 have q:∀(k:Nat),k<s.size->∀w,(Instr.index 9 (Y s) (G O (k:Int))).run prog w=.ok (G .u8 (dv s k)) w:=λk hk w=>Qq Dr s k k rfl hk w;have ad:s.size<=9223372036854775807:=hs;replace q:=Hh q;go_enter func78,ntmps78;go_wp2;go_loopw [3,4,7] (λ_ _ i wr=>∃k:Nat,i=G O k/\k<=s.size/\Hid (E5 s k=true)/\Hid (BW w.heap.size w wr)) (λ_ _ i _=>s.size-(intOf i).toNat)
 case atStart=>exact⟨0,rfl,As _,rfl,Below.refl _ _⟩
 case round=>
  obtain⟨k,rfl,hk,v,n⟩:=hrel;by_cases o:k<s.size
  .have x:(k:Int)<s.size:=ao9;have z:=q k o;obtain⟨c,l⟩:=Ex (dv s k);rw[<-l]at z;have y:=Aey c;rcases y with⟨a,h|h|h⟩|⟨a,h|h|h⟩
   .have m:decide (c<97)=false:=(by simp;omega);have p:decide (122<c)=false:=(by simp;omega);have r:decide (c<48)=false:=(by simp;omega);have t:decide (57<c)=true:=by simp;omega
    have u:(c != 45)=true:=by simp;try omega
    have b:Gp (dv s k)=true:=(by rw[<-l];exact a);replace⟨l,a,b,h⟩:=H4 l a b h;have f:E5 s (k+1)=true:=(by simp only[E5,v.out,b.out,Pi]);replace f:=Hh f;go_wp2;go_roundw
    case rel=>exact⟨k+1,by go_num,ao9,f.out,n.out⟩
    case measure=>simp[intOf];omega
   .have m:decide (c<97)=true:=(by simp;omega);have p:decide (122<c)=false:=(by simp;omega);have r:decide (c<48)=false:=(by simp;omega);have t:decide (57<c)=false:=by simp;omega
    have u:(c != 45)=true:=by simp;try omega
    have b:Gp (dv s k)=true:=(by rw[<-l];exact a);replace⟨l,a,b,h⟩:=H4 l a b h;have f:E5 s (k+1)=true:=(by simp only[E5,v.out,b.out,Pi]);replace f:=Hh f;go_wp2;go_roundw
    case rel=>exact⟨k+1,by go_num,ao9,f.out,n.out⟩
    case measure=>simp[intOf];omega
   .have m:decide (c<97)=true:=(by simp;omega);have p:decide (122<c)=false:=(by simp;omega);have r:decide (c<48)=true:=(by simp;omega);have t:decide (57<c)=false:=by simp;omega
    have u:(c != 45)=false:=by simp;try omega
    have b:Gp (dv s k)=true:=(by rw[<-l];exact a);replace⟨l,a,b,h⟩:=H4 l a b h;have f:E5 s (k+1)=true:=(by simp only[E5,v.out,b.out,Pi]);replace f:=Hh f;go_wp2;go_roundw
    case rel=>exact⟨k+1,by go_num,ao9,f.out,n.out⟩
    case measure=>simp[intOf];omega
   .have m:decide (c<97)=true:=(by simp;omega);have p:decide (122<c)=false:=(by simp;omega);have r:decide (c<48)=true:=(by simp;omega);have t:decide (57<c)=false:=by simp;omega
    have u:(c != 45)=true:=by simp;try omega
    have d:Gp (dv s k)=false:=(by rw[<-l];exact a);replace⟨l,a,d,h⟩:=H4 l a d h;have j:Bp s=false:=(by unfold Bp;rw[Sg o d.out];simp);replace j:=Hh j;go_wp2;go_ret;exact⟨by rw[j.out];rfl,n.out⟩
   .have m:decide (c<97)=true:=(by simp;omega);have p:decide (122<c)=false:=(by simp;omega);have r:decide (c<48)=false:=(by simp;omega);have t:decide (57<c)=true:=by simp;omega
    have u:(c != 45)=true:=by simp;try omega
    have d:Gp (dv s k)=false:=(by rw[<-l];exact a);replace⟨l,a,d,h⟩:=H4 l a d h;have j:Bp s=false:=(by unfold Bp;rw[Sg o d.out];simp);replace j:=Hh j;go_wp2;go_ret;exact⟨by rw[j.out];rfl,n.out⟩
   .have m:decide (c<97)=false:=(by simp;omega);have p:decide (122<c)=true:=(by simp;omega);have r:decide (c<48)=false:=(by simp;omega);have t:decide (57<c)=true:=by simp;omega
    have u:(c != 45)=true:=by simp;try omega
    have d:Gp (dv s k)=false:=(by rw[<-l];exact a);replace⟨l,a,d,h⟩:=H4 l a d h;have j:Bp s=false:=(by unfold Bp;rw[Sg o d.out];simp);replace j:=Hh j;go_wp2;go_ret;exact⟨by rw[j.out];rfl,n.out⟩
  .have x:¬(k:Int)<s.size:=ao9;have ac:k=s.size:=ao9;subst ac
   have j:Bp s=(decide ((1:Int)<=s.size) && decide ((s.size:Int)<=16)):=by
    unfold Bp;rw[v.out,Bool.and_true]
    congr 1<;>exact Aav.2 ao9
   by_cases h1:(1:Int)<=s.size
   .have m:decide ((1:Int)<=s.size)=true:=(by simpa using h1);by_cases h2:(s.size:Int)<=16
    .have p:decide ((s.size:Int)<=16)=true:=(by simpa using h2);have g:Bp s=true:=(by rw[j,m,p];rfl);replace⟨j,g⟩:=H2 j g;go_wp2;go_ret;exact⟨by rw[g.out];rfl,n.out⟩
    .have p:decide ((s.size:Int)<=16)=false:=(by simpa using h2);have g:Bp s=false:=(by rw[j,m,p];rfl);replace⟨j,g⟩:=H2 j g;go_wp2;go_ret;exact⟨by rw[g.out];rfl,n.out⟩
   .have m:decide ((1:Int)<=s.size)=false:=(by simpa using h1);have g:Bp s=false:=(by rw[j,m];rfl);replace⟨j,g⟩:=H2 j g;go_wp2;go_ret;exact⟨by rw[g.out];rfl,n.out⟩
def Aez (s:ByteArray) (w:WD) (v:s.size<=maxLen):CS prog 111 #[Y s] w λe w'=>e=K (D (Bp s))/\BW w.heap.size w w':=by
 have q:∀(k:Nat),k<s.size->∀w,(Instr.index 9 (Y s) (G O (k:Int))).run prog w=.ok (G .u8 (dv s k)) w:=λk hk w=>Qq Dr s k k rfl hk w;replace q:=Hh q;by_cases h1:s.size<1
 .have n:decide ((s.size:Int)<1)=true:=At ao9;have g:Bp s=false:=by unfold Bp;rw[show decide (1<=s.size)=false from Au ao9];rfl
  replace⟨g,v⟩:=H2 g v;go_enter func111,ntmps111;go_wp2;go_ret;exact⟨by rw[g.out];rfl,Below.refl _ _⟩
 have n:decide ((s.size:Int)<1)=false:=Au ao9;by_cases h2:16<s.size
 .have o:decide ((16:Int)<s.size)=true:=At ao9;have g:Bp s=false:=by unfold Bp;rw[show decide (s.size<=16)=false from Au ao9];simp
  replace⟨g,v⟩:=H2 g v;go_enter func111,ntmps111;go_wp2;go_ret;exact⟨by rw[g.out];rfl,Below.refl _ _⟩
 have o:decide ((16:Int)<s.size)=false:=Au ao9;go_enter func111,ntmps111;go_wp2;clear n o;go_loopw [3,4] (λi _ wr=>∃k:Nat,i=G O k/\k<=s.size/\Hid (E5 s k=true)/\Hid (BW w.heap.size w wr)) (λi _ _=>s.size-(intOf i).toNat)
 case atStart=>exact⟨0,rfl,As _,rfl,Below.refl _ _⟩
 case round=>
  obtain⟨k,rfl,hk,x,p⟩:=hrel;by_cases m:k<s.size
  .have y:(k:Int)<s.size:=ao9;have ac:=q k m;obtain⟨c,j⟩:=Ex (dv s k);rw[<-j]at ac;have z:=Aey c;rcases z with⟨a,h|h|h⟩|⟨a,h|h|h⟩
   .have n:decide (97<=c)=true:=(by simp;omega);have o:decide (c<=122)=true:=(by simp;omega);have r:decide (48<=c)=true:=(by simp;omega);have t:decide (c<=57)=false:=by simp;omega
    have u:(c == 45)=false:=by simp;try omega
    have b:Gp (dv s k)=true:=(by rw[<-j];exact a);replace⟨j,a,b,h⟩:=H4 j a b h;have f:E5 s (k+1)=true:=(by simp only[E5,x.out,b.out,Pi]);replace f:=Hh f;go_wp2;go_roundw
    case rel=>exact⟨k+1,by go_num,ao9,f.out,p.out⟩
    case measure=>simp[intOf];omega
   .have n:decide (97<=c)=false:=(by simp;omega);have o:decide (c<=122)=true:=(by simp;omega);have r:decide (48<=c)=true:=(by simp;omega);have t:decide (c<=57)=true:=by simp;omega
    have u:(c == 45)=false:=by simp;try omega
    have b:Gp (dv s k)=true:=(by rw[<-j];exact a);replace⟨j,a,b,h⟩:=H4 j a b h;have f:E5 s (k+1)=true:=(by simp only[E5,x.out,b.out,Pi]);replace f:=Hh f;go_wp2;go_roundw
    case rel=>exact⟨k+1,by go_num,ao9,f.out,p.out⟩
    case measure=>simp[intOf];omega
   .have n:decide (97<=c)=false:=(by simp;omega);have o:decide (c<=122)=true:=(by simp;omega);have r:decide (48<=c)=false:=(by simp;omega);have t:decide (c<=57)=true:=by simp;omega
    have u:(c == 45)=true:=by simp;try omega
    have b:Gp (dv s k)=true:=(by rw[<-j];exact a);replace⟨j,a,b,h⟩:=H4 j a b h;have f:E5 s (k+1)=true:=(by simp only[E5,x.out,b.out,Pi]);replace f:=Hh f;go_wp2;go_roundw
    case rel=>exact⟨k+1,by go_num,ao9,f.out,p.out⟩
    case measure=>simp[intOf];omega
   .have n:decide (97<=c)=false:=(by simp;omega);have o:decide (c<=122)=true:=(by simp;omega);have r:decide (48<=c)=false:=(by simp;omega);have t:decide (c<=57)=true:=by simp;omega
    have u:(c == 45)=false:=by simp;try omega
    have d:Gp (dv s k)=false:=(by rw[<-j];exact a);replace⟨j,a,d,h⟩:=H4 j a d h;have l:Bp s=false:=(by unfold Bp;rw[Sg m d.out];simp);replace l:=Hh l;go_wp2;go_ret;exact⟨by rw[l.out];rfl,p.out⟩
   .have n:decide (97<=c)=false:=(by simp;omega);have o:decide (c<=122)=true:=(by simp;omega);have r:decide (48<=c)=true:=(by simp;omega);have t:decide (c<=57)=false:=by simp;omega
    have u:(c == 45)=false:=by simp;try omega
    have d:Gp (dv s k)=false:=(by rw[<-j];exact a);replace⟨j,a,d,h⟩:=H4 j a d h;have l:Bp s=false:=(by unfold Bp;rw[Sg m d.out];simp);replace l:=Hh l;go_wp2;go_ret;exact⟨by rw[l.out];rfl,p.out⟩
   .have n:decide (97<=c)=true:=(by simp;omega);have o:decide (c<=122)=false:=(by simp;omega);have r:decide (48<=c)=true:=(by simp;omega);have t:decide (c<=57)=false:=by simp;omega
    have u:(c == 45)=false:=by simp;try omega
    have d:Gp (dv s k)=false:=(by rw[<-j];exact a);replace⟨j,a,d,h⟩:=H4 j a d h;have l:Bp s=false:=(by unfold Bp;rw[Sg m d.out];simp);replace l:=Hh l;go_wp2;go_ret;exact⟨by rw[l.out];rfl,p.out⟩
  .have y:¬(k:Int)<s.size:=ao9;have ad:k=s.size:=ao9;subst ad;have g:Bp s=true:=(by unfold Bp;rw[x.out];simp;omega);replace g:=Hh g;go_wp2;go_ret;exact⟨by rw[g.out];rfl,p.out⟩
def Pj (c:Int):Bool:=decide (48<=c) && decide (c<=57)
def Gc (s:ByteArray):Nat->Bool
 | 0=>true
 | k+1=>Gc s k && Pj (dv s k)
def En (s:ByteArray):Nat->Int
 | 0=>0
 | k+1=>10*En s k+(dv s k-48)
def Bl (s:ByteArray) (d:Nat):Int:=
 if s.size=0\/d<s.size\/(1<s.size/\dv s 0=48)then -1 else if Gc s s.size=true then En s s.size else -1
def Anx {s:ByteArray} {k n:Nat} (h:Gc s n=true) (a:k<=n):Gc s k=true:=by
 induction n with
 | zero=>
  have:k=0:=ao9
  subst this;rfl
 | succ n ih=>
  simp only[Gc,Eh]at h;by_cases c:k=n+1
  .subst c;simp[Gc,h]
  .exact ih h.1 ao9
def Ae0 {s:ByteArray} {k:Nat} (a:k<s.size) (h:Pj (dv s k)=false):¬Gc s s.size=true:=by
 intro c;have:=Anx c (show k+1<=s.size by omega);simp[Gc,h]at this
def Sh {c:Int}:Pj c=true↔48<=c/\c<=57:=by simp[Pj]
def Anz {s:ByteArray} {k:Nat} (h:Gc s k=true):0<=En s k/\En s k<10 ^ k:=by
 induction k with
 | zero=>simp[En]
 | succ k ih=>
  simp only[Gc,Eh]at h;obtain⟨h1,a⟩:=ih h.1;obtain⟨b,c⟩:=Sh.1 h.2;rw[Int.pow_succ];simp only[En];omega
def Ae1 {s:ByteArray} {k:Nat} (h:Gc s k=true) (b:k<=13):0<=En s k/\En s k<10000000000000:=by
 obtain⟨h1,a⟩:=Anz h;refine⟨h1,Int.lt_of_lt_of_le a ?_⟩
 rcases(show k=0\/k=1\/k=2\/k=3\/k=4\/k=5\/k=6\/k=7\/k=8\/k=9\/k=10\/k=11\/k=12\/k=13 by omega)with rfl|rfl|rfl|rfl|rfl|rfl|rfl|rfl|rfl|rfl|rfl|rfl|rfl|rfl<;>decide
def Ae2 (s:ByteArray) (w:WD) (p:s.size<=maxLen):CS prog 126 #[Y s] w λe w'=>e=K (G O (Bl s 10))/\BW w.heap.size w w':=by
 have a:∀(k:Nat),k<s.size->∀w,(Instr.index 9 (Y s) (G O (k:Int))).run prog w=.ok (G .u8 (dv s k)) w:=λk hk w=>Qq Dr s k k rfl hk w;by_cases h0:s.size=0
 .have k0:((s.size:Int) == 0)=true:=by rw[h0];rfl
  have b:Bl s 10=-1:=by unfold Bl;rw[Ad (.inl h0)]
  replace⟨h0,b,p,a⟩:=H4 h0 b p a;go_enter Xn,Xj;go_wp2;go_ret;exact⟨by rw[b.out];rfl,Below.refl _ _⟩
 have k0:((s.size:Int) == 0)=false:=by simp only[Bj];omega
 by_cases h1:10<s.size
 .have y:decide ((10:Int)<s.size)=true:=At ao9;have b:Bl s 10=-1:=by unfold Bl;rw[Ad (.inr (.inl h1))]
  replace⟨h0,b,p,a⟩:=H4 h0 b p a;go_enter Xn,Xj;go_wp2;go_ret;exact⟨by rw[b.out];rfl,Below.refl _ _⟩
 have y:decide ((10:Int)<s.size)=false:=Au ao9;have u:∀w,(Instr.index 9 (Y s) (G O 0)).run prog w=.ok (G .u8 (dv s 0)) w:=a 0 ao9;obtain⟨c0,d⟩:=Ex (dv s 0);rw[<-d]at u;by_cases t:1<s.size/\c0=48
 .have z:decide ((1:Int)<s.size)=true:=At ao9;have k3:(c0 == 48)=true:=by simp[t.2]
  have b:Bl s 10=-1:=by unfold Bl;rw[Ad (.inr (.inr (by rw[<-d];exact t)))]
  replace⟨h0,h1,t,b,p,a,d⟩:=H7 h0 h1 t b p a d;go_enter Xn,Xj;go_wp2;go_ret;exact⟨by rw[b.out];rfl,Below.refl _ _⟩
 have am:decide ((1:Int)<s.size)=false\/(decide ((1:Int)<s.size)=true/\(c0 == 48)=false):=by
  by_cases c:1<s.size
  .refine .inr ⟨At ao9,?_⟩;simp only[Bj];intro e;exact t ⟨c,e⟩
  .exact .inl (Au ao9)
 have g:¬(s.size=0\/10<s.size\/(1<s.size/\dv s 0=48)):=by rw[<-d];omega
 have l:s.size<=13:=ao9
 have aA:s.size<=13:=ao9
 clear t h1 h0 p;replace⟨a,g,l,d⟩:=H4 a g l d;rcases am with z|⟨z,k3⟩
 all_goals
  go_enter Xn,Xj;go_wp2;go_loopw [3,4,25] (λn _ i wr=>∃k:Nat,i=G O k/\n=G O (En s k)/\k<=s.size/\Hid (Gc s k=true)/\Hid (BW w.heap.size w wr)) (λ_ _ i _=>s.size-(intOf i).toNat)
  case atStart=>exact⟨0,rfl,rfl,As _,rfl,Below.refl _ _⟩
  case round=>
   obtain⟨k,rfl,rfl,hk,hy,hB⟩:=hrel;clear k0 y u
   try clear k3
   clear z;by_cases v:k<s.size
   .have ac:(k:Int)<s.size:=ao9;have af:=a k v;obtain⟨c,h⟩:=Ex (dv s k);rw[<-h]at af;by_cases j:Pj c=true
    .obtain ⟨q1,q2⟩:=Sh.1 j;have y:decide (c<48)=false:=Au ao9;have z:decide (57<c)=false:=Au ao9;have r:Gc s (k+1)=true:=(by simp only[Gc,hy.out,<-h,j,Pi]);obtain⟨n,x⟩:=Ex (En s k);rw[<-x];have m:=Ae1 hy.out (by have:=l.out;omega);rw[<-x]at m;have an:IntKind.i64.wrap (n*10)=n*10:=Fr _ ao9;have ao:IntKind.u8.wrap (c-48)=c-48:=IntWalk.u8_in _ ao9;have ap:IntKind.i64.wrap (c-48)=c-48:=Fr _ ao9;have av:IntKind.i64.wrap (n*10+(c-48))=n*10+(c-48):=Fr _ ao9;have f:En s (k+1)=10*n+(c-48):=(by simp only[En,<-x,<-h]);replace⟨h,j,q1,q2,r,x,m,f⟩:=H8 h j q1 q2 r x m f;go_wp2;go_roundw
     case rel=>exact⟨k+1,by go_num,by first|rfl|(rw[f.out];done)|(rw[f.out];go_num)|(rw[f.out];congr 1;omega)|(rw[f.out];congr 1),ao9,r.out,hB.out⟩
     case measure=>simp[intOf];omega
    .have o:Pj (dv s k)=false:=(by rw[<-h];simpa using j);have b:Bl s 10=-1:=(by unfold Bl;rw[Ac g.out,Ac (Ae0 v o)]);have ad:c<48\/57<c:=(by apply Im;intro q;exact j (Sh.2 ao9));replace⟨h,j,o,b⟩:=H4 h j o b;rcases ad with q|q
     .have y:=At q;go_wp2;go_ret;exact⟨by rw[b.out];rfl,hB.out⟩
     .have y:decide (c<48)=false:=Au ao9;have z:=At q;go_wp2;go_ret;exact⟨by rw[b.out];rfl,hB.out⟩
   .have ac:¬(k:Int)<s.size:=ao9;have al:k=s.size:=ao9;subst al;have b:Bl s 10=En s s.size:=(by unfold Bl;rw[Ac g.out,Ad hy.out]);replace b:=Hh b;go_wp2;go_ret;exact⟨by rw[b.out];rfl,hB.out⟩
def Xv (s:ByteArray) (d:Nat) (w:WD) (r:s.size<=maxLen) (av:d<=13):CS prog 168 #[Y s,G O (d:Int)] w λe w'=>e=K (G O (Bl s d))/\BW w.heap.size w w':=by
 have a:∀(k:Nat),k<s.size->∀w,(Instr.index 9 (Y s) (G O (k:Int))).run prog w=.ok (G .u8 (dv s k)) w:=λk hk w=>Qq Dr s k k rfl hk w;by_cases h0:s.size=0
 .have k0:((s.size:Int) == 0)=true:=by rw[h0];rfl
  have z:decide ((s.size:Int)<1)=true:=At ao9;have b:Bl s d=-1:=by unfold Bl;rw[Ad (.inl h0)]
  replace⟨h0,b,r,a⟩:=H4 h0 b r a;go_enter Xo,Xk;go_wp2;go_ret;exact⟨by rw[b.out];rfl,Below.refl _ _⟩
 have k0:((s.size:Int) == 0)=false:=by simp only[Bj];omega
 have z:decide ((s.size:Int)<1)=false:=Au ao9;by_cases h1:d<s.size
 .have k1:decide ((d:Int)<s.size)=true:=At ao9;have b:Bl s d=-1:=by unfold Bl;rw[Ad (.inr (.inl h1))]
  replace⟨h0,b,r,a⟩:=H4 h0 b r a;go_enter Xo,Xk;go_wp2;go_ret;exact⟨by rw[b.out];rfl,Below.refl _ _⟩
 have k1:decide ((d:Int)<s.size)=false:=Au ao9;have an:=Au h1;have v:∀w,(Instr.index 9 (Y s) (G O 0)).run prog w=.ok (G .u8 (dv s 0)) w:=a 0 ao9;obtain⟨c0,f⟩:=Ex (dv s 0);rw[<-f]at v;by_cases u:1<s.size/\c0=48
 .have k2:decide ((1:Int)<s.size)=true:=At ao9;have k3:(c0 == 48)=true:=by simp[u.2]
  have b:Bl s d=-1:=by unfold Bl;rw[Ad (.inr (.inr (by rw[<-f];exact u)))]
  replace⟨h0,h1,u,b,r,a,f⟩:=H7 h0 h1 u b r a f;go_enter Xo,Xk;go_wp2;go_ret;exact⟨by rw[b.out];rfl,Below.refl _ _⟩
 have am:decide ((1:Int)<s.size)=false\/(decide ((1:Int)<s.size)=true/\(c0 == 48)=false):=by
  by_cases c:1<s.size
  .refine .inr ⟨At ao9,?_⟩;simp only[Bj];intro e;exact u ⟨c,e⟩
  .exact .inl (Au ao9)
 have h:¬(s.size=0\/d<s.size\/(1<s.size/\dv s 0=48)):=by rw[<-f];omega
 have m:s.size<=13:=ao9
 have aD:s.size<=13:=ao9
 clear u h1 h0 r;replace⟨a,h,m,f⟩:=H4 a h m f;rcases am with k2|⟨k2,k3⟩
 all_goals
  go_enter Xo,Xk;go_wp2;go_loopw [5,6] (λn i wr=>∃k:Nat,i=G O k/\n=G O (En s k)/\k<=s.size/\Hid (Gc s k=true)/\Hid (BW w.heap.size w wr)) (λ_ i _=>s.size-(intOf i).toNat)
  case atStart=>exact⟨0,rfl,rfl,As _,rfl,Below.refl _ _⟩
  case round=>
   obtain⟨k,rfl,rfl,hk,hy,hB⟩:=hrel;clear k0 z k1 an v
   try clear k3
   clear k2;by_cases x:k<s.size
   .have ac:(k:Int)<s.size:=ao9;have af:=a k x;obtain⟨c,j⟩:=Ex (dv s k);rw[<-j]at af;by_cases l:Pj c=true
    .obtain ⟨q1,q2⟩:=Sh.1 l;have k1:decide (c<48)=false:=Au ao9;have k2:decide (57<c)=false:=Au ao9;have t:Gc s (k+1)=true:=(by simp only[Gc,hy.out,<-j,l,Pi]);obtain⟨n,y⟩:=Ex (En s k);rw[<-y];have o:=Ae1 hy.out (by have:=m.out;omega);rw[<-y]at o;have ao:IntKind.i64.wrap (10*n)=10*n:=Fr _ ao9;have aA:IntKind.u8.wrap (c-48)=c-48:=IntWalk.u8_in _ ao9;have aB:IntKind.i64.wrap (c-48)=c-48:=Fr _ ao9;have aC:IntKind.i64.wrap (n*10+(c-48))=n*10+(c-48):=Fr _ ao9;have ap:IntKind.i64.wrap (10*n+(c-48))=10*n+(c-48):=Fr _ ao9;have g:En s (k+1)=10*n+(c-48):=(by simp only[En,<-y,<-j]);replace⟨j,l,q1,q2,t,y,o,g⟩:=H8 j l q1 q2 t y o g;go_wp2;go_roundw
     case rel=>exact⟨k+1,by go_num,by first|rfl|(rw[g.out];done)|(rw[g.out];go_num)|(rw[g.out];congr 1;omega)|(rw[g.out];congr 1),ao9,t.out,hB.out⟩
     case measure=>simp[intOf];omega
    .have p:Pj (dv s k)=false:=(by rw[<-j];simpa using l);have b:Bl s d=-1:=(by unfold Bl;rw[Ac h.out,Ac (Ae0 x p)]);have ad:c<48\/57<c:=(by apply Im;intro q;exact l (Sh.2 ao9));replace⟨j,l,p,b⟩:=H4 j l p b;rcases ad with q|q
     .have k1:=At q;go_wp2;go_ret;exact⟨by rw[b.out];rfl,hB.out⟩
     .have k1:decide (c<48)=false:=Au ao9;have k2:=At q;go_wp2;go_ret;exact⟨by rw[b.out];rfl,hB.out⟩
   .have ac:¬(k:Int)<s.size:=ao9;have al:k=s.size:=ao9;subst al;have b:Bl s d=En s s.size:=(by unfold Bl;rw[Ac h.out,Ad hy.out]);replace b:=Hh b;go_wp2;go_ret;exact⟨by rw[b.out];rfl,hB.out⟩
section
variable {w w':WD} {b b' o B:Nat} {c:Array VL} {T:TypeId} {fr:Nat×Nat} {x y:Obj} {v:VL}
end
def Ast {P:Program} {t e:TypeId} {i:TypeInfo} (d:P.underlying t=Z (.slice e)) (f:P.info? e=Z i) (b a cap n:Nat) (x:Int) (j:x=n) (g:n<=cap) (w:WD) :
  (Instr.slice t (J (Z ⟨b,0,I⟩) a cap) I (Z (G O x)) (Z (G O x))).run P w=.ok (J (Z ⟨b,0,I⟩) n n) w:=by
 subst j
 have h1:∀(y:Nat) (_:n<=y) c,(Instr.sliceBound (G O (n:Int)) y c).run P w=.ok n w:=λy h c=>by
  simp[Instr.sliceBound,asIntOf,h]
 simp[Instr.slice,Instr.sliceBounds,Ng d,h1 cap g,h1 n Ln,sizeOf,typeInfo,f,Addr.add]
def Acf (F:FuncId) (y:Array VL) (p:Nat->Int) (w:WD)
  (hF:∀args w,(callFunc F args).run prog w=.ok (.enter F args) w)
  (H:∀(i:Nat) (w1:WD),i<4->BW w.heap.size w w1->CS prog F (#[G O i]++y) w1 λe w2=>e=K (G O (p i))/\BW w1.heap.size w1 w2) :
  CS prog 318 #[.func (.func F) #[] y] w λe w'=>e=K (.agg #[G O (p 0),G O (p 1),G O (p 2),G O (p 3)])/\BW w.heap.size w w':=by
 have H':=Hh H;clear H;go_enter func318,ntmps318;go_wp2;go_loopw [4,5] (λ_ i wr=>∃k:Nat,k<=4/\i=G O k/\BW w.heap.size w wr/\(∃x,wr.heap[w.heap.size]?=Z (V #[x,x,x,x] 30 (0,0)))/\(∃f:Nat->Int,wr.heap[w.heap.size+1]?=Z (V #[G O (f 0),G O (f 1),G O (f 2),G O (f 3)] 30 (0,0))/\∀j,j<k->f j=p j)) (λ_ i _=>4-(intOf i).toNat)
 case atStart=>exact⟨0,ao9,rfl,Bn.alloc as9 _,⟨_,Aj _ (Ah _ _)⟩,λ_=>0,A5 _ _ as9,ao9⟩
 case round=>
  obtain⟨k,hk,rfl,r,⟨x,hx⟩,f,hf,l⟩:=hrel;have m:=Hh l;clear l;have c:=Hh hx;have b:=Hh hf;clear hx hf;by_cases q:k<4
  .have hi:(k:Int)<4:=ao9;go_wp2_with fail;refine(H' k _ q r).mono ?_;rintro e w2 ⟨rfl,a⟩;have g:=Ae a b.out (Ab b.out);have z:=Ae a c.out (Ab c.out);have cc:=Aa g;have ff:=Af g;have g':=Hh g;clear g;have o:=Hh z;clear z;have d:=a.mono (Ab b.out);have s:=r.trans (d.mono ao9)
   obtain⟨n,t,u⟩:∃n:Nat->Int,Hid (∀j,j<k+1->n j=p j)/\Hid (∀j,n j=if j=k then p k else f j):=by
    refine⟨λj=>if j=k then p k else f j,λj hj=>?_,λ_=>rfl⟩;show(if j=k then p k else f j)=p j;split
    .next h=>rw[h]
    .exact m.out j ao9
   rcases ve q with rfl|rfl|rfl|rfl
   all_goals
    clear a d;go_wp2;go_roundw
    case rel=>
     refine⟨_,q,by go_num,s.setCell as9 _,⟨x,Cv ao9 _ o.out⟩,n,?_,t.out⟩;rw[Am g'.out];simp[u.out]
    case measure=>simp[intOf]
  .have hi:¬(k:Int)<4:=ao9;have l:=m.out;have cc:=Aa b.out;have cx:=Aa c.out;have fx:=Af c.out;have p0:=l 0 ao9;have p1:=l 1 ao9;have p2:=l 2 ao9;have p3:=l 3 ao9;clear l;go_wp2;refine Ak (v:=.agg #[G O (p 0),G O (p 1),G O (p 2),G O (p 3)]) (by simp[results,results318,go_sem,cx]) rfl ⟨rfl,?_⟩;exact(((r.setCell Ln _).setCell Ln _).setCell Ln _).setCell Ln _
def Asu:∀args w,(callFunc 333 args).run prog w=.ok (.enter 333 args) w:=I8 func333 ad9 (by simp[f333])
def Asv (u v:V4) (c d:Nat) (i:Nat) (w:WD) (o:i<4)
  (a:w.heap[c]?=Z (V u.cells 30 (0,0))) (b:w.heap[d]?=Z (V v.cells 30 (0,0))) :
  CS prog 333 (#[G O i]++#[Q (Z ⟨c,0,I⟩),Q (Z ⟨d,0,I⟩)]) w λe w'=>e=K (G O (min (u.get i) (v.get i)))/\BW w.heap.size w w':=by
 have f:=Aa a 0;have g:=Aa a 1;have h:=Aa a 2;have j:=Aa a 3;have k:=Aa b 0;have l:=Aa b 1;have m:=Aa b 2;have n:=Aa b 3;simp at f g h j k l m n;clear a b;rcases ve o with rfl|rfl|rfl|rfl
 all_goals
  go_enter func333,ntmps333;go_wp2;go_quiet (fail);go_wp2
  all_goals
   go_ret;refine⟨?_,⟨rfl,rfl,rfl,Nat.le_refl _,λ_ _=>rfl⟩⟩;simp[V4.get];omega
def V4.least (u v:V4):V4:=⟨min u.a v.a,min u.b v.b,min u.c v.c,min u.d v.d⟩
def Asw (u v:V4) (w:WD) :
  CS prog 314 #[u.val,v.val] w λe w'=>e=K (u.least v).val/\BW w.heap.size w w':=by
 go_enter func314,ntmps314;go_wp2_with fail;refine(Acf 333 _ (λi=>min (u.get i) (v.get i)) _ Asu ?_).mono ?_
 .intro i w1 f c;exact Asv u v w.heap.size (w.heap.size+1) i w1 f (Ae c (Aj _ (Aj _ (Ah _ _))) (by simp;omega)) (Ae c (Aj _ (A5 _ _ as9)) as9)
 .rintro e j ⟨rfl,a⟩;have g:=Ae a (A5 (b:=w.heap.size+2) _ _ as9) as9;have d:=Aa g;have h:=Af g;clear g;go_wp2;refine Ak (v:=(u.least v).val) (by simp[results,results314,go_sem,d,V4.least,V4.get]) rfl ⟨rfl,?_⟩;refine Cs ?_ (by simp;omega) _;refine Cs ?_ (by simp;omega) _;refine Cs ?_ (by simp;omega) _;refine Cs ?_ (by simp;omega) _;exact((Bn.alloc as9 _).alloc (by simp;omega) _).trans (a.mono (by simp;omega))
def Yx {v:V4} (h:v.right=true):(((0<=v.a/\v.a<=1073741824)/\(0<=v.b/\v.b<=1073741824))/\(0<=v.c/\v.c<=1073741824))/\(0<=v.d/\v.d<=1073741824):=by
 simpa[V4.right,gr]using h
def Asx:∀args w,(callFunc 319 args).run prog w=.ok (.enter 319 args) w:=I8 func319 ad9 (by simp[f319])
def Asy (u v:V4) (c d:Nat) (i:Nat) (w:WD) (q:i<4) (f:u.right=true) (g:v.right=true)
  (a:w.heap[c]?=Z (V u.cells 30 (0,0))) (b:w.heap[d]?=Z (V v.cells 30 (0,0))) :
  CS prog 319 (#[G O i]++#[Q (Z ⟨c,0,I⟩),Q (Z ⟨d,0,I⟩)]) w λe w'=>e=K (G O (u.get i-v.get i))/\BW w.heap.size w w':=by
 have h:=Aa a 0;have j:=Aa a 1;have k:=Aa a 2;have l:=Aa a 3;have m:=Aa b 0;have n:=Aa b 1;have o:=Aa b 2;have p:=Aa b 3;simp at h j k l m n o p;clear a b;obtain⟨⟨⟨⟨_,_⟩,⟨_,_⟩⟩,⟨_,_⟩⟩,⟨_,_⟩⟩:=Yx f;obtain⟨⟨⟨⟨_,_⟩,⟨_,_⟩⟩,⟨_,_⟩⟩,⟨_,_⟩⟩:=Yx g;clear f g;rcases ve q with rfl|rfl|rfl|rfl
 all_goals
  go_enter func319,ntmps319;go_wp2;go_quiet (fail);go_wp2;go_ret;refine⟨?_,⟨rfl,rfl,rfl,Nat.le_refl _,λ_ _=>rfl⟩⟩;simp[V4.get]
  done
def Asz:∀args w,(callFunc 320 args).run prog w=.ok (.enter 320 args) w:=I8 func320 ad9 (by simp[f320])
def As0 (u v:V4) (c d:Nat) (i:Nat) (w:WD) (q:i<4) (f:u.right=true) (g:v.right=true)
  (a:w.heap[c]?=Z (V u.cells 30 (0,0))) (b:w.heap[d]?=Z (V v.cells 30 (0,0))) :
  CS prog 320 (#[G O i]++#[Q (Z ⟨c,0,I⟩),Q (Z ⟨d,0,I⟩)]) w λe w'=>e=K (G O (u.get i+v.get i))/\BW w.heap.size w w':=by
 have h:=Aa a 0;have j:=Aa a 1;have k:=Aa a 2;have l:=Aa a 3;have m:=Aa b 0;have n:=Aa b 1;have o:=Aa b 2;have p:=Aa b 3;simp at h j k l m n o p;clear a b;obtain⟨⟨⟨⟨_,_⟩,⟨_,_⟩⟩,⟨_,_⟩⟩,⟨_,_⟩⟩:=Yx f;obtain⟨⟨⟨⟨_,_⟩,⟨_,_⟩⟩,⟨_,_⟩⟩,⟨_,_⟩⟩:=Yx g;clear f g;rcases ve q with rfl|rfl|rfl|rfl
 all_goals
  go_enter func320,ntmps320;go_wp2;go_quiet (fail);go_wp2;go_ret;refine⟨?_,⟨rfl,rfl,rfl,Nat.le_refl _,λ_ _=>rfl⟩⟩;simp[V4.get]
  done
