/- Parts of a proof. No condition. -/
import Derived.Test.YtimlcnhcjndijaaGreatDoorProg
import Derived.WalkLawsBesides
import Derived.WalkSpells
import Derived.Lib.Hide
import Derived.BigQuiet
set_option linter.all false
set_option maxRecDepth 100000
set_option maxHeartbeats 3200000
namespace Go.Proofs.YtimlcnhcjndijaaGreatDoor
open Go renaming World->WD,Value->VL,Calls->CS
open Go.RowKit renaming Below->BW
open Go.Proofs.Tryz
section
open Go.RowKit Go.Maps Go.Lib
def Hh{p:Prop}(h:p):Go.RowKit.Hid p:=h
def Ln{n:Nat}:n<=n:=Nat.le_refl _
def Ex{α:Sort _}(a:α):∃ x,x=a:=⟨_,rfl⟩
def Bn{w:WD}{o:Obj}:BW w.heap.size w (w.alloc o):=(Below.refl _ _).alloc Ln _
abbrev Jz:Array VL:=#[.int .i64 0,.string ⟨#[]⟩,.string ⟨#[]⟩,.int .i64 0,.int .i64 0,.int .i64 0,.int .i64 0,.int .i64 0,.int .i64 0,.int .i64 0,.int .i64 0,.int .i64 0,.bool false,.slice none 0 0,.int .i64 0,.int .i64 0,.int .i64 0,.bool false,.bool false,.int .i64 0,.slice none 0 0,.slice none 0 0]
def H2{pa pb:Prop}(a:pa)(b:pb):Go.RowKit.Hid pa/\Go.RowKit.Hid pb:=⟨a,b⟩
def H3{pa pb pc:Prop}(a:pa)(b:pb)(c:pc):Go.RowKit.Hid pa/\Go.RowKit.Hid pb/\Go.RowKit.Hid pc:=⟨a,b,c⟩
def H4{pa pb pc pd:Prop}(a:pa)(b:pb)(c:pc)(d:pd):Go.RowKit.Hid pa/\Go.RowKit.Hid pb/\Go.RowKit.Hid pc/\Go.RowKit.Hid pd:=⟨a,b,c,d⟩
def H5{pa pb pc pd pe:Prop}(a:pa)(b:pb)(c:pc)(d:pd)(e:pe):Go.RowKit.Hid pa/\Go.RowKit.Hid pb/\Go.RowKit.Hid pc/\Go.RowKit.Hid pd/\Go.RowKit.Hid pe:=⟨a,b,c,d,e⟩
def H6{pa pb pc pd pe pf:Prop}(a:pa)(b:pb)(c:pc)(d:pd)(e:pe)(f:pf):Go.RowKit.Hid pa/\Go.RowKit.Hid pb/\Go.RowKit.Hid pc/\Go.RowKit.Hid pd/\Go.RowKit.Hid pe/\Go.RowKit.Hid pf:=⟨a,b,c,d,e,f⟩
def H7{pa pb pc pd pe pf pg:Prop}(a:pa)(b:pb)(c:pc)(d:pd)(e:pe)(f:pf)(g:pg):Go.RowKit.Hid pa/\Go.RowKit.Hid pb/\Go.RowKit.Hid pc/\Go.RowKit.Hid pd/\Go.RowKit.Hid pe/\Go.RowKit.Hid pf/\Go.RowKit.Hid pg:=⟨a,b,c,d,e,f,g⟩
def H8{pa pb pc pd pe pf pg ph:Prop}(a:pa)(b:pb)(c:pc)(d:pd)(e:pe)(f:pf)(g:pg)(h:ph):Go.RowKit.Hid pa/\Go.RowKit.Hid pb/\Go.RowKit.Hid pc/\Go.RowKit.Hid pd/\Go.RowKit.Hid pe/\Go.RowKit.Hid pf/\Go.RowKit.Hid pg/\Go.RowKit.Hid ph:=⟨a,b,c,d,e,f,g,h⟩
def Ge{α:Type _}(l:List α)(k:Nat)(h:k<l.length):∃ x,l[k]?=some x:=⟨_,List.getElem?_eq_getElem h⟩
def A4:=@List.getElem?_eq_getElem
def Ai:=@List.mem_of_getElem?
def Ao:=@List.getElem?_eq_some_iff
def Ac:=@if_neg
def Ad:=@if_pos
def Ak:=@bodyPost_ret
def At:=@List.length_map
def Ax:=@decide_eq_false
def Av:=@decide_eq_true
def Ca:=@congrArg
def Aq:=@Nat.zero_le
def Bl:=@beq_eq_false_iff_ne
def Bp:=@World.cell?_of_block
def Bh:=@List.getElem?_map
def Bx:=@Nat.lt_of_lt_of_le
def A5:=@Nat.le_trans
def Ce:=@List.mem_cons_of_mem
def C8:=@List.take_of_length_le
def Ba:=@List.mem_map
def Cm:=@Below.heap_setCell
def Cn:=@List.length_append
def D2:=@underlying3
def Dg:=@List.getElem?_of_mem
def Eg:=@underlying9
def E5:=@List.getElem?_append_left
def Dl:=@List.mem_cons_self
def Do:=@List.getElem?_set
def Gc:=@List.getElem?_append_right
def C9:=@List.map_append
def Dh:=@List.mem_append
def Co:=@Below.setCell
def Ev:=@List.getElem?_modify
def Dm:=@List.length_set
def Ea:=@List.ext_getElem?
def E6:=@World.ownsRow.cellAt
def Gd:=@List.length_eq_zero_iff
def Ii:=@Classical.byContradiction
def Da:=@Nat.zero_add
def Cb:=@info_parts
def Cz:=@Int.le_refl
def Dn:=@List.map_map
def E7:=@Bool.and_eq_true
def E8:=@List.length_take
def Dx:=@Nat.le_succ
def E9:=@IntWalk.i64_in
def Gz:=@Below.heap_alloc
def Ij:=@Bool.eq_false_iff
def Nn:=@underlying31
def G2:=@List.length_drop
def Ik:=@Function.comp_def
def Ac3:=@underlying4
def Il:=@List.length_cons
def I1:=@decide_eq_true_eq
def No:=@Array.getElem?_setIfInBounds
def Jp:=@List.length_modify
def Jq:=@List.mem_singleton
def I2:=@World.size_alloc
def Im:=@Exit.noGoto_ret
def Gf:=@List.mem_cons
def Lr:=@List.getElem?_toArray
def Ku:=@List.mem_map_of_mem
def Kv:=@Calls.quiet_of_same
def Np:=@List.pairwise_iff_getElem
def In:=@DataW.trod_int
def J8:=@Int.toNat_natCast
def A1e:=@zeroValue4
def Kw:=@List.foldl_append
def Kx:=@of_decide_eq_true
def Ky:=@List.append_assoc
def Oo:=@Array.getElem?_eq_getElem
def Fp:=@bne_iff_ne
def Nq:=@Option.map_eq_some_iff
def Ls:=@List.getElem?_take
def Lu:=@underlying361
def J9:=@Option.map_some
def Kz:=@List.any_eq_true
def Io:=@Nat.add_zero
def Nr:=@List.length_filter_le
def S5:=@underlying67
def Lv:=@World.ownsRow_nil
def A1f:=@zeroValue3
def I3:=@Nat.succ_pos
def A1g:=@underlying0
def Oq:=@World.frozen?_of_block
def Lw:=@List.getElem_mem
def Ms:=@wpList_append_own
def Ka:=@List.map_cons
def A1h:=@sizeOf4
def Or:=@List.take_append_drop
def Ot:=@List.getElem?_eq_none
def A1i:=@zeroValue0
def Lx:=@Option.some.inj
def Ly:=@Nat.min_eq_left
def Ns:=@List.getElem?_drop
def Nt:=@List.filter_append
def Q7:=@Array.getElem?_eq_some_iff
def A1j:=@sizeOf3
def A1k:=@isAgg4
def Mt:=@Nat.not_lt_zero
def Nu:=@wpList_store_row
def Ou:=@List.pairwise_cons
def Q8:=@List.eq_of_mem_replicate
def Nv:=@List.filter_cons
def A1l:=@isAgg3
def Mu:=@run_underlying
def Py:=@List.mem_iff_getElem
def Ov:=@List.take_add_one
def Ow:=@underlying52
def A1m:=@zeroValue9
def Nw:=@Bool.eq_iff_iff
def Pz:=@List.length_take_le
def A1n:=@sizeOf0
def Ox:=@List.cons_append
def Oy:=@List.take_length
def A1o:=@isAgg0
def Lz:=@Nat.add_mul
def Oz:=@List.append_nil
def Mv:=@List.map_set
def O0:=@List.mem_filter
def Q9:=@wpList_append_own_at
def Mw:=@ntmps31
def Nx:=@ntmps160
def S6:=@World.block_lt_of_cell?
def A1p:=@zeroValue31
def L0:=@beq_iff_eq
def My:=@setRow_heap
def Mz:=@rounds_succ
def M0:=@func31
def A1q:=@sizeOf9
def A1r:=@underlying230
def Ra:=@Nat.lt_or_gt_of_ne
def Ny:=@func160
def Rb:=@List.find?_eq_none
def Rc:=@of_decide_eq_false
def P1:=@List.length_nil
def O1:=@Bool.and_self
def U3:=@Array.getElem?_append_left
def A1s:=@zeroValue230
def Rd:=@List.nodup_append
def Re:=@underlying46
def S7:=@Nat.mul_le_mul_right
def U4:=@List.mem_or_eq_of_mem_set
def S8:=@List.pairwise_append
def A1t:=@isAgg9
def Yk:=@List.findIdx?_eq_some_iff_getElem
def A1u:=@zeroValue67
def U5:=@WideMaps.keyOf_string_mk
def O2:=@callsIn_wide
def Rf:=@World.ownsRow.lt
def A1v:=@sizeOf31
def Rg:=@List.nil_append
def S9:=@List.mem_mergeSort
def Rh:=@List.foldl_cons
def Ta:=@List.flatMap_cons
def U6:=@Array.getElem?_modify
def A1w:=@sizeOf230
def A1x:=@isAgg31
def K0:=@if_true
def U7:=@List.modify_succ_cons
def U8:=@List.countP_le_length
def U9:=@List.length_mergeSort
def P2:=@List.set_set
def A1y:=@isAgg230
def A1z:=@sizeOf67
def Ri:=@ntmps100
def Yl:=@List.getD_eq_getElem?_getD
def Rj:=@Prod.mk.injEq
def Va:=@List.map_congr_left
def Ym:=@List.drop_eq_getElem_cons
def Tb:=@List.find?_some
def Yn:=@List.getElem?_eq_none_iff
def A10:=@underlying286
def A11:=@isAgg67
def Rk:=@Nat.le_of_lt
def Rl:=@func100
def Vb:=@underlying364
def Vc:=@List.mem_replicate
def Yo:=@underlying328
def Tc:=@wp_loop_rounds
def Td:=@List.Perm.refl
def A12:=@zeroValue286
def Vd:=@Option.some.injEq
def Ve:=@List.size_toArray
def Rm:=@Nat.mul_one
def Yp:=@List.toArray_replicate
def A13:=@underlying5
def Vf:=@List.all_eq_true
def Vg:=@List.countP_cons
def Yq:=@List.length_replicate
def Yr:=@List.Perm.append_left
def A14:=@zeroValue5
def Ys:=@wpList_mapUpdate_own
def Yt:=@Array.replicate_succ
def Yu:=@Array.replicate_zero
def Te:=@setRow_other
def Vh:=@wpList_load_row
def Vi:=@List.range_succ
def Tf:=@List.map_nil
def Yv:=@List.mem_of_mem_take
def Vj:=@List.of_mem_zip
def Tg:=@ntmps99
def Yw:=@List.getElem_of_mem
def Yx:=@List.append_toArray
def Yy:=@List.filter_sublist
def A15:=@sizeOf286
def Vk:=@List.take_take
def Vl:=@size_zeroCells
def Vm:=@List.mem_range
def Th:=@grownCap_ge
def Ti:=@func99
def A16:=@underlying229
def Yz:=@World.ownsMap_made
def Y0:=@List.set_cons_succ
def Y1:=@underlying217
def Y2:=@grownCap_le_maxLen
def Y3:=@List.findIdx?_cons
def Vn:=@ntmps126
def Vo:=@ntmps168
def A17:=@isAgg286
def Vp:=@ntmps212
def Vq:=@ntmps276
def A18:=@zeroValue229
def Y4:=@List.push_toArray
def Y5:=@underlying30
def Y6:=@List.length_range
def Y7:=@underlying44
def P3:=@Ne.symm
def Y8:=@decide_eq_decide
def Vr:=@func126
def Vs:=@func168
def A19:=@sizeOf5
def Vt:=@Addr.add_lit
def Vu:=@func212
def Vv:=@func276
def Vw:=@Int.le_trans
def Vx:=@Int.lt_trans
def Y9:=@Array.toList_inj
def Za:=@Bool.not_eq_true
def Vy:=@ntmps85
def Zb:=@UInt8.toNat_inj
def Zc:=@List.filter_map
def A2a:=@isAgg5
def Vz:=@func85
structure V4 where
 a:Int
 b:Int
 c:Int
 d:Int
deriving DecidableEq
def V4.get (v:V4):Nat->Int
 | 0=>v.a
 | 1=>v.b
 | 2=>v.c
 | _=>v.d
abbrev V4.cells (v:V4):Array VL:=#[.int .i64 v.a,.int .i64 v.b,.int .i64 v.c,.int .i64 v.d]
abbrev V4.val (v:V4):VL:=.agg #[.int .i64 v.a,.int .i64 v.b,.int .i64 v.c,.int .i64 v.d]
def te {i:Nat} (h:i<4):i=0\/i=1\/i=2\/i=3:=by omega
def Ag {B:Nat} {w w':WD} (h:BW B w w') {b o:Nat} (a:b<B):w'.cell? ⟨b,o,none⟩=w.cell? ⟨b,o,none⟩:=h.cell (p:=⟨b,o,none⟩) a
section
variable {w w':WD} {b b' o B:Nat} {c:Array VL} {T:TypeId} {fr:Nat×Nat} {x y:Obj} {v:VL}
def Aa (h:w.heap[b]?=some (.cells c T fr)) (o:Nat):w.cell? ⟨b,o,none⟩=c[o]?:=by simp [World.cell?,h]
def Af (h:w.heap[b]?=some (.cells c T (0,0))) (o:Nat):w.frozen? ⟨b,o,none⟩=false:=by simp [World.frozen?,h]
def Am (h:w.heap[b]?=some (.cells c T fr)) (o:Nat) (v:VL):(w.setCell ⟨b,o,none⟩ v).heap[b]?=some (.cells (c.setIfInBounds o v) T fr):=by
 simp [World.setCell,U6,h]
def C0 (a:b≠b') (v:VL) (h:w.heap[b]?=some x):(w.setCell ⟨b',o,none⟩ v).heap[b]?=some x:=by
 rw [Cm _ _ _ _ a];exact h
def Ab (h:w.heap[b]?=some x):b<w.heap.size:=(Q7.1 h).1
def Ah (w:WD) (x:Obj):(w.alloc x).heap[w.heap.size]?=some x:=heap_alloc_new w x
def A3 (w:WD) (x:Obj) (h:b=w.heap.size):(w.alloc x).heap[b]?=some x:=h▸heap_alloc_new w x
def Aj (y:Obj) (h:w.heap[b]?=some x):(w.alloc y).heap[b]?=some x:=(Gz w y b (Ab h)).trans h
def Ae (c:BW B w w') (h:w.heap[b]?=some x) (a:b<B):w'.heap[b]?=some x:=(c.block b a).trans h
def Rn (h:w.heap[b]?=some x):w.drew.heap[b]?=some x:=h
end
def Ro {P:Program} {t e:TypeId} {i:TypeInfo} (d:P.underlying t=some (.slice e)) (f:P.info? e=some i) (b a cap n:Nat) (x:Int) (j:x=n) (g:n<=a) :
  ∃ ta,(∀ w,(Instr.slice t (.slice (some ⟨b,0,none⟩) a cap) (some (.int .i64 x)) none none).run P w=.ok (.slice (some ta) (a-n) (cap-n)) w)/\(n<cap->ta=⟨b,n*i.size,none⟩):=by
 subst j
 have h1:∀ (y:Nat) (_:n<=y) c w,(Instr.sliceBound (.int .i64 (n:Int)) y c).run P w=.ok n w:=fun y h c w=>by
  simp [Instr.sliceBound,asIntOf,h]
 refine ⟨if cap=n then ⟨b,0,none⟩ else (⟨b,0,none⟩:Addr).add (n*i.size),fun w=>?_,fun h=>?_⟩
 .simp [Instr.slice,Instr.sliceBounds,Mu d,h1 a g,sizeOf,typeInfo,f]
  split<;>rfl
 .rw [Ac (by omega)];unfold Addr.add;split
  .next h=>rw [h]
  .simp
def I4 {F:FuncId} {fn:Func} (h:prog.funcs[F]?=some fn) (b:fn.name≠"runtime.NumGoroutine") (a:fn.body≠none) :
  ∀ args w,(callFunc F args).run prog w=.ok (.enter F args) w:=by
 intro args w;simp [callFunc,go_sem,h,b,a]
def Bk{w:WD}{b:Nat}{c:Array VL}{t:Nat}{z:Nat×Nat}(h:w.heap[b]?=some (.cells c t z))(i:Nat)(v:VL)(e:c[i]?=some v):w.cell? ⟨b,i,none⟩=some v:=(Aa h i).trans e
def C3{w:WD}{b:Nat}{v0 v1 v2:VL}{t:Nat}{z:Nat×Nat}(h:w.heap[b]?=some (.cells #[v0,v1,v2] t z)):w.cell? ⟨b,0,none⟩=some v0/\w.cell? ⟨b,1,none⟩=some v1/\w.cell? ⟨b,2,none⟩=some v2:=by
 refine ⟨?_,?_,?_⟩<;>exact Aa h _
def C5{w:WD}{b:Nat}{v0 v1 v2 v3 v4:VL}{t:Nat}{z:Nat×Nat}(h:w.heap[b]?=some (.cells #[v0,v1,v2,v3,v4] t z)):w.cell? ⟨b,0,none⟩=some v0/\w.cell? ⟨b,1,none⟩=some v1/\w.cell? ⟨b,2,none⟩=some v2/\w.cell? ⟨b,3,none⟩=some v3/\w.cell? ⟨b,4,none⟩=some v4:=by
 refine ⟨?_,?_,?_,?_,?_⟩<;>exact Aa h _
def C10{w:WD}{b:Nat}{v0 v1 v2 v3 v4 v5 v6 v7 v8 v9:VL}{t:Nat}{z:Nat×Nat}(h:w.heap[b]?=some (.cells #[v0,v1,v2,v3,v4,v5,v6,v7,v8,v9] t z)):w.cell? ⟨b,0,none⟩=some v0/\w.cell? ⟨b,1,none⟩=some v1/\w.cell? ⟨b,2,none⟩=some v2/\w.cell? ⟨b,3,none⟩=some v3/\w.cell? ⟨b,4,none⟩=some v4/\w.cell? ⟨b,5,none⟩=some v5/\w.cell? ⟨b,6,none⟩=some v6/\w.cell? ⟨b,7,none⟩=some v7/\w.cell? ⟨b,8,none⟩=some v8/\w.cell? ⟨b,9,none⟩=some v9:=by
 refine ⟨?_,?_,?_,?_,?_,?_,?_,?_,?_,?_⟩<;>exact Aa h _
def C13{w:WD}{b:Nat}{v0 v1 v2 v3 v4 v5 v6 v7 v8 v9 v10 v11 v12:VL}{t:Nat}{z:Nat×Nat}(h:w.heap[b]?=some (.cells #[v0,v1,v2,v3,v4,v5,v6,v7,v8,v9,v10,v11,v12] t z)):w.cell? ⟨b,0,none⟩=some v0/\w.cell? ⟨b,1,none⟩=some v1/\w.cell? ⟨b,2,none⟩=some v2/\w.cell? ⟨b,3,none⟩=some v3/\w.cell? ⟨b,4,none⟩=some v4/\w.cell? ⟨b,5,none⟩=some v5/\w.cell? ⟨b,6,none⟩=some v6/\w.cell? ⟨b,7,none⟩=some v7/\w.cell? ⟨b,8,none⟩=some v8/\w.cell? ⟨b,9,none⟩=some v9/\w.cell? ⟨b,10,none⟩=some v10/\w.cell? ⟨b,11,none⟩=some v11/\w.cell? ⟨b,12,none⟩=some v12:=by
 refine ⟨?_,?_,?_,?_,?_,?_,?_,?_,?_,?_,?_,?_,?_⟩<;>exact Aa h _
end
section
open Go.RowKit Go.Maps Go.Lib
def gd (x:Int):Bool:=decide (0<=x) && decide (x<=1073741824)
def V4.right (v:V4):Bool:=gd v.a && gd v.b && gd v.c && gd v.d
def V4.fits (u v:V4):Bool:=decide (u.a<=v.a) && decide (u.b<=v.b) && decide (u.c<=v.c) && decide (u.d<=v.d)
def Ac4 (F:FuncId) (l:Array VL) (p:Nat->Bool) (w:WD)
  (hF:∀ args w,(callFunc F args).run prog w=.ok (.enter F args) w)
  (H:∀ (i:Nat) (w1:WD),i<4->BW w.heap.size w w1->CS prog F (#[.int .i64 i]++l) w1 fun e m=>e=.returned (.bool (p i))/\BW w.heap.size w1 m) :
  CS prog 109 #[.func (.func F) #[] l] w fun e w'=>e=.returned (.bool (p 0 && p 1 && p 2 && p 3))/\BW w.heap.size w w':=by
 have n:=Hh H;clear H;go_enter func109,ntmps109;go_wp2;go_loopw [3,4] (fun _ i wr=>∃ k:Nat,k<=4/\i=.int .i64 k/\BW w.heap.size w wr/\(∀ j:Nat,j<k->p j=true)) (fun _ i _=>4-(intOf i).toNat)
 case atStart=>exact ⟨0,by omega,rfl,Below.refl _ _,by omega⟩
 case round=>
  obtain ⟨k,s,rfl,g,c⟩:=hrel;have f:=Hh c;clear c;by_cases o:k<4
  .have q:(k:Int)<4:=(by omega);go_wp2_with fail;refine (n k _ o g).mono ?_;rintro e m ⟨rfl,d⟩;cases a:p k
   .have b:=Hh a;clear a;go_wp2;go_ret;refine ⟨?_,g.trans d⟩;have a:=b.out
    have:(p 0 && p 1 && p 2 && p 3)=false:=by rcases (show k=0\/k=1\/k=2\/k=3 by omega) with rfl | rfl | rfl | rfl<;>simp [a]
    rw [this];rfl
   .have b:=Hh a;clear a;go_wp2;go_roundw
    case rel=>
     refine ⟨k+1,by omega,by go_num,g.trans d,?_⟩;intro j r;by_cases h:j=k
     .subst h;exact b.out
     .exact f.out j (by omega)
    case measure=>simp [intOf];omega
  .have q:¬ (k:Int)<4:=(by omega);go_wp2;go_ret;refine ⟨?_,g⟩;have c:=f.out;rw [c 0 (by omega),c 1 (by omega),c 2 (by omega),c 3 (by omega)];rfl
def Alq:∀ args w,(callFunc 208 args).run prog w=.ok (.enter 208 args) w:=I4 func208 (by decide) (by simp [f208])
def Alr (v:V4) (b:Nat) (i:Nat) (B:Nat) (w:WD) (k:i<4)
  (h0:w.cell? ⟨b,0,none⟩=some (.int .i64 v.a)) (h1:w.cell? ⟨b,1,none⟩=some (.int .i64 v.b)) (m:w.cell? ⟨b,2,none⟩=some (.int .i64 v.c)) (n:w.cell? ⟨b,3,none⟩=some (.int .i64 v.d)) :
  CS prog 208 (#[.int .i64 i]++#[.pointer (some ⟨b,0,none⟩)]) w fun e w'=>e=.returned (.bool (gd (v.get i)))/\BW B w w':=by
 have g:∀ x:Int,x<0->gd x=false:=by intro x j;simp [gd];omega
 have f:∀ x:Int,0<=x->gd x=decide (x<=1073741824):=by intro x j;simp [gd,j]
 have l:=Hh g;have h:=Hh f;clear g f;rcases te k with rfl | rfl | rfl | rfl
 all_goals
  go_enter func208,ntmps208;go_wp2
  all_goals
   go_ret;refine ⟨?_,Below.refl _ _⟩;simp only [V4.get]
   first
    | (rw [l _ (by assumption)];rfl)
    | (rw [h _ (by assumption)];rfl)
def I5 (v:V4) (w:WD) :
  CS prog 152 #[v.val] w fun e w'=>e=.returned (.bool v.right)/\BW w.heap.size w w':=by
 go_enter func152,ntmps152;go_wp2_with fail;refine (Ac4 208 _ (fun i=>gd (v.get i)) _ Alq ?_).mono ?_
 .intro i w1 d c;have a:∀ j,w1.cell? ⟨w.heap.size,j,none⟩=_:=fun j=>Ag (o:=j) c (by simp);exact Alr v w.heap.size i _ w1 d (by rw [a];simp) (by rw [a];simp) (by rw [a];simp) (by rw [a];simp)
 .rintro e f ⟨rfl,b⟩;go_wp2;go_ret;exact ⟨rfl,Bn.trans (b.mono (by simp))⟩
def Als:∀ args w,(callFunc 110 args).run prog w=.ok (.enter 110 args) w:=I4 func110 (by decide) (by simp [f110])
def Alt (u v:V4) (c d:Nat) (i:Nat) (B:Nat) (w:WD) (o:i<4)
  (a:w.heap[c]?=some (.cells u.cells 30 (0,0))) (b:w.heap[d]?=some (.cells v.cells 30 (0,0))) :
  CS prog 110 (#[.int .i64 i]++#[.pointer (some ⟨c,0,none⟩),.pointer (some ⟨d,0,none⟩)]) w fun e w'=>e=.returned (.bool (decide (u.get i<=v.get i)))/\BW B w w':=by
 have f:=Aa a 0;have g:=Aa a 1;have h:=Aa a 2;have j:=Aa a 3;have k:=Aa b 0;have l:=Aa b 1;have m:=Aa b 2;have n:=Aa b 3;simp at f g h j k l m n;clear a b;rcases te o with rfl | rfl | rfl | rfl
 all_goals
  go_enter func110,ntmps110;go_wp2;go_quiet (fail);go_wp2;go_ret;exact ⟨rfl,⟨rfl,rfl,rfl,Nat.le_refl _,fun _ _=>rfl⟩⟩
def V0 (u v:V4) (w:WD) :
  CS prog 65 #[u.val,v.val] w fun e w'=>e=.returned (.bool (u.fits v))/\BW w.heap.size w w':=by
 go_enter func65,ntmps65;go_wp2_with fail;refine (Ac4 110 _ (fun i=>decide (u.get i<=v.get i)) _ Als ?_).mono ?_
 .intro i w1 c b;exact Alt u v w.heap.size (w.heap.size+1) i _ w1 c (Ae b (Aj _ (Ah _ _)) (by simp;omega)) (Ae b (A3 _ _ (by simp)) (by simp))
 .rintro e d ⟨rfl,a⟩;go_wp2;go_ret;exact ⟨rfl,(Bn.alloc (by simp) _).trans (a.mono (by simp;omega))⟩
def V4.zero:V4:=⟨0,0,0,0⟩
def V4.told (v:V4) (e:Int):V4×Int:=if v.right=true then (v,0) else (V4.zero,e)
def Zd (v:V4) (e:Int) (w:WD) :
  CS prog 127 #[v.val,.int .i64 e] w fun h w'=>h=.returned (.tuple #[(v.told e).1.val,.int .i64 (v.told e).2])/\BW w.heap.size w w':=by
 go_enter func127,ntmps127;go_wp2_with fail;refine (I5 v _).mono ?_;rintro e l ⟨rfl,a⟩;have g:=Ae a (A3 (b:=w.heap.size+1) _ _ (by simp)) (by simp);have f:=Aa g;have k:=Af g;have d:=Ae a (Aj _ (Ah _ _)) (by simp;omega);have j:=Aa d;clear g d;have i:=(Bn.alloc (by simp) _).trans (a.mono (by simp;omega));cases hr:v.right
 all_goals
  have c:=Hh hr;clear hr;go_wp2;refine Ak (v:=.tuple #[(v.told e).1.val,.int .i64 (v.told e).2]) (by simp [results,results127,go_sem,f,V4.told,c.out,V4.zero]) rfl ⟨rfl,?_⟩;refine Co ?_ (by simp) _;refine Co ?_ (by simp) _;refine Co ?_ (by simp) _;refine Co ?_ (by simp) _;exact i
def dy (s:ByteArray) (k:Nat):Int:=((s.data.toList.getD k 0).toNat:Int)
def Gg (c:Int):Bool:=(decide (97<=c) && decide (c<=122)) || (decide (48<=c) && decide (c<=57)) || decide (c=45)
def Ey (s:ByteArray):Nat->Bool
 | 0=>true
 | k+1=>Ey s k && Gg (dy s k)
def Bm (s:ByteArray):Bool:=decide (1<=s.size) && decide (s.size<=16) && Ey s s.size
def Alu {s:ByteArray} {k n:Nat} (h:Ey s n=true) (a:k<=n):Ey s k=true:=by
 induction n with
 | zero=>
  have:k=0:=by omega
  subst this;rfl
 | succ n ih=>
  simp only [Ey,E7] at h;by_cases c:k=n+1
  .subst c;simp [Ey,h]
  .exact ih h.1 (by omega)
def Rp {s:ByteArray} {k:Nat} (a:k<s.size) (h:Gg (dy s k)=false):Ey s s.size=false:=by
 rw [Ij];intro c;have:=Alu c (show k+1<=s.size by omega);simp [Ey,h] at this
def P4 {P:Program} {t:TypeId} (h:P.underlying t=some .string) (s:ByteArray) (k:Nat) (i:Int) (c:i=k) (d:k<s.size) (w:WD):(Instr.index t (.string s) (.int .i64 i)).run P w=.ok (.int .u8 (dy s k)) w:=by
 subst c;rw [run_index_string w t s .i64 k h,dif_pos ⟨by omega,by omega⟩]
 have e:s[((k:Int)).toNat]'(by omega)=s.data.toList.getD k 0:=by
  have b:k<s.data.size:=d;have a:s.data.toList.getD k 0=s.data.toList[k]:=by simp only [List.getD,Array.getElem?_toList,Array.getElem_toList];rw [Oo b];rfl
  rw [a];rfl
 rw [e];rfl
def Ac5 (c:Int):(Gg c=true/\((97<=c/\c<=122)\/(48<=c/\c<=57)\/c=45))\/(Gg c=false/\((c<48/\c≠45)\/(57<c/\c<97)\/122<c)):=by
 by_cases h:(97<=c/\c<=122)\/(48<=c/\c<=57)\/c=45
 .exact .inl ⟨by unfold Gg;simp;omega,h⟩
 .refine .inr ⟨?_,by omega⟩;rw [Ij];intro a;unfold Gg at a;simp at a;omega
def V1 (s:ByteArray) (w:WD) (hs:s.size<=maxLen):CS prog 78 #[.string s] w fun e w'=>e=.returned (.bool (Bm s))/\BW w.heap.size w w':=by
 have q:∀ (k:Nat),k<s.size->∀ w,(Instr.index 9 (.string s) (.int .i64 (k:Int))).run prog w=.ok (.int .u8 (dy s k)) w:=fun k hk w=>P4 Eg s k k rfl hk w;have ad:s.size<=9223372036854775807:=hs;replace q:=Hh q;go_enter func78,ntmps78;go_wp2;go_loopw [3,4,7] (fun _ _ i wr=>∃ k:Nat,i=.int .i64 k/\k<=s.size/\Hid (Ey s k=true)/\Hid (BW w.heap.size w wr)) (fun _ _ i _=>s.size-(intOf i).toNat)
 case atStart=>exact ⟨0,rfl,Aq _,rfl,Below.refl _ _⟩
 case round=>
  obtain ⟨k,rfl,hk,v,n⟩:=hrel;by_cases o:k<s.size
  .have x:(k:Int)<s.size:=(by omega);have z:=q k o;obtain ⟨c,l⟩:=Ex (dy s k);rw [<- l] at z;have y:=Ac5 c;rcases y with ⟨a,h | h | h⟩ | ⟨a,h | h | h⟩
   .have m:decide (c<97)=false:=(by simp;omega);have p:decide (122<c)=false:=(by simp;omega);have r:decide (c<48)=false:=(by simp;omega);have t:decide (57<c)=true:=by simp;omega
    have u:(c != 45)=true:=by simp;try omega
    have b:Gg (dy s k)=true:=(by rw [<- l];exact a);replace ⟨l,a,b,h⟩:=H4 l a b h;have f:Ey s (k+1)=true:=(by simp only [Ey,v.out,b.out,O1]);replace f:=Hh f;go_wp2;go_roundw
    case rel=>exact ⟨k+1,by go_num,by omega,f.out,n.out⟩
    case measure=>simp [intOf];omega
   .have m:decide (c<97)=true:=(by simp;omega);have p:decide (122<c)=false:=(by simp;omega);have r:decide (c<48)=false:=(by simp;omega);have t:decide (57<c)=false:=by simp;omega
    have u:(c != 45)=true:=by simp;try omega
    have b:Gg (dy s k)=true:=(by rw [<- l];exact a);replace ⟨l,a,b,h⟩:=H4 l a b h;have f:Ey s (k+1)=true:=(by simp only [Ey,v.out,b.out,O1]);replace f:=Hh f;go_wp2;go_roundw
    case rel=>exact ⟨k+1,by go_num,by omega,f.out,n.out⟩
    case measure=>simp [intOf];omega
   .have m:decide (c<97)=true:=(by simp;omega);have p:decide (122<c)=false:=(by simp;omega);have r:decide (c<48)=true:=(by simp;omega);have t:decide (57<c)=false:=by simp;omega
    have u:(c != 45)=false:=by simp;try omega
    have b:Gg (dy s k)=true:=(by rw [<- l];exact a);replace ⟨l,a,b,h⟩:=H4 l a b h;have f:Ey s (k+1)=true:=(by simp only [Ey,v.out,b.out,O1]);replace f:=Hh f;go_wp2;go_roundw
    case rel=>exact ⟨k+1,by go_num,by omega,f.out,n.out⟩
    case measure=>simp [intOf];omega
   .have m:decide (c<97)=true:=(by simp;omega);have p:decide (122<c)=false:=(by simp;omega);have r:decide (c<48)=true:=(by simp;omega);have t:decide (57<c)=false:=by simp;omega
    have u:(c != 45)=true:=by simp;try omega
    have d:Gg (dy s k)=false:=(by rw [<- l];exact a);replace ⟨l,a,d,h⟩:=H4 l a d h;have j:Bm s=false:=(by unfold Bm;rw [Rp o d.out];simp);replace j:=Hh j;go_wp2;go_ret;exact ⟨by rw [j.out];rfl,n.out⟩
   .have m:decide (c<97)=true:=(by simp;omega);have p:decide (122<c)=false:=(by simp;omega);have r:decide (c<48)=false:=(by simp;omega);have t:decide (57<c)=true:=by simp;omega
    have u:(c != 45)=true:=by simp;try omega
    have d:Gg (dy s k)=false:=(by rw [<- l];exact a);replace ⟨l,a,d,h⟩:=H4 l a d h;have j:Bm s=false:=(by unfold Bm;rw [Rp o d.out];simp);replace j:=Hh j;go_wp2;go_ret;exact ⟨by rw [j.out];rfl,n.out⟩
   .have m:decide (c<97)=false:=(by simp;omega);have p:decide (122<c)=true:=(by simp;omega);have r:decide (c<48)=false:=(by simp;omega);have t:decide (57<c)=true:=by simp;omega
    have u:(c != 45)=true:=by simp;try omega
    have d:Gg (dy s k)=false:=(by rw [<- l];exact a);replace ⟨l,a,d,h⟩:=H4 l a d h;have j:Bm s=false:=(by unfold Bm;rw [Rp o d.out];simp);replace j:=Hh j;go_wp2;go_ret;exact ⟨by rw [j.out];rfl,n.out⟩
  .have x:¬ (k:Int)<s.size:=(by omega);have ac:k=s.size:=(by omega);subst ac
   have j:Bm s=(decide ((1:Int)<=s.size) && decide ((s.size:Int)<=16)):=by
    unfold Bm;rw [v.out,Bool.and_true]
    congr 1<;>exact Y8.2 (by omega)
   by_cases h1:(1:Int)<=s.size
   .have m:decide ((1:Int)<=s.size)=true:=(by simpa using h1);by_cases h2:(s.size:Int)<=16
    .have p:decide ((s.size:Int)<=16)=true:=(by simpa using h2);have g:Bm s=true:=(by rw [j,m,p];rfl);replace ⟨j,g⟩:=H2 j g;go_wp2;go_ret;exact ⟨by rw [g.out];rfl,n.out⟩
    .have p:decide ((s.size:Int)<=16)=false:=(by simpa using h2);have g:Bm s=false:=(by rw [j,m,p];rfl);replace ⟨j,g⟩:=H2 j g;go_wp2;go_ret;exact ⟨by rw [g.out];rfl,n.out⟩
   .have m:decide ((1:Int)<=s.size)=false:=(by simpa using h1);have g:Bm s=false:=(by rw [j,m];rfl);replace ⟨j,g⟩:=H2 j g;go_wp2;go_ret;exact ⟨by rw [g.out];rfl,n.out⟩
def Ac6 (s:ByteArray) (w:WD) (v:s.size<=maxLen):CS prog 111 #[.string s] w fun e w'=>e=.returned (.bool (Bm s))/\BW w.heap.size w w':=by
 have q:∀ (k:Nat),k<s.size->∀ w,(Instr.index 9 (.string s) (.int .i64 (k:Int))).run prog w=.ok (.int .u8 (dy s k)) w:=fun k hk w=>P4 Eg s k k rfl hk w;replace q:=Hh q;by_cases h1:s.size<1
 .have n:decide ((s.size:Int)<1)=true:=Av (by omega);have g:Bm s=false:=by unfold Bm;rw [show decide (1<=s.size)=false from Ax (by omega)];rfl
  replace ⟨g,v⟩:=H2 g v;go_enter func111,ntmps111;go_wp2;go_ret;exact ⟨by rw [g.out];rfl,Below.refl _ _⟩
 have n:decide ((s.size:Int)<1)=false:=Ax (by omega);by_cases h2:16<s.size
 .have o:decide ((16:Int)<s.size)=true:=Av (by omega);have g:Bm s=false:=by unfold Bm;rw [show decide (s.size<=16)=false from Ax (by omega)];simp
  replace ⟨g,v⟩:=H2 g v;go_enter func111,ntmps111;go_wp2;go_ret;exact ⟨by rw [g.out];rfl,Below.refl _ _⟩
 have o:decide ((16:Int)<s.size)=false:=Ax (by omega);go_enter func111,ntmps111;go_wp2;clear n o;go_loopw [3,4] (fun i _ wr=>∃ k:Nat,i=.int .i64 k/\k<=s.size/\Hid (Ey s k=true)/\Hid (BW w.heap.size w wr)) (fun i _ _=>s.size-(intOf i).toNat)
 case atStart=>exact ⟨0,rfl,Aq _,rfl,Below.refl _ _⟩
 case round=>
  obtain ⟨k,rfl,hk,x,p⟩:=hrel;by_cases m:k<s.size
  .have y:(k:Int)<s.size:=(by omega);have ac:=q k m;obtain ⟨c,j⟩:=Ex (dy s k);rw [<- j] at ac;have z:=Ac5 c;rcases z with ⟨a,h | h | h⟩ | ⟨a,h | h | h⟩
   .have n:decide (97<=c)=true:=(by simp;omega);have o:decide (c<=122)=true:=(by simp;omega);have r:decide (48<=c)=true:=(by simp;omega);have t:decide (c<=57)=false:=by simp;omega
    have u:(c == 45)=false:=by simp;try omega
    have b:Gg (dy s k)=true:=(by rw [<- j];exact a);replace ⟨j,a,b,h⟩:=H4 j a b h;have f:Ey s (k+1)=true:=(by simp only [Ey,x.out,b.out,O1]);replace f:=Hh f;go_wp2;go_roundw
    case rel=>exact ⟨k+1,by go_num,by omega,f.out,p.out⟩
    case measure=>simp [intOf];omega
   .have n:decide (97<=c)=false:=(by simp;omega);have o:decide (c<=122)=true:=(by simp;omega);have r:decide (48<=c)=true:=(by simp;omega);have t:decide (c<=57)=true:=by simp;omega
    have u:(c == 45)=false:=by simp;try omega
    have b:Gg (dy s k)=true:=(by rw [<- j];exact a);replace ⟨j,a,b,h⟩:=H4 j a b h;have f:Ey s (k+1)=true:=(by simp only [Ey,x.out,b.out,O1]);replace f:=Hh f;go_wp2;go_roundw
    case rel=>exact ⟨k+1,by go_num,by omega,f.out,p.out⟩
    case measure=>simp [intOf];omega
   .have n:decide (97<=c)=false:=(by simp;omega);have o:decide (c<=122)=true:=(by simp;omega);have r:decide (48<=c)=false:=(by simp;omega);have t:decide (c<=57)=true:=by simp;omega
    have u:(c == 45)=true:=by simp;try omega
    have b:Gg (dy s k)=true:=(by rw [<- j];exact a);replace ⟨j,a,b,h⟩:=H4 j a b h;have f:Ey s (k+1)=true:=(by simp only [Ey,x.out,b.out,O1]);replace f:=Hh f;go_wp2;go_roundw
    case rel=>exact ⟨k+1,by go_num,by omega,f.out,p.out⟩
    case measure=>simp [intOf];omega
   .have n:decide (97<=c)=false:=(by simp;omega);have o:decide (c<=122)=true:=(by simp;omega);have r:decide (48<=c)=false:=(by simp;omega);have t:decide (c<=57)=true:=by simp;omega
    have u:(c == 45)=false:=by simp;try omega
    have d:Gg (dy s k)=false:=(by rw [<- j];exact a);replace ⟨j,a,d,h⟩:=H4 j a d h;have l:Bm s=false:=(by unfold Bm;rw [Rp m d.out];simp);replace l:=Hh l;go_wp2;go_ret;exact ⟨by rw [l.out];rfl,p.out⟩
   .have n:decide (97<=c)=false:=(by simp;omega);have o:decide (c<=122)=true:=(by simp;omega);have r:decide (48<=c)=true:=(by simp;omega);have t:decide (c<=57)=false:=by simp;omega
    have u:(c == 45)=false:=by simp;try omega
    have d:Gg (dy s k)=false:=(by rw [<- j];exact a);replace ⟨j,a,d,h⟩:=H4 j a d h;have l:Bm s=false:=(by unfold Bm;rw [Rp m d.out];simp);replace l:=Hh l;go_wp2;go_ret;exact ⟨by rw [l.out];rfl,p.out⟩
   .have n:decide (97<=c)=true:=(by simp;omega);have o:decide (c<=122)=false:=(by simp;omega);have r:decide (48<=c)=true:=(by simp;omega);have t:decide (c<=57)=false:=by simp;omega
    have u:(c == 45)=false:=by simp;try omega
    have d:Gg (dy s k)=false:=(by rw [<- j];exact a);replace ⟨j,a,d,h⟩:=H4 j a d h;have l:Bm s=false:=(by unfold Bm;rw [Rp m d.out];simp);replace l:=Hh l;go_wp2;go_ret;exact ⟨by rw [l.out];rfl,p.out⟩
  .have y:¬ (k:Int)<s.size:=(by omega);have ad:k=s.size:=(by omega);subst ad;have g:Bm s=true:=(by unfold Bm;rw [x.out];simp;omega);replace g:=Hh g;go_wp2;go_ret;exact ⟨by rw [g.out];rfl,p.out⟩
def O3 (c:Int):Bool:=decide (48<=c) && decide (c<=57)
def G3 (s:ByteArray):Nat->Bool
 | 0=>true
 | k+1=>G3 s k && O3 (dy s k)
def Gh (s:ByteArray):Nat->Int
 | 0=>0
 | k+1=>10*Gh s k+(dy s k-48)
def B2 (s:ByteArray) (d:Nat):Int:=
 if s.size=0\/d<s.size\/(1<s.size/\dy s 0=48) then -1 else if G3 s s.size=true then Gh s s.size else -1
def Alv {s:ByteArray} {k n:Nat} (h:G3 s n=true) (a:k<=n):G3 s k=true:=by
 induction n with
 | zero=>
  have:k=0:=by omega
  subst this;rfl
 | succ n ih=>
  simp only [G3,E7] at h;by_cases c:k=n+1
  .subst c;simp [G3,h]
  .exact ih h.1 (by omega)
def Ac7 {s:ByteArray} {k:Nat} (a:k<s.size) (h:O3 (dy s k)=false):¬ G3 s s.size=true:=by
 intro c;have:=Alv c (show k+1<=s.size by omega);simp [G3,h] at this
def Tj {c:Int}:O3 c=true↔48<=c/\c<=57:=by simp [O3]
def Alw {s:ByteArray} {k:Nat} (h:G3 s k=true):0<=Gh s k/\Gh s k<10 ^ k:=by
 induction k with
 | zero=>simp [Gh]
 | succ k ih=>
  simp only [G3,E7] at h;obtain ⟨h1,a⟩:=ih h.1;obtain ⟨b,c⟩:=Tj.1 h.2;rw [Int.pow_succ];simp only [Gh];omega
def Ac8 {s:ByteArray} {k:Nat} (h:G3 s k=true) (b:k<=13):0<=Gh s k/\Gh s k<10000000000000:=by
 obtain ⟨h1,a⟩:=Alw h;refine ⟨h1,Int.lt_of_lt_of_le a ?_⟩
 rcases (show k=0\/k=1\/k=2\/k=3\/k=4\/k=5\/k=6\/k=7\/k=8\/k=9\/k=10\/k=11\/k=12\/k=13 by omega) with rfl | rfl | rfl | rfl | rfl | rfl | rfl | rfl | rfl | rfl | rfl | rfl | rfl | rfl<;>decide
def Ac9 (s:ByteArray) (w:WD) (p:s.size<=maxLen):CS prog 126 #[.string s] w fun e w'=>e=.returned (.int .i64 (B2 s 10))/\BW w.heap.size w w':=by
 have a:∀ (k:Nat),k<s.size->∀ w,(Instr.index 9 (.string s) (.int .i64 (k:Int))).run prog w=.ok (.int .u8 (dy s k)) w:=fun k hk w=>P4 Eg s k k rfl hk w;by_cases h0:s.size=0
 .have k0:((s.size:Int) == 0)=true:=by rw [h0];rfl
  have b:B2 s 10=-1:=by unfold B2;rw [Ad (.inl h0)]
  replace ⟨h0,b,p,a⟩:=H4 h0 b p a;go_enter Vr,Vn;go_wp2;go_ret;exact ⟨by rw [b.out];rfl,Below.refl _ _⟩
 have k0:((s.size:Int) == 0)=false:=by simp only [Bl];omega
 by_cases h1:10<s.size
 .have y:decide ((10:Int)<s.size)=true:=Av (by omega);have b:B2 s 10=-1:=by unfold B2;rw [Ad (.inr (.inl h1))]
  replace ⟨h0,b,p,a⟩:=H4 h0 b p a;go_enter Vr,Vn;go_wp2;go_ret;exact ⟨by rw [b.out];rfl,Below.refl _ _⟩
 have y:decide ((10:Int)<s.size)=false:=Ax (by omega);have u:∀ w,(Instr.index 9 (.string s) (.int .i64 0)).run prog w=.ok (.int .u8 (dy s 0)) w:=a 0 (by omega);obtain ⟨c0,d⟩:=Ex (dy s 0);rw [<- d] at u;by_cases t:1<s.size/\c0=48
 .have z:decide ((1:Int)<s.size)=true:=Av (by omega);have k3:(c0 == 48)=true:=by simp [t.2]
  have b:B2 s 10=-1:=by unfold B2;rw [Ad (.inr (.inr (by rw [<- d];exact t)))]
  replace ⟨h0,h1,t,b,p,a,d⟩:=H7 h0 h1 t b p a d;go_enter Vr,Vn;go_wp2;go_ret;exact ⟨by rw [b.out];rfl,Below.refl _ _⟩
 have an:decide ((1:Int)<s.size)=false\/(decide ((1:Int)<s.size)=true/\(c0 == 48)=false):=by
  by_cases c:1<s.size
  .refine .inr ⟨Av (by omega),?_⟩;simp only [Bl];intro e;exact t ⟨c,e⟩
  .exact .inl (Ax (by omega))
 have g:¬ (s.size=0\/10<s.size\/(1<s.size/\dy s 0=48)):=by rw [<- d];omega
 have l:s.size<=13:=by omega
 have aB:s.size<=13:=by omega
 clear t h1 h0 p;replace ⟨a,g,l,d⟩:=H4 a g l d;rcases an with z | ⟨z,k3⟩
 all_goals
  go_enter Vr,Vn;go_wp2;go_loopw [3,4,25] (fun n _ i wr=>∃ k:Nat,i=.int .i64 k/\n=.int .i64 (Gh s k)/\k<=s.size/\Hid (G3 s k=true)/\Hid (BW w.heap.size w wr)) (fun _ _ i _=>s.size-(intOf i).toNat)
  case atStart=>exact ⟨0,rfl,rfl,Aq _,rfl,Below.refl _ _⟩
  case round=>
   obtain ⟨k,rfl,rfl,hk,hy,hB⟩:=hrel;clear k0 y u
   try clear k3
   clear z;by_cases v:k<s.size
   .have ac:(k:Int)<s.size:=(by omega);have al:=a k v;obtain ⟨c,h⟩:=Ex (dy s k);rw [<- h] at al;by_cases j:O3 c=true
    .obtain ⟨q1,q2⟩:=Tj.1 j;have y:decide (c<48)=false:=Ax (by omega);have z:decide (57<c)=false:=Ax (by omega);have r:G3 s (k+1)=true:=(by simp only [G3,hy.out,<- h,j,O1]);obtain ⟨n,x⟩:=Ex (Gh s k);rw [<- x];have m:=Ac8 hy.out (by have:=l.out;omega);rw [<- x] at m;have ao:IntKind.i64.wrap (n*10)=n*10:=E9 _ (by omega);have ap:IntKind.u8.wrap (c-48)=c-48:=IntWalk.u8_in _ (by omega);have av:IntKind.i64.wrap (c-48)=c-48:=E9 _ (by omega);have aA:IntKind.i64.wrap (n*10+(c-48))=n*10+(c-48):=E9 _ (by omega);have f:Gh s (k+1)=10*n+(c-48):=(by simp only [Gh,<- x,<- h]);replace ⟨h,j,q1,q2,r,x,m,f⟩:=H8 h j q1 q2 r x m f;go_wp2;go_roundw
     case rel=>exact ⟨k+1,by go_num,by first | rfl | (rw [f.out];done) | (rw [f.out];go_num) | (rw [f.out];congr 1;omega) | (rw [f.out];congr 1),by omega,r.out,hB.out⟩
     case measure=>simp [intOf];omega
    .have o:O3 (dy s k)=false:=(by rw [<- h];simpa using j);have b:B2 s 10=-1:=(by unfold B2;rw [Ac g.out,Ac (Ac7 v o)]);have ad:c<48\/57<c:=(by apply Ii;intro q;exact j (Tj.2 (by omega)));replace ⟨h,j,o,b⟩:=H4 h j o b;rcases ad with q | q
     .have y:=Av q;go_wp2;go_ret;exact ⟨by rw [b.out];rfl,hB.out⟩
     .have y:decide (c<48)=false:=Ax (by omega);have z:=Av q;go_wp2;go_ret;exact ⟨by rw [b.out];rfl,hB.out⟩
   .have ac:¬ (k:Int)<s.size:=(by omega);have am:k=s.size:=(by omega);subst am;have b:B2 s 10=Gh s s.size:=(by unfold B2;rw [Ac g.out,Ad hy.out]);replace b:=Hh b;go_wp2;go_ret;exact ⟨by rw [b.out];rfl,hB.out⟩
def V2 (s:ByteArray) (d:Nat) (w:WD) (r:s.size<=maxLen) (aA:d<=13):CS prog 168 #[.string s,.int .i64 (d:Int)] w fun e w'=>e=.returned (.int .i64 (B2 s d))/\BW w.heap.size w w':=by
 have a:∀ (k:Nat),k<s.size->∀ w,(Instr.index 9 (.string s) (.int .i64 (k:Int))).run prog w=.ok (.int .u8 (dy s k)) w:=fun k hk w=>P4 Eg s k k rfl hk w;by_cases h0:s.size=0
 .have k0:((s.size:Int) == 0)=true:=by rw [h0];rfl
  have z:decide ((s.size:Int)<1)=true:=Av (by omega);have b:B2 s d=-1:=by unfold B2;rw [Ad (.inl h0)]
  replace ⟨h0,b,r,a⟩:=H4 h0 b r a;go_enter Vs,Vo;go_wp2;go_ret;exact ⟨by rw [b.out];rfl,Below.refl _ _⟩
 have k0:((s.size:Int) == 0)=false:=by simp only [Bl];omega
 have z:decide ((s.size:Int)<1)=false:=Ax (by omega);by_cases h1:d<s.size
 .have k1:decide ((d:Int)<s.size)=true:=Av (by omega);have b:B2 s d=-1:=by unfold B2;rw [Ad (.inr (.inl h1))]
  replace ⟨h0,b,r,a⟩:=H4 h0 b r a;go_enter Vs,Vo;go_wp2;go_ret;exact ⟨by rw [b.out];rfl,Below.refl _ _⟩
 have k1:decide ((d:Int)<s.size)=false:=Ax (by omega);have ao:=Ax h1;have v:∀ w,(Instr.index 9 (.string s) (.int .i64 0)).run prog w=.ok (.int .u8 (dy s 0)) w:=a 0 (by omega);obtain ⟨c0,f⟩:=Ex (dy s 0);rw [<- f] at v;by_cases u:1<s.size/\c0=48
 .have k2:decide ((1:Int)<s.size)=true:=Av (by omega);have k3:(c0 == 48)=true:=by simp [u.2]
  have b:B2 s d=-1:=by unfold B2;rw [Ad (.inr (.inr (by rw [<- f];exact u)))]
  replace ⟨h0,h1,u,b,r,a,f⟩:=H7 h0 h1 u b r a f;go_enter Vs,Vo;go_wp2;go_ret;exact ⟨by rw [b.out];rfl,Below.refl _ _⟩
 have an:decide ((1:Int)<s.size)=false\/(decide ((1:Int)<s.size)=true/\(c0 == 48)=false):=by
  by_cases c:1<s.size
  .refine .inr ⟨Av (by omega),?_⟩;simp only [Bl];intro e;exact u ⟨c,e⟩
  .exact .inl (Ax (by omega))
 have h:¬ (s.size=0\/d<s.size\/(1<s.size/\dy s 0=48)):=by rw [<- f];omega
 have m:s.size<=13:=by omega
 have aE:s.size<=13:=by omega
 clear u h1 h0 r;replace ⟨a,h,m,f⟩:=H4 a h m f;rcases an with k2 | ⟨k2,k3⟩
 all_goals
  go_enter Vs,Vo;go_wp2;go_loopw [5,6] (fun n i wr=>∃ k:Nat,i=.int .i64 k/\n=.int .i64 (Gh s k)/\k<=s.size/\Hid (G3 s k=true)/\Hid (BW w.heap.size w wr)) (fun _ i _=>s.size-(intOf i).toNat)
  case atStart=>exact ⟨0,rfl,rfl,Aq _,rfl,Below.refl _ _⟩
  case round=>
   obtain ⟨k,rfl,rfl,hk,hy,hB⟩:=hrel;clear k0 z k1 ao v
   try clear k3
   clear k2;by_cases x:k<s.size
   .have ac:(k:Int)<s.size:=(by omega);have al:=a k x;obtain ⟨c,j⟩:=Ex (dy s k);rw [<- j] at al;by_cases l:O3 c=true
    .obtain ⟨q1,q2⟩:=Tj.1 l;have k1:decide (c<48)=false:=Ax (by omega);have k2:decide (57<c)=false:=Ax (by omega);have t:G3 s (k+1)=true:=(by simp only [G3,hy.out,<- j,l,O1]);obtain ⟨n,y⟩:=Ex (Gh s k);rw [<- y];have o:=Ac8 hy.out (by have:=m.out;omega);rw [<- y] at o;have ap:IntKind.i64.wrap (10*n)=10*n:=E9 _ (by omega);have aB:IntKind.u8.wrap (c-48)=c-48:=IntWalk.u8_in _ (by omega);have aC:IntKind.i64.wrap (c-48)=c-48:=E9 _ (by omega);have aD:IntKind.i64.wrap (n*10+(c-48))=n*10+(c-48):=E9 _ (by omega);have av:IntKind.i64.wrap (10*n+(c-48))=10*n+(c-48):=E9 _ (by omega);have g:Gh s (k+1)=10*n+(c-48):=(by simp only [Gh,<- y,<- j]);replace ⟨j,l,q1,q2,t,y,o,g⟩:=H8 j l q1 q2 t y o g;go_wp2;go_roundw
     case rel=>exact ⟨k+1,by go_num,by first | rfl | (rw [g.out];done) | (rw [g.out];go_num) | (rw [g.out];congr 1;omega) | (rw [g.out];congr 1),by omega,t.out,hB.out⟩
     case measure=>simp [intOf];omega
    .have p:O3 (dy s k)=false:=(by rw [<- j];simpa using l);have b:B2 s d=-1:=(by unfold B2;rw [Ac h.out,Ac (Ac7 x p)]);have ad:c<48\/57<c:=(by apply Ii;intro q;exact l (Tj.2 (by omega)));replace ⟨j,l,p,b⟩:=H4 j l p b;rcases ad with q | q
     .have k1:=Av q;go_wp2;go_ret;exact ⟨by rw [b.out];rfl,hB.out⟩
     .have k1:decide (c<48)=false:=Ax (by omega);have k2:=Av q;go_wp2;go_ret;exact ⟨by rw [b.out];rfl,hB.out⟩
   .have ac:¬ (k:Int)<s.size:=(by omega);have am:k=s.size:=(by omega);subst am;have b:B2 s d=Gh s s.size:=(by unfold B2;rw [Ac h.out,Ad hy.out]);replace b:=Hh b;go_wp2;go_ret;exact ⟨by rw [b.out];rfl,hB.out⟩
section
variable {w w':WD} {b b' o B:Nat} {c:Array VL} {T:TypeId} {fr:Nat×Nat} {x y:Obj} {v:VL}
end
def Apv {P:Program} {t e:TypeId} {i:TypeInfo} (d:P.underlying t=some (.slice e)) (f:P.info? e=some i) (b a cap n:Nat) (x:Int) (j:x=n) (g:n<=cap) (w:WD) :
  (Instr.slice t (.slice (some ⟨b,0,none⟩) a cap) none (some (.int .i64 x)) (some (.int .i64 x))).run P w=.ok (.slice (some ⟨b,0,none⟩) n n) w:=by
 subst j
 have h1:∀ (y:Nat) (_:n<=y) c,(Instr.sliceBound (.int .i64 (n:Int)) y c).run P w=.ok n w:=fun y h c=>by
  simp [Instr.sliceBound,asIntOf,h]
 simp [Instr.slice,Instr.sliceBounds,Mu d,h1 cap g,h1 n Ln,sizeOf,typeInfo,f,Addr.add]
def Aak (F:FuncId) (y:Array VL) (p:Nat->Int) (w:WD)
  (hF:∀ args w,(callFunc F args).run prog w=.ok (.enter F args) w)
  (H:∀ (i:Nat) (w1:WD),i<4->BW w.heap.size w w1->CS prog F (#[.int .i64 i]++y) w1 fun e w2=>e=.returned (.int .i64 (p i))/\BW w1.heap.size w1 w2) :
  CS prog 318 #[.func (.func F) #[] y] w fun e w'=>e=.returned (.agg #[.int .i64 (p 0),.int .i64 (p 1),.int .i64 (p 2),.int .i64 (p 3)])/\BW w.heap.size w w':=by
 have H':=Hh H;clear H;go_enter func318,ntmps318;go_wp2;go_loopw [4,5] (fun _ i wr=>∃ k:Nat,k<=4/\i=.int .i64 k/\BW w.heap.size w wr/\(∃ x,wr.heap[w.heap.size]?=some (.cells #[x,x,x,x] 30 (0,0)))/\(∃ f:Nat->Int,wr.heap[w.heap.size+1]?=some (.cells #[.int .i64 (f 0),.int .i64 (f 1),.int .i64 (f 2),.int .i64 (f 3)] 30 (0,0))/\∀ j,j<k->f j=p j)) (fun _ i _=>4-(intOf i).toNat)
 case atStart=>exact ⟨0,by omega,rfl,Bn.alloc (by simp) _,⟨_,Aj _ (Ah _ _)⟩,fun _=>0,A3 _ _ (by simp),by omega⟩
 case round=>
  obtain ⟨k,hk,rfl,r,⟨x,hx⟩,f,hf,l⟩:=hrel;have m:=Hh l;clear l;have c:=Hh hx;have b:=Hh hf;clear hx hf;by_cases q:k<4
  .have hi:(k:Int)<4:=(by omega);go_wp2_with fail;refine (H' k _ q r).mono ?_;rintro e w2 ⟨rfl,a⟩;have g:=Ae a b.out (Ab b.out);have z:=Ae a c.out (Ab c.out);have cc:=Aa g;have ff:=Af g;have g':=Hh g;clear g;have o:=Hh z;clear z;have d:=a.mono (Ab b.out);have s:=r.trans (d.mono (by omega))
   obtain ⟨n,t,u⟩:∃ n:Nat->Int,Hid (∀ j,j<k+1->n j=p j)/\Hid (∀ j,n j=if j=k then p k else f j):=by
    refine ⟨fun j=>if j=k then p k else f j,fun j hj=>?_,fun _=>rfl⟩;show (if j=k then p k else f j)=p j;split
    .next h=>rw [h]
    .exact m.out j (by omega)
   rcases te q with rfl | rfl | rfl | rfl
   all_goals
    clear a d;go_wp2;go_roundw
    case rel=>
     refine ⟨_,q,by go_num,s.setCell (by simp) _,⟨x,C0 (by omega) _ o.out⟩,n,?_,t.out⟩;rw [Am g'.out];simp [u.out]
    case measure=>simp [intOf]
  .have hi:¬ (k:Int)<4:=(by omega);have l:=m.out;have cc:=Aa b.out;have cx:=Aa c.out;have fx:=Af c.out;have p0:=l 0 (by omega);have p1:=l 1 (by omega);have p2:=l 2 (by omega);have p3:=l 3 (by omega);clear l;go_wp2;refine Ak (v:=.agg #[.int .i64 (p 0),.int .i64 (p 1),.int .i64 (p 2),.int .i64 (p 3)]) (by simp [results,results318,go_sem,cx]) rfl ⟨rfl,?_⟩;exact (((r.setCell Ln _).setCell Ln _).setCell Ln _).setCell Ln _
def Apw:∀ args w,(callFunc 333 args).run prog w=.ok (.enter 333 args) w:=I4 func333 (by decide) (by simp [f333])
def Apx (u v:V4) (c d:Nat) (i:Nat) (w:WD) (o:i<4)
  (a:w.heap[c]?=some (.cells u.cells 30 (0,0))) (b:w.heap[d]?=some (.cells v.cells 30 (0,0))) :
  CS prog 333 (#[.int .i64 i]++#[.pointer (some ⟨c,0,none⟩),.pointer (some ⟨d,0,none⟩)]) w fun e w'=>e=.returned (.int .i64 (min (u.get i) (v.get i)))/\BW w.heap.size w w':=by
 have f:=Aa a 0;have g:=Aa a 1;have h:=Aa a 2;have j:=Aa a 3;have k:=Aa b 0;have l:=Aa b 1;have m:=Aa b 2;have n:=Aa b 3;simp at f g h j k l m n;clear a b;rcases te o with rfl | rfl | rfl | rfl
 all_goals
  go_enter func333,ntmps333;go_wp2;go_quiet (fail);go_wp2
  all_goals
   go_ret;refine ⟨?_,⟨rfl,rfl,rfl,Nat.le_refl _,fun _ _=>rfl⟩⟩;simp [V4.get];omega
def V4.least (u v:V4):V4:=⟨min u.a v.a,min u.b v.b,min u.c v.c,min u.d v.d⟩
def Apy (u v:V4) (w:WD) :
  CS prog 314 #[u.val,v.val] w fun e w'=>e=.returned (u.least v).val/\BW w.heap.size w w':=by
 go_enter func314,ntmps314;go_wp2_with fail;refine (Aak 333 _ (fun i=>min (u.get i) (v.get i)) _ Apw ?_).mono ?_
 .intro i w1 f c;exact Apx u v w.heap.size (w.heap.size+1) i w1 f (Ae c (Aj _ (Aj _ (Ah _ _))) (by simp;omega)) (Ae c (Aj _ (A3 _ _ (by simp))) (by simp))
 .rintro e j ⟨rfl,a⟩;have g:=Ae a (A3 (b:=w.heap.size+2) _ _ (by simp)) (by simp);have d:=Aa g;have h:=Af g;clear g;go_wp2;refine Ak (v:=(u.least v).val) (by simp [results,results314,go_sem,d,V4.least,V4.get]) rfl ⟨rfl,?_⟩;refine Co ?_ (by simp;omega) _;refine Co ?_ (by simp;omega) _;refine Co ?_ (by simp;omega) _;refine Co ?_ (by simp;omega) _;exact ((Bn.alloc (by simp) _).alloc (by simp;omega) _).trans (a.mono (by simp;omega))
def Xa {v:V4} (h:v.right=true):(((0<=v.a/\v.a<=1073741824)/\(0<=v.b/\v.b<=1073741824))/\(0<=v.c/\v.c<=1073741824))/\(0<=v.d/\v.d<=1073741824):=by
 simpa [V4.right,gd] using h
def Apz:∀ args w,(callFunc 319 args).run prog w=.ok (.enter 319 args) w:=I4 func319 (by decide) (by simp [f319])
def Ap0 (u v:V4) (c d:Nat) (i:Nat) (w:WD) (q:i<4) (f:u.right=true) (g:v.right=true)
  (a:w.heap[c]?=some (.cells u.cells 30 (0,0))) (b:w.heap[d]?=some (.cells v.cells 30 (0,0))) :
  CS prog 319 (#[.int .i64 i]++#[.pointer (some ⟨c,0,none⟩),.pointer (some ⟨d,0,none⟩)]) w fun e w'=>e=.returned (.int .i64 (u.get i-v.get i))/\BW w.heap.size w w':=by
 have h:=Aa a 0;have j:=Aa a 1;have k:=Aa a 2;have l:=Aa a 3;have m:=Aa b 0;have n:=Aa b 1;have o:=Aa b 2;have p:=Aa b 3;simp at h j k l m n o p;clear a b;obtain ⟨⟨⟨⟨_,_⟩,⟨_,_⟩⟩,⟨_,_⟩⟩,⟨_,_⟩⟩:=Xa f;obtain ⟨⟨⟨⟨_,_⟩,⟨_,_⟩⟩,⟨_,_⟩⟩,⟨_,_⟩⟩:=Xa g;clear f g;rcases te q with rfl | rfl | rfl | rfl
 all_goals
  go_enter func319,ntmps319;go_wp2;go_quiet (fail);go_wp2;go_ret;refine ⟨?_,⟨rfl,rfl,rfl,Nat.le_refl _,fun _ _=>rfl⟩⟩;simp [V4.get]
  done
def Ap1:∀ args w,(callFunc 320 args).run prog w=.ok (.enter 320 args) w:=I4 func320 (by decide) (by simp [f320])
def Ap2 (u v:V4) (c d:Nat) (i:Nat) (w:WD) (q:i<4) (f:u.right=true) (g:v.right=true)
  (a:w.heap[c]?=some (.cells u.cells 30 (0,0))) (b:w.heap[d]?=some (.cells v.cells 30 (0,0))) :
  CS prog 320 (#[.int .i64 i]++#[.pointer (some ⟨c,0,none⟩),.pointer (some ⟨d,0,none⟩)]) w fun e w'=>e=.returned (.int .i64 (u.get i+v.get i))/\BW w.heap.size w w':=by
 have h:=Aa a 0;have j:=Aa a 1;have k:=Aa a 2;have l:=Aa a 3;have m:=Aa b 0;have n:=Aa b 1;have o:=Aa b 2;have p:=Aa b 3;simp at h j k l m n o p;clear a b;obtain ⟨⟨⟨⟨_,_⟩,⟨_,_⟩⟩,⟨_,_⟩⟩,⟨_,_⟩⟩:=Xa f;obtain ⟨⟨⟨⟨_,_⟩,⟨_,_⟩⟩,⟨_,_⟩⟩,⟨_,_⟩⟩:=Xa g;clear f g;rcases te q with rfl | rfl | rfl | rfl
 all_goals
  go_enter func320,ntmps320;go_wp2;go_quiet (fail);go_wp2;go_ret;refine ⟨?_,⟨rfl,rfl,rfl,Nat.le_refl _,fun _ _=>rfl⟩⟩;simp [V4.get]
  done
