/- Parts of a proof. No condition. -/
import Derived.Test.YtimlcnhcjndijaaGreatDoorJ00
import Derived.Test.YtimlcnhcjndijaaGreatDoorProg
import Derived.WalkLawsBesides
import Derived.WalkSpells
import Derived.Lib.Hide
import Derived.BigQuiet
set_option linter.all false
set_option maxRecDepth 100000
set_option maxHeartbeats 3200000
namespace Go.Proofs.YtimlcnhcjndijaaGreatDoor
open IntKind renaming i64->G
open Value renaming int->Z,slice->V,bool->Q,string->D,pointer->K,tuple->E
open Option renaming none->I,some->O
open Obj renaming cells->J
open Ending renaming returned->Y
open Go renaming World->WD,Value->VL,Calls->CS
open Go.RowKit renaming Below->BW
open Go.Proofs.Tryz
section
open Go.RowKit Go.Maps Go.Lib
def Hh{p:Prop}(h:p):Go.RowKit.Hid p:=h
def Ln{n:Nat}:n<=n:=Nat.le_refl _
def Ex{α:Sort _}(a:α):∃x,x=a:=⟨_,rfl⟩
def Bn{w:WD}{o:Obj}:BW w.heap.size w (w.alloc o):=(Below.refl _ _).alloc Ln _
abbrev Jz:Array VL:=#[Z G 0,D ⟨#[]⟩,D ⟨#[]⟩,Z G 0,Z G 0,Z G 0,Z G 0,Z G 0,Z G 0,Z G 0,Z G 0,Z G 0,Q false,V I 0 0,Z G 0,Z G 0,Z G 0,Q false,Q false,Z G 0,V I 0 0,V I 0 0]
def H2{pa pb:Prop}(a:pa)(b:pb):Go.RowKit.Hid pa/\Go.RowKit.Hid pb:=⟨a,b⟩
def H3{pa pb pc:Prop}(a:pa)(b:pb)(c:pc):Go.RowKit.Hid pa/\Go.RowKit.Hid pb/\Go.RowKit.Hid pc:=⟨a,b,c⟩
def H4{pa pb pc pd:Prop}(a:pa)(b:pb)(c:pc)(d:pd):Go.RowKit.Hid pa/\Go.RowKit.Hid pb/\Go.RowKit.Hid pc/\Go.RowKit.Hid pd:=⟨a,b,c,d⟩
def H5{pa pb pc pd pe:Prop}(a:pa)(b:pb)(c:pc)(d:pd)(e:pe):Go.RowKit.Hid pa/\Go.RowKit.Hid pb/\Go.RowKit.Hid pc/\Go.RowKit.Hid pd/\Go.RowKit.Hid pe:=⟨a,b,c,d,e⟩
def H6{pa pb pc pd pe pf:Prop}(a:pa)(b:pb)(c:pc)(d:pd)(e:pe)(f:pf):Go.RowKit.Hid pa/\Go.RowKit.Hid pb/\Go.RowKit.Hid pc/\Go.RowKit.Hid pd/\Go.RowKit.Hid pe/\Go.RowKit.Hid pf:=⟨a,b,c,d,e,f⟩
def H7{pa pb pc pd pe pf pg:Prop}(a:pa)(b:pb)(c:pc)(d:pd)(e:pe)(f:pf)(g:pg):Go.RowKit.Hid pa/\Go.RowKit.Hid pb/\Go.RowKit.Hid pc/\Go.RowKit.Hid pd/\Go.RowKit.Hid pe/\Go.RowKit.Hid pf/\Go.RowKit.Hid pg:=⟨a,b,c,d,e,f,g⟩
def H8{pa pb pc pd pe pf pg ph:Prop}(a:pa)(b:pb)(c:pc)(d:pd)(e:pe)(f:pf)(g:pg)(h:ph):Go.RowKit.Hid pa/\Go.RowKit.Hid pb/\Go.RowKit.Hid pc/\Go.RowKit.Hid pd/\Go.RowKit.Hid pe/\Go.RowKit.Hid pf/\Go.RowKit.Hid pg/\Go.RowKit.Hid ph:=⟨a,b,c,d,e,f,g,h⟩
def Ge{α:Type _}(l:List α)(k:Nat)(h:k<l.length):∃x,l[k]?=O x:=⟨_,List.getElem?_eq_getElem h⟩
def A3:=@List.getElem?_eq_getElem
def Ai:=@List.mem_of_getElem?
def An:=@List.getElem?_eq_some_iff
def Ac:=@if_neg
def Ad:=@if_pos
def Ar:=@List.length_map
def Al:=@bodyPost_ret
def A2:=@decide_eq_false
def Az:=@decide_eq_true
def A7:=@List.getElem?_map
def As:=@Nat.zero_le
def Cv:=@congrArg
def Br:=@beq_eq_false_iff_ne
def By:=@World.cell?_of_block
def Bq:=@Nat.lt_of_lt_of_le
def B2:=@List.mem_cons_of_mem
def B4:=@List.getElem?_of_mem
def A5:=@List.mem_map
def A8:=@Nat.le_trans
def C4:=@List.take_of_length_le
def Ci:=@List.mem_cons_self
def Cn:=@List.length_append
def Dj:=@List.getElem?_modify
def C1:=@Below.heap_setCell
def Ed:=@underlying3
def Fb:=@List.getElem?_append_left
def Fk:=@List.setIfInBounds_toArray
def Ev:=@underlying9
def Da:=@Bool.and_eq_true
def Dk:=@List.map_append
def Dl:=@List.mem_append
def D3:=@List.getElem?_set
def Gv:=@Classical.byContradiction
def Ia:=@List.getElem?_append_right
def Ew:=@List.set_cons_succ
def C6:=@Below.setCell
def Eh:=@List.ext_getElem?
def Dy:=@List.length_set
def F0:=@World.ownsRow.cellAt
def Ib:=@List.length_eq_zero_iff
def Fc:=@List.set_cons_zero
def Cf:=@info_parts
def F1:=@List.mem_map_of_mem
def Db:=@Nat.zero_add
def D4:=@IntWalk.i64_in
def Dm:=@List.map_map
def Gg:=@Calls.quiet_of_same
def Dc:=@Int.le_refl
def F2:=@decide_eq_true_eq
def Fl:=@List.length_take
def Ic:=@List.length_modify
def F3:=@List.mem_filter
def D5:=@Nat.le_succ
def L1:=@List.pairwise_iff_getElem
def Iu:=@Bool.eq_false_iff
def Ns:=@underlying31
def Jj:=@List.mem_singleton
def Fm:=@List.mem_cons
def K5:=@Option.map_eq_some_iff
def Iv:=@Below.heap_alloc
def Aad:=@underlying4
def Iw:=@List.length_drop
def Jk:=@Function.comp_def
def Jl:=@List.length_cons
def Oj:=@Array.getElem?_setIfInBounds
def J0:=@World.size_alloc
def Jm:=@Exit.noGoto_ret
def J1:=@List.getElem_mem
def Kk:=@of_decide_eq_true
def Mn:=@List.take_append_drop
def Mo:=@List.getElem?_toArray
def Kl:=@List.any_eq_true
def Jn:=@DataW.trod_int
def Km:=@List.filter_cons
def K6:=@List.append_assoc
def K7:=@Int.toNat_natCast
def K8:=@underlying46
def A59:=@zeroValue4
def Kn:=@Option.some.inj
def Iy:=@Nat.succ_pos
def Pn:=@Array.getElem?_eq_getElem
def Gh:=@bne_iff_ne
def Mp:=@List.getElem?_take
def Mq:=@underlying361
def K9:=@Option.map_some
def Jo:=@Nat.add_zero
def L2:=@wpList_store_row
def Ok:=@List.length_filter_le
def Tz:=@underlying67
def Mr:=@World.ownsRow_nil
def Ms:=@wpList_append_own
def Mt:=@List.foldl_append
def Ko:=@List.map_cons
def A6a:=@zeroValue3
def Ol:=@List.mem_iff_getElem
def Nt:=@List.filter_append
def A6b:=@underlying0
def Po:=@World.frozen?_of_block
def Pp:=@Array.getElem?_toList
def A6c:=@sizeOf4
def Pq:=@List.getElem?_eq_none
def A6d:=@zeroValue0
def Mu:=@Nat.min_eq_left
def Om:=@List.getElem?_drop
def R4:=@Array.getElem?_eq_some_iff
def A6e:=@sizeOf3
def A6f:=@isAgg4
def On:=@List.take_add_one
def Nu:=@Nat.not_lt_zero
def Nv:=@List.append_nil
def Oo:=@World.ownsRow.lt
def Pr:=@List.pairwise_cons
def R5:=@List.eq_of_mem_replicate
def A6g:=@isAgg3
def La:=@setRow_heap
def Nw:=@run_underlying
def Ps:=@underlying52
def A6h:=@zeroValue9
def Oq:=@Bool.eq_iff_iff
def Qu:=@List.length_take_le
def A6i:=@sizeOf0
def Pt:=@List.cons_append
def Pu:=@List.take_length
def Ot:=@List.mem_range
def A6j:=@isAgg0
def Mv:=@Nat.add_mul
def Nx:=@List.map_set
def R6:=@wpList_append_own_at
def Ny:=@ntmps31
def Ou:=@ntmps160
def T3:=@World.block_lt_of_cell?
def A6k:=@zeroValue31
def Qv:=@List.all_eq_true
def Mw:=@beq_iff_eq
def Nz:=@rounds_succ
def N0:=@func31
def A6l:=@sizeOf9
def A6m:=@underlying230
def R7:=@Nat.lt_or_gt_of_ne
def Ov:=@func160
def R8:=@List.find?_eq_none
def R9:=@of_decide_eq_false
def Qw:=@List.length_nil
def Pv:=@Bool.and_self
def Wb:=@List.getD_eq_getElem?_getD
def Wc:=@Array.getElem?_append_left
def A6n:=@zeroValue230
def Sa:=@List.nodup_append
def T5:=@Nat.mul_le_mul_right
def Wd:=@List.mem_or_eq_of_mem_set
def T7:=@List.pairwise_append
def T9:=@List.mem_of_mem_take
def We:=@List.getElem?_zip_eq_some
def Wf:=@List.getElem?_eq_none_iff
def A6o:=@isAgg9
def Aae:=@List.findIdx?_eq_some_iff_getElem
def A6p:=@zeroValue67
def Wg:=@WideMaps.keyOf_string_mk
def Pw:=@callsIn_wide
def Aaf:=@Array.all_eq_true_iff_forall_mem
def A6q:=@sizeOf31
def Sb:=@List.nil_append
def Ua:=@List.mem_mergeSort
def Sc:=@List.nodup_cons
def Ub:=@List.flatMap_cons
def Wh:=@Array.getElem?_modify
def A6r:=@sizeOf230
def A6s:=@isAgg31
def L3:=@if_true
def Wi:=@List.modify_succ_cons
def Wj:=@List.countP_le_length
def Wk:=@List.length_mergeSort
def Qx:=@List.set_set
def Wl:=@List.mem_of_mem_drop
def A6t:=@isAgg230
def A6u:=@sizeOf67
def Sd:=@ntmps100
def Se:=@Prod.mk.injEq
def Wm:=@List.length_pos_iff
def Wn:=@List.map_congr_left
def Aag:=@List.drop_eq_getElem_cons
def Uc:=@List.filter_map
def Ud:=@List.find?_some
def A6v:=@underlying286
def A6w:=@isAgg67
def Sf:=@Nat.le_of_lt
def Sg:=@func100
def Wo:=@underlying364
def Wp:=@List.mem_replicate
def Aah:=@underlying328
def Ue:=@wp_loop_rounds
def Uf:=@List.Perm.refl
def A6x:=@zeroValue286
def Wq:=@Option.some.injEq
def Wr:=@List.size_toArray
def Ws:=@underlying57
def Sh:=@Nat.mul_one
def Aai:=@List.toArray_replicate
def Aaj:=@List.length_pos_of_mem
def A6y:=@underlying5
def Wt:=@List.countP_cons
def Aak:=@List.mem_append_right
def Aal:=@List.length_replicate
def Aam:=@List.Perm.append_left
def A6z:=@zeroValue5
def Aan:=@wpList_mapUpdate_own
def Aao:=@Array.replicate_succ
def Aap:=@Array.replicate_zero
def Ug:=@setRow_other
def Wu:=@wpList_load_row
def Wv:=@List.range_succ
def Uh:=@List.map_nil
def Ww:=@List.foldl_cons
def Wy:=@List.of_mem_zip
def Ui:=@ntmps99
def Aaq:=@List.getElem_of_mem
def Aar:=@List.append_toArray
def Aas:=@List.filter_sublist
def A60:=@sizeOf286
def Wz:=@List.take_take
def Xa:=@size_zeroCells
def Uj:=@grownCap_ge
def Uk:=@func99
def A61:=@underlying229
def Aat:=@World.ownsMap_made
def Aau:=@underlying217
def Aav:=@grownCap_le_maxLen
def Aaw:=@List.findIdx?_cons
def Xb:=@ntmps126
def Xc:=@ntmps168
def A62:=@isAgg286
def Xd:=@ntmps212
def Xe:=@ntmps276
def A63:=@zeroValue229
def Aax:=@List.push_toArray
def Aay:=@underlying30
def Aaz:=@List.length_range
def Aa0:=@underlying44
def Qy:=@Ne.symm
def Aa1:=@decide_eq_decide
def Xf:=@func126
def Xg:=@func168
def A64:=@sizeOf5
def Xh:=@Addr.add_lit
def Xi:=@func212
def Xj:=@func276
def Xk:=@Int.le_trans
def Xl:=@Int.lt_trans
def Aa2:=@Array.toList_inj
def Aa3:=@Bool.not_eq_true
def Xm:=@ntmps85
def Aa4:=@List.getElem_map
def Aa5:=@UInt8.toNat_inj
def Aa6:=@Bool.or_eq_true
def A65:=@isAgg5
def Xn:=@func85
structure V4 where
 a:Int
 b:Int
 c:Int
 d:Int
deriving DecidableEq
def V4.get (v:V4):Nat->Int
 | 0=>v.a
 | 1=>v.b
 | 2=>v.c
 | _=>v.d
abbrev V4.cells (v:V4):Array VL:=#[Z G v.a,Z G v.b,Z G v.c,Z G v.d]
abbrev V4.val (v:V4):VL:=.agg #[Z G v.a,Z G v.b,Z G v.c,Z G v.d]
def ur {i:Nat} (h:i<4):i=0\/i=1\/i=2\/i=3:=ao9
def Af {B:Nat} {w w':WD} (h:BW B w w') {b o:Nat} (a:b<B):w'.cell? ⟨b,o,I⟩=w.cell? ⟨b,o,I⟩:=h.cell (p:=⟨b,o,I⟩) a
section
variable {w w':WD} {b b' o B:Nat} {c:Array VL} {T:TypeId} {fr:Nat×Nat} {x y:Obj} {v:VL}
def Aa (h:w.heap[b]?=O (J c T fr)) (o:Nat):w.cell? ⟨b,o,I⟩=c[o]?:=by simp[World.cell?,h]
def Ag (h:w.heap[b]?=O (J c T (0,0))) (o:Nat):w.frozen? ⟨b,o,I⟩=false:=by simp[World.frozen?,h]
def Ap (h:w.heap[b]?=O (J c T fr)) (o:Nat) (v:VL):(w.setCell ⟨b,o,I⟩ v).heap[b]?=O (J (c.setIfInBounds o v) T fr):=by
 simp[World.setCell,Wh,h]
def Dn (a:b≠b') (v:VL) (h:w.heap[b]?=O x):(w.setCell ⟨b',o,I⟩ v).heap[b]?=O x:=by
 rw[C1 _ _ _ _ a];exact h
def Ab (h:w.heap[b]?=O x):b<w.heap.size:=(R4.1 h).1
def Ah (w:WD) (x:Obj):(w.alloc x).heap[w.heap.size]?=O x:=heap_alloc_new w x
def A6 (w:WD) (x:Obj) (h:b=w.heap.size):(w.alloc x).heap[b]?=O x:=h▸heap_alloc_new w x
def Aj (y:Obj) (h:w.heap[b]?=O x):(w.alloc y).heap[b]?=O x:=(Iv w y b (Ab h)).trans h
def Ae (c:BW B w w') (h:w.heap[b]?=O x) (a:b<B):w'.heap[b]?=O x:=(c.block b a).trans h
def Ul (h:w.heap[b]?=O x):w.drew.heap[b]?=O x:=h
end
def Si {P:Program} {t e:TypeId} {i:TypeInfo} (d:P.underlying t=O (.slice e)) (f:P.info? e=O i) (b a cap n:Nat) (x:Int) (j:x=n) (g:n<=a) :
  ∃ta,(∀w,(Instr.slice t (V (O ⟨b,0,I⟩) a cap) (O (Z G x)) I I).run P w=.ok (V (O ta) (a-n) (cap-n)) w)/\(n<cap->ta=⟨b,n*i.size,I⟩):=by
 subst j
 have h1:∀(y:Nat) (_:n<=y) c w,(Instr.sliceBound (Z G (n:Int)) y c).run P w=.ok n w:=λy h c w=>by
  simp[Instr.sliceBound,asIntOf,h]
 refine⟨if cap=n then⟨b,0,I⟩else(⟨b,0,I⟩:Addr).add (n*i.size),λw=>?_,λh=>?_⟩
 .simp [Instr.slice,Instr.sliceBounds,Nw d,h1 a g,sizeOf,typeInfo,f]
  split<;>rfl
 .rw [Ac ao9];unfold Addr.add;split
  .next h=>rw[h]
  .simp
def J2 {F:FuncId} {fn:Func} (h:prog.funcs[F]?=O fn) (b:fn.name≠"runtime.NumGoroutine") (a:fn.body≠I) :
  ∀args w,(callFunc F args).run prog w=.ok (.enter F args) w:=by
 intro args w;simp[callFunc,go_sem,h,b,a]
def Bk{w:WD}{b:Nat}{c:Array VL}{t:Nat}{z:Nat×Nat}(h:w.heap[b]?=O (J c t z))(i:Nat)(v:VL)(e:c[i]?=O v):w.cell? ⟨b,i,I⟩=O v:=(Aa h i).trans e
def C3{w:WD}{b:Nat}{v0 v1 v2:VL}{t:Nat}{z:Nat×Nat}(h:w.heap[b]?=O (J #[v0,v1,v2] t z)):w.cell? ⟨b,0,I⟩=O v0/\w.cell? ⟨b,1,I⟩=O v1/\w.cell? ⟨b,2,I⟩=O v2:=by
 refine⟨?_,?_,?_⟩<;>exact Aa h _
def C5{w:WD}{b:Nat}{v0 v1 v2 v3 v4:VL}{t:Nat}{z:Nat×Nat}(h:w.heap[b]?=O (J #[v0,v1,v2,v3,v4] t z)):w.cell? ⟨b,0,I⟩=O v0/\w.cell? ⟨b,1,I⟩=O v1/\w.cell? ⟨b,2,I⟩=O v2/\w.cell? ⟨b,3,I⟩=O v3/\w.cell? ⟨b,4,I⟩=O v4:=by
 refine⟨?_,?_,?_,?_,?_⟩<;>exact Aa h _
def C10{w:WD}{b:Nat}{v0 v1 v2 v3 v4 v5 v6 v7 v8 v9:VL}{t:Nat}{z:Nat×Nat}(h:w.heap[b]?=O (J #[v0,v1,v2,v3,v4,v5,v6,v7,v8,v9] t z)):w.cell? ⟨b,0,I⟩=O v0/\w.cell? ⟨b,1,I⟩=O v1/\w.cell? ⟨b,2,I⟩=O v2/\w.cell? ⟨b,3,I⟩=O v3/\w.cell? ⟨b,4,I⟩=O v4/\w.cell? ⟨b,5,I⟩=O v5/\w.cell? ⟨b,6,I⟩=O v6/\w.cell? ⟨b,7,I⟩=O v7/\w.cell? ⟨b,8,I⟩=O v8/\w.cell? ⟨b,9,I⟩=O v9:=by
 refine⟨?_,?_,?_,?_,?_,?_,?_,?_,?_,?_⟩<;>exact Aa h _
def C13{w:WD}{b:Nat}{v0 v1 v2 v3 v4 v5 v6 v7 v8 v9 v10 v11 v12:VL}{t:Nat}{z:Nat×Nat}(h:w.heap[b]?=O (J #[v0,v1,v2,v3,v4,v5,v6,v7,v8,v9,v10,v11,v12] t z)):w.cell? ⟨b,0,I⟩=O v0/\w.cell? ⟨b,1,I⟩=O v1/\w.cell? ⟨b,2,I⟩=O v2/\w.cell? ⟨b,3,I⟩=O v3/\w.cell? ⟨b,4,I⟩=O v4/\w.cell? ⟨b,5,I⟩=O v5/\w.cell? ⟨b,6,I⟩=O v6/\w.cell? ⟨b,7,I⟩=O v7/\w.cell? ⟨b,8,I⟩=O v8/\w.cell? ⟨b,9,I⟩=O v9/\w.cell? ⟨b,10,I⟩=O v10/\w.cell? ⟨b,11,I⟩=O v11/\w.cell? ⟨b,12,I⟩=O v12:=by
 refine⟨?_,?_,?_,?_,?_,?_,?_,?_,?_,?_,?_,?_,?_⟩<;>exact Aa h _
end
section
open Go.RowKit Go.Maps Go.Lib
def ib (x:Int):Bool:=decide (0<=x) && decide (x<=1073741824)
def V4.right (v:V4):Bool:=ib v.a && ib v.b && ib v.c && ib v.d
def V4.fits (u v:V4):Bool:=decide (u.a<=v.a) && decide (u.b<=v.b) && decide (u.c<=v.c) && decide (u.d<=v.d)
def Afh (F:FuncId) (l:Array VL) (p:Nat->Bool) (w:WD)
  (hF:∀args w,(callFunc F args).run prog w=.ok (.enter F args) w)
  (H:∀(i:Nat) (w1:WD),i<4->BW w.heap.size w w1->CS prog F (#[Z G i]++l) w1 λe m=>e=Y (Q (p i))/\BW w.heap.size w1 m) :
  CS prog 109 #[.func (.func F) #[] l] w λe w'=>e=Y (Q (p 0 && p 1 && p 2 && p 3))/\BW w.heap.size w w':=by
 have n:=Hh H;clear H;go_enter func109,ntmps109;go_wp2;go_loopw [3,4] (λ_ i wr=>∃k:Nat,k<=4/\i=Z G k/\BW w.heap.size w wr/\(∀j:Nat,j<k->p j=true)) (λ_ i _=>4-(intOf i).toNat)
 case atStart=>exact⟨0,ao9,rfl,Below.refl _ _,ao9⟩
 case round=>
  obtain⟨k,s,rfl,g,c⟩:=hrel;have f:=Hh c;clear c;by_cases o:k<4
  .have q:(k:Int)<4:=ao9;go_wp2_with fail;refine(n k _ o g).mono ?_;rintro e m ⟨rfl,d⟩;cases a:p k
   .have b:=Hh a;clear a;go_wp2;go_ret;refine⟨?_,g.trans d⟩;have a:=b.out
    have:(p 0 && p 1 && p 2 && p 3)=false:=by rcases(show k=0\/k=1\/k=2\/k=3 by omega)with rfl|rfl|rfl|rfl<;>simp[a]
    rw[this];rfl
   .have b:=Hh a;clear a;go_wp2;go_roundw
    case rel=>
     refine⟨k+1,ao9,by go_num,g.trans d,?_⟩;intro j r;by_cases h:j=k
     .subst h;exact b.out
     .exact f.out j ao9
    case measure=>simp[intOf];omega
  .have q:¬(k:Int)<4:=ao9;go_wp2;go_ret;refine⟨?_,g⟩;have c:=f.out;rw[c 0 ao9,c 1 ao9,c 2 ao9,c 3 ao9];rfl
def Ao9:∀args w,(callFunc 208 args).run prog w=.ok (.enter 208 args) w:=J2 func208 ad9 (by simp[f208])
def Apa (v:V4) (b:Nat) (i:Nat) (B:Nat) (w:WD) (k:i<4)
  (h0:w.cell? ⟨b,0,I⟩=O (Z G v.a)) (h1:w.cell? ⟨b,1,I⟩=O (Z G v.b)) (m:w.cell? ⟨b,2,I⟩=O (Z G v.c)) (n:w.cell? ⟨b,3,I⟩=O (Z G v.d)) :
  CS prog 208 (#[Z G i]++#[K (O ⟨b,0,I⟩)]) w λe w'=>e=Y (Q (ib (v.get i)))/\BW B w w':=by
 have g:∀x:Int,x<0->ib x=false:=by intro x j;simp[ib];omega
 have f:∀x:Int,0<=x->ib x=decide (x<=1073741824):=by intro x j;simp[ib,j]
 have l:=Hh g;have h:=Hh f;clear g f;rcases ur k with rfl|rfl|rfl|rfl
 all_goals
  go_enter func208,ntmps208;go_wp2
  all_goals
   go_ret;refine⟨?_,Below.refl _ _⟩;simp only[V4.get]
   first
    | (rw[l _ (by assumption)];rfl)
    | (rw[h _ (by assumption)];rfl)
def J3 (v:V4) (w:WD) :
  CS prog 152 #[v.val] w λe w'=>e=Y (Q v.right)/\BW w.heap.size w w':=by
 go_enter func152,ntmps152;go_wp2_with fail;refine(Afh 208 _ (λi=>ib (v.get i)) _ Ao9 ?_).mono ?_
 .intro i w1 d c;have a:∀j,w1.cell? ⟨w.heap.size,j,I⟩=_:=λj=>Af (o:=j) c as9;exact Apa v w.heap.size i _ w1 d (by rw[a];simp) (by rw[a];simp) (by rw[a];simp) (by rw[a];simp)
 .rintro e f ⟨rfl,b⟩;go_wp2;go_ret;exact⟨rfl,Bn.trans (b.mono as9)⟩
def Apb:∀args w,(callFunc 110 args).run prog w=.ok (.enter 110 args) w:=J2 func110 ad9 (by simp[f110])
def Apc (u v:V4) (c d:Nat) (i:Nat) (B:Nat) (w:WD) (o:i<4)
  (a:w.heap[c]?=O (J u.cells 30 (0,0))) (b:w.heap[d]?=O (J v.cells 30 (0,0))) :
  CS prog 110 (#[Z G i]++#[K (O ⟨c,0,I⟩),K (O ⟨d,0,I⟩)]) w λe w'=>e=Y (Q (decide (u.get i<=v.get i)))/\BW B w w':=by
 have f:=Aa a 0;have g:=Aa a 1;have h:=Aa a 2;have j:=Aa a 3;have k:=Aa b 0;have l:=Aa b 1;have m:=Aa b 2;have n:=Aa b 3;simp at f g h j k l m n;clear a b;rcases ur o with rfl|rfl|rfl|rfl
 all_goals
  go_enter func110,ntmps110;go_wp2;go_quiet (fail);go_wp2;go_ret;exact⟨rfl,⟨rfl,rfl,rfl,Nat.le_refl _,λ_ _=>rfl⟩⟩
def Xo (u v:V4) (w:WD) :
  CS prog 65 #[u.val,v.val] w λe w'=>e=Y (Q (u.fits v))/\BW w.heap.size w w':=by
 go_enter func65,ntmps65;go_wp2_with fail;refine(Afh 110 _ (λi=>decide (u.get i<=v.get i)) _ Apb ?_).mono ?_
 .intro i w1 c b;exact Apc u v w.heap.size (w.heap.size+1) i _ w1 c (Ae b (Aj _ (Ah _ _)) (by simp;omega)) (Ae b (A6 _ _ as9) as9)
 .rintro e d ⟨rfl,a⟩;go_wp2;go_ret;exact⟨rfl,(Bn.alloc as9 _).trans (a.mono (by simp;omega))⟩
def V4.zero:V4:=⟨0,0,0,0⟩
def V4.told (v:V4) (e:Int):V4×Int:=if v.right=true then(v,0)else(V4.zero,e)
def Aa7 (v:V4) (e:Int) (w:WD) :
  CS prog 127 #[v.val,Z G e] w λh w'=>h=Y (E #[(v.told e).1.val,Z G (v.told e).2])/\BW w.heap.size w w':=by
 go_enter func127,ntmps127;go_wp2_with fail;refine(J3 v _).mono ?_;rintro e l ⟨rfl,a⟩;have g:=Ae a (A6 (b:=w.heap.size+1) _ _ as9) as9;have f:=Aa g;have k:=Ag g;have d:=Ae a (Aj _ (Ah _ _)) (by simp;omega);have j:=Aa d;clear g d;have i:=(Bn.alloc as9 _).trans (a.mono (by simp;omega));cases hr:v.right
 all_goals
  have c:=Hh hr;clear hr;go_wp2;refine Al (v:=E #[(v.told e).1.val,Z G (v.told e).2]) (by simp[results,results127,go_sem,f,V4.told,c.out,V4.zero]) rfl ⟨rfl,?_⟩;refine C6 ?_ as9 _;refine C6 ?_ as9 _;refine C6 ?_ as9 _;refine C6 ?_ as9 _;exact i
def el (s:ByteArray) (k:Nat):Int:=((s.data.toList.getD k 0).toNat:Int)
def Id (c:Int):Bool:=(decide (97<=c) && decide (c<=122)) || (decide (48<=c) && decide (c<=57)) || decide (c=45)
def Fn (s:ByteArray):Nat->Bool
 | 0=>true
 | k+1=>Fn s k && Id (el s k)
def Bu (s:ByteArray):Bool:=decide (1<=s.size) && decide (s.size<=16) && Fn s s.size
def Apd {s:ByteArray} {k n:Nat} (h:Fn s n=true) (a:k<=n):Fn s k=true:=by
 induction n with
 | zero=>
  have:k=0:=ao9
  subst this;rfl
 | succ n ih=>
  simp only[Fn,Da]at h;by_cases c:k=n+1
  .subst c;simp[Fn,h]
  .exact ih h.1 ao9
def Sj {s:ByteArray} {k:Nat} (a:k<s.size) (h:Id (el s k)=false):Fn s s.size=false:=by
 rw[Iu];intro c;have:=Apd c (show k+1<=s.size by omega);simp[Fn,h]at this
def Qz {P:Program} {t:TypeId} (h:P.underlying t=O .string) (s:ByteArray) (k:Nat) (i:Int) (c:i=k) (d:k<s.size) (w:WD):(Instr.index t (D s) (Z G i)).run P w=.ok (Z .u8 (el s k)) w:=by
 subst c;rw[run_index_string w t s G k h,dif_pos ⟨ao9,ao9⟩]
 have e:s[((k:Int)).toNat]'(by omega)=s.data.toList.getD k 0:=by
  have b:k<s.data.size:=d;have a:s.data.toList.getD k 0=s.data.toList[k]:=by simp only[List.getD,Pp,Array.getElem_toList];rw[Pn b];rfl
  rw[a];rfl
 rw[e];rfl
def Afi (c:Int):(Id c=true/\((97<=c/\c<=122)\/(48<=c/\c<=57)\/c=45))\/(Id c=false/\((c<48/\c≠45)\/(57<c/\c<97)\/122<c)):=by
 by_cases h:(97<=c/\c<=122)\/(48<=c/\c<=57)\/c=45
 .exact .inl ⟨by unfold Id;simp;omega,h⟩
 .refine .inr ⟨?_,ao9⟩;rw[Iu];intro a;unfold Id at a;simp at a;omega
def Xp (s:ByteArray) (w:WD) (hs:s.size<=maxLen):CS prog 78 #[D s] w λe w'=>e=Y (Q (Bu s))/\BW w.heap.size w w':=by
 have q:∀(k:Nat),k<s.size->∀w,(Instr.index 9 (D s) (Z G (k:Int))).run prog w=.ok (Z .u8 (el s k)) w:=λk hk w=>Qz Ev s k k rfl hk w;have ad:s.size<=9223372036854775807:=hs;replace q:=Hh q;go_enter func78,ntmps78;go_wp2;go_loopw [3,4,7] (λ_ _ i wr=>∃k:Nat,i=Z G k/\k<=s.size/\Hid (Fn s k=true)/\Hid (BW w.heap.size w wr)) (λ_ _ i _=>s.size-(intOf i).toNat)
 case atStart=>exact⟨0,rfl,As _,rfl,Below.refl _ _⟩
 case round=>
  obtain⟨k,rfl,hk,v,n⟩:=hrel;by_cases o:k<s.size
  .have x:(k:Int)<s.size:=ao9;have z:=q k o;obtain⟨c,l⟩:=Ex (el s k);rw[<-l]at z;have y:=Afi c;rcases y with⟨a,h|h|h⟩|⟨a,h|h|h⟩
   .have m:decide (c<97)=false:=(by simp;omega);have p:decide (122<c)=false:=(by simp;omega);have r:decide (c<48)=false:=(by simp;omega);have t:decide (57<c)=true:=by simp;omega
    have u:(c != 45)=true:=by simp;try omega
    have b:Id (el s k)=true:=(by rw[<-l];exact a);replace⟨l,a,b,h⟩:=H4 l a b h;have f:Fn s (k+1)=true:=(by simp only[Fn,v.out,b.out,Pv]);replace f:=Hh f;go_wp2;go_roundw
    case rel=>exact⟨k+1,by go_num,ao9,f.out,n.out⟩
    case measure=>simp[intOf];omega
   .have m:decide (c<97)=true:=(by simp;omega);have p:decide (122<c)=false:=(by simp;omega);have r:decide (c<48)=false:=(by simp;omega);have t:decide (57<c)=false:=by simp;omega
    have u:(c != 45)=true:=by simp;try omega
    have b:Id (el s k)=true:=(by rw[<-l];exact a);replace⟨l,a,b,h⟩:=H4 l a b h;have f:Fn s (k+1)=true:=(by simp only[Fn,v.out,b.out,Pv]);replace f:=Hh f;go_wp2;go_roundw
    case rel=>exact⟨k+1,by go_num,ao9,f.out,n.out⟩
    case measure=>simp[intOf];omega
   .have m:decide (c<97)=true:=(by simp;omega);have p:decide (122<c)=false:=(by simp;omega);have r:decide (c<48)=true:=(by simp;omega);have t:decide (57<c)=false:=by simp;omega
    have u:(c != 45)=false:=by simp;try omega
    have b:Id (el s k)=true:=(by rw[<-l];exact a);replace⟨l,a,b,h⟩:=H4 l a b h;have f:Fn s (k+1)=true:=(by simp only[Fn,v.out,b.out,Pv]);replace f:=Hh f;go_wp2;go_roundw
    case rel=>exact⟨k+1,by go_num,ao9,f.out,n.out⟩
    case measure=>simp[intOf];omega
   .have m:decide (c<97)=true:=(by simp;omega);have p:decide (122<c)=false:=(by simp;omega);have r:decide (c<48)=true:=(by simp;omega);have t:decide (57<c)=false:=by simp;omega
    have u:(c != 45)=true:=by simp;try omega
    have d:Id (el s k)=false:=(by rw[<-l];exact a);replace⟨l,a,d,h⟩:=H4 l a d h;have j:Bu s=false:=(by unfold Bu;rw[Sj o d.out];simp);replace j:=Hh j;go_wp2;go_ret;exact⟨by rw[j.out];rfl,n.out⟩
   .have m:decide (c<97)=true:=(by simp;omega);have p:decide (122<c)=false:=(by simp;omega);have r:decide (c<48)=false:=(by simp;omega);have t:decide (57<c)=true:=by simp;omega
    have u:(c != 45)=true:=by simp;try omega
    have d:Id (el s k)=false:=(by rw[<-l];exact a);replace⟨l,a,d,h⟩:=H4 l a d h;have j:Bu s=false:=(by unfold Bu;rw[Sj o d.out];simp);replace j:=Hh j;go_wp2;go_ret;exact⟨by rw[j.out];rfl,n.out⟩
   .have m:decide (c<97)=false:=(by simp;omega);have p:decide (122<c)=true:=(by simp;omega);have r:decide (c<48)=false:=(by simp;omega);have t:decide (57<c)=true:=by simp;omega
    have u:(c != 45)=true:=by simp;try omega
    have d:Id (el s k)=false:=(by rw[<-l];exact a);replace⟨l,a,d,h⟩:=H4 l a d h;have j:Bu s=false:=(by unfold Bu;rw[Sj o d.out];simp);replace j:=Hh j;go_wp2;go_ret;exact⟨by rw[j.out];rfl,n.out⟩
  .have x:¬(k:Int)<s.size:=ao9;have ac:k=s.size:=ao9;subst ac
   have j:Bu s=(decide ((1:Int)<=s.size) && decide ((s.size:Int)<=16)):=by
    unfold Bu;rw[v.out,Bool.and_true]
    congr 1<;>exact Aa1.2 ao9
   by_cases h1:(1:Int)<=s.size
   .have m:decide ((1:Int)<=s.size)=true:=(by simpa using h1);by_cases h2:(s.size:Int)<=16
    .have p:decide ((s.size:Int)<=16)=true:=(by simpa using h2);have g:Bu s=true:=(by rw[j,m,p];rfl);replace⟨j,g⟩:=H2 j g;go_wp2;go_ret;exact⟨by rw[g.out];rfl,n.out⟩
    .have p:decide ((s.size:Int)<=16)=false:=(by simpa using h2);have g:Bu s=false:=(by rw[j,m,p];rfl);replace⟨j,g⟩:=H2 j g;go_wp2;go_ret;exact⟨by rw[g.out];rfl,n.out⟩
   .have m:decide ((1:Int)<=s.size)=false:=(by simpa using h1);have g:Bu s=false:=(by rw[j,m];rfl);replace⟨j,g⟩:=H2 j g;go_wp2;go_ret;exact⟨by rw[g.out];rfl,n.out⟩
def Afj (s:ByteArray) (w:WD) (v:s.size<=maxLen):CS prog 111 #[D s] w λe w'=>e=Y (Q (Bu s))/\BW w.heap.size w w':=by
 have q:∀(k:Nat),k<s.size->∀w,(Instr.index 9 (D s) (Z G (k:Int))).run prog w=.ok (Z .u8 (el s k)) w:=λk hk w=>Qz Ev s k k rfl hk w;replace q:=Hh q;by_cases h1:s.size<1
 .have n:decide ((s.size:Int)<1)=true:=Az ao9;have g:Bu s=false:=by unfold Bu;rw[show decide (1<=s.size)=false from A2 ao9];rfl
  replace⟨g,v⟩:=H2 g v;go_enter func111,ntmps111;go_wp2;go_ret;exact⟨by rw[g.out];rfl,Below.refl _ _⟩
 have n:decide ((s.size:Int)<1)=false:=A2 ao9;by_cases h2:16<s.size
 .have o:decide ((16:Int)<s.size)=true:=Az ao9;have g:Bu s=false:=by unfold Bu;rw[show decide (s.size<=16)=false from A2 ao9];simp
  replace⟨g,v⟩:=H2 g v;go_enter func111,ntmps111;go_wp2;go_ret;exact⟨by rw[g.out];rfl,Below.refl _ _⟩
 have o:decide ((16:Int)<s.size)=false:=A2 ao9;go_enter func111,ntmps111;go_wp2;clear n o;go_loopw [3,4] (λi _ wr=>∃k:Nat,i=Z G k/\k<=s.size/\Hid (Fn s k=true)/\Hid (BW w.heap.size w wr)) (λi _ _=>s.size-(intOf i).toNat)
 case atStart=>exact⟨0,rfl,As _,rfl,Below.refl _ _⟩
 case round=>
  obtain⟨k,rfl,hk,x,p⟩:=hrel;by_cases m:k<s.size
  .have y:(k:Int)<s.size:=ao9;have ac:=q k m;obtain⟨c,j⟩:=Ex (el s k);rw[<-j]at ac;have z:=Afi c;rcases z with⟨a,h|h|h⟩|⟨a,h|h|h⟩
   .have n:decide (97<=c)=true:=(by simp;omega);have o:decide (c<=122)=true:=(by simp;omega);have r:decide (48<=c)=true:=(by simp;omega);have t:decide (c<=57)=false:=by simp;omega
    have u:(c == 45)=false:=by simp;try omega
    have b:Id (el s k)=true:=(by rw[<-j];exact a);replace⟨j,a,b,h⟩:=H4 j a b h;have f:Fn s (k+1)=true:=(by simp only[Fn,x.out,b.out,Pv]);replace f:=Hh f;go_wp2;go_roundw
    case rel=>exact⟨k+1,by go_num,ao9,f.out,p.out⟩
    case measure=>simp[intOf];omega
   .have n:decide (97<=c)=false:=(by simp;omega);have o:decide (c<=122)=true:=(by simp;omega);have r:decide (48<=c)=true:=(by simp;omega);have t:decide (c<=57)=true:=by simp;omega
    have u:(c == 45)=false:=by simp;try omega
    have b:Id (el s k)=true:=(by rw[<-j];exact a);replace⟨j,a,b,h⟩:=H4 j a b h;have f:Fn s (k+1)=true:=(by simp only[Fn,x.out,b.out,Pv]);replace f:=Hh f;go_wp2;go_roundw
    case rel=>exact⟨k+1,by go_num,ao9,f.out,p.out⟩
    case measure=>simp[intOf];omega
   .have n:decide (97<=c)=false:=(by simp;omega);have o:decide (c<=122)=true:=(by simp;omega);have r:decide (48<=c)=false:=(by simp;omega);have t:decide (c<=57)=true:=by simp;omega
    have u:(c == 45)=true:=by simp;try omega
    have b:Id (el s k)=true:=(by rw[<-j];exact a);replace⟨j,a,b,h⟩:=H4 j a b h;have f:Fn s (k+1)=true:=(by simp only[Fn,x.out,b.out,Pv]);replace f:=Hh f;go_wp2;go_roundw
    case rel=>exact⟨k+1,by go_num,ao9,f.out,p.out⟩
    case measure=>simp[intOf];omega
   .have n:decide (97<=c)=false:=(by simp;omega);have o:decide (c<=122)=true:=(by simp;omega);have r:decide (48<=c)=false:=(by simp;omega);have t:decide (c<=57)=true:=by simp;omega
    have u:(c == 45)=false:=by simp;try omega
    have d:Id (el s k)=false:=(by rw[<-j];exact a);replace⟨j,a,d,h⟩:=H4 j a d h;have l:Bu s=false:=(by unfold Bu;rw[Sj m d.out];simp);replace l:=Hh l;go_wp2;go_ret;exact⟨by rw[l.out];rfl,p.out⟩
   .have n:decide (97<=c)=false:=(by simp;omega);have o:decide (c<=122)=true:=(by simp;omega);have r:decide (48<=c)=true:=(by simp;omega);have t:decide (c<=57)=false:=by simp;omega
    have u:(c == 45)=false:=by simp;try omega
    have d:Id (el s k)=false:=(by rw[<-j];exact a);replace⟨j,a,d,h⟩:=H4 j a d h;have l:Bu s=false:=(by unfold Bu;rw[Sj m d.out];simp);replace l:=Hh l;go_wp2;go_ret;exact⟨by rw[l.out];rfl,p.out⟩
   .have n:decide (97<=c)=true:=(by simp;omega);have o:decide (c<=122)=false:=(by simp;omega);have r:decide (48<=c)=true:=(by simp;omega);have t:decide (c<=57)=false:=by simp;omega
    have u:(c == 45)=false:=by simp;try omega
    have d:Id (el s k)=false:=(by rw[<-j];exact a);replace⟨j,a,d,h⟩:=H4 j a d h;have l:Bu s=false:=(by unfold Bu;rw[Sj m d.out];simp);replace l:=Hh l;go_wp2;go_ret;exact⟨by rw[l.out];rfl,p.out⟩
  .have y:¬(k:Int)<s.size:=ao9;have ad:k=s.size:=ao9;subst ad;have g:Bu s=true:=(by unfold Bu;rw[x.out];simp;omega);replace g:=Hh g;go_wp2;go_ret;exact⟨by rw[g.out];rfl,p.out⟩
def Px (c:Int):Bool:=decide (48<=c) && decide (c<=57)
def Iz (s:ByteArray):Nat->Bool
 | 0=>true
 | k+1=>Iz s k && Px (el s k)
def Ie (s:ByteArray):Nat->Int
 | 0=>0
 | k+1=>10*Ie s k+(el s k-48)
def Cd (s:ByteArray) (d:Nat):Int:=
 if s.size=0\/d<s.size\/(1<s.size/\el s 0=48)then -1 else if Iz s s.size=true then Ie s s.size else -1
def Ape {s:ByteArray} {k n:Nat} (h:Iz s n=true) (a:k<=n):Iz s k=true:=by
 induction n with
 | zero=>
  have:k=0:=ao9
  subst this;rfl
 | succ n ih=>
  simp only[Iz,Da]at h;by_cases c:k=n+1
  .subst c;simp[Iz,h]
  .exact ih h.1 ao9
def Afk {s:ByteArray} {k:Nat} (a:k<s.size) (h:Px (el s k)=false):¬Iz s s.size=true:=by
 intro c;have:=Ape c (show k+1<=s.size by omega);simp[Iz,h]at this
def Um {c:Int}:Px c=true↔48<=c/\c<=57:=by simp[Px]
def Apf {s:ByteArray} {k:Nat} (h:Iz s k=true):0<=Ie s k/\Ie s k<10 ^ k:=by
 induction k with
 | zero=>simp[Ie]
 | succ k ih=>
  simp only[Iz,Da]at h;obtain⟨h1,a⟩:=ih h.1;obtain⟨b,c⟩:=Um.1 h.2;rw[Int.pow_succ];simp only[Ie];omega
def Afl {s:ByteArray} {k:Nat} (h:Iz s k=true) (b:k<=13):0<=Ie s k/\Ie s k<10000000000000:=by
 obtain⟨h1,a⟩:=Apf h;refine⟨h1,Int.lt_of_lt_of_le a ?_⟩
 rcases(show k=0\/k=1\/k=2\/k=3\/k=4\/k=5\/k=6\/k=7\/k=8\/k=9\/k=10\/k=11\/k=12\/k=13 by omega)with rfl|rfl|rfl|rfl|rfl|rfl|rfl|rfl|rfl|rfl|rfl|rfl|rfl|rfl<;>decide
def Afm (s:ByteArray) (w:WD) (p:s.size<=maxLen):CS prog 126 #[D s] w λe w'=>e=Y (Z G (Cd s 10))/\BW w.heap.size w w':=by
 have a:∀(k:Nat),k<s.size->∀w,(Instr.index 9 (D s) (Z G (k:Int))).run prog w=.ok (Z .u8 (el s k)) w:=λk hk w=>Qz Ev s k k rfl hk w;by_cases h0:s.size=0
 .have k0:((s.size:Int) == 0)=true:=by rw[h0];rfl
  have b:Cd s 10=-1:=by unfold Cd;rw[Ad (.inl h0)]
  replace⟨h0,b,p,a⟩:=H4 h0 b p a;go_enter Xf,Xb;go_wp2;go_ret;exact⟨by rw[b.out];rfl,Below.refl _ _⟩
 have k0:((s.size:Int) == 0)=false:=by simp only[Br];omega
 by_cases h1:10<s.size
 .have y:decide ((10:Int)<s.size)=true:=Az ao9;have b:Cd s 10=-1:=by unfold Cd;rw[Ad (.inr (.inl h1))]
  replace⟨h0,b,p,a⟩:=H4 h0 b p a;go_enter Xf,Xb;go_wp2;go_ret;exact⟨by rw[b.out];rfl,Below.refl _ _⟩
 have y:decide ((10:Int)<s.size)=false:=A2 ao9;have u:∀w,(Instr.index 9 (D s) (Z G 0)).run prog w=.ok (Z .u8 (el s 0)) w:=a 0 ao9;obtain⟨c0,d⟩:=Ex (el s 0);rw[<-d]at u;by_cases t:1<s.size/\c0=48
 .have z:decide ((1:Int)<s.size)=true:=Az ao9;have k3:(c0 == 48)=true:=by simp[t.2]
  have b:Cd s 10=-1:=by unfold Cd;rw[Ad (.inr (.inr (by rw[<-d];exact t)))]
  replace⟨h0,h1,t,b,p,a,d⟩:=H7 h0 h1 t b p a d;go_enter Xf,Xb;go_wp2;go_ret;exact⟨by rw[b.out];rfl,Below.refl _ _⟩
 have an:decide ((1:Int)<s.size)=false\/(decide ((1:Int)<s.size)=true/\(c0 == 48)=false):=by
  by_cases c:1<s.size
  .refine .inr ⟨Az ao9,?_⟩;simp only[Br];intro e;exact t ⟨c,e⟩
  .exact .inl (A2 ao9)
 have g:¬(s.size=0\/10<s.size\/(1<s.size/\el s 0=48)):=by rw[<-d];omega
 have l:s.size<=13:=ao9
 have aB:s.size<=13:=ao9
 clear t h1 h0 p;replace⟨a,g,l,d⟩:=H4 a g l d;rcases an with z|⟨z,k3⟩
 all_goals
  go_enter Xf,Xb;go_wp2;go_loopw [3,4,25] (λn _ i wr=>∃k:Nat,i=Z G k/\n=Z G (Ie s k)/\k<=s.size/\Hid (Iz s k=true)/\Hid (BW w.heap.size w wr)) (λ_ _ i _=>s.size-(intOf i).toNat)
  case atStart=>exact⟨0,rfl,rfl,As _,rfl,Below.refl _ _⟩
  case round=>
   obtain⟨k,rfl,rfl,hk,hy,hB⟩:=hrel;clear k0 y u
   try clear k3
   clear z;by_cases v:k<s.size
   .have ac:(k:Int)<s.size:=ao9;have al:=a k v;obtain⟨c,h⟩:=Ex (el s k);rw[<-h]at al;by_cases j:Px c=true
    .obtain ⟨q1,q2⟩:=Um.1 j;have y:decide (c<48)=false:=A2 ao9;have z:decide (57<c)=false:=A2 ao9;have r:Iz s (k+1)=true:=(by simp only[Iz,hy.out,<-h,j,Pv]);obtain⟨n,x⟩:=Ex (Ie s k);rw[<-x];have m:=Afl hy.out (by have:=l.out;omega);rw[<-x]at m;have ao:IntKind.i64.wrap (n*10)=n*10:=D4 _ ao9;have ap:IntKind.u8.wrap (c-48)=c-48:=IntWalk.u8_in _ ao9;have av:IntKind.i64.wrap (c-48)=c-48:=D4 _ ao9;have aA:IntKind.i64.wrap (n*10+(c-48))=n*10+(c-48):=D4 _ ao9;have f:Ie s (k+1)=10*n+(c-48):=(by simp only[Ie,<-x,<-h]);replace⟨h,j,q1,q2,r,x,m,f⟩:=H8 h j q1 q2 r x m f;go_wp2;go_roundw
     case rel=>exact⟨k+1,by go_num,by first|rfl|(rw[f.out];done)|(rw[f.out];go_num)|(rw[f.out];congr 1;omega)|(rw[f.out];congr 1),ao9,r.out,hB.out⟩
     case measure=>simp[intOf];omega
    .have o:Px (el s k)=false:=(by rw[<-h];simpa using j);have b:Cd s 10=-1:=(by unfold Cd;rw[Ac g.out,Ac (Afk v o)]);have ad:c<48\/57<c:=(by apply Gv;intro q;exact j (Um.2 ao9));replace⟨h,j,o,b⟩:=H4 h j o b;rcases ad with q|q
     .have y:=Az q;go_wp2;go_ret;exact⟨by rw[b.out];rfl,hB.out⟩
     .have y:decide (c<48)=false:=A2 ao9;have z:=Az q;go_wp2;go_ret;exact⟨by rw[b.out];rfl,hB.out⟩
   .have ac:¬(k:Int)<s.size:=ao9;have am:k=s.size:=ao9;subst am;have b:Cd s 10=Ie s s.size:=(by unfold Cd;rw[Ac g.out,Ad hy.out]);replace b:=Hh b;go_wp2;go_ret;exact⟨by rw[b.out];rfl,hB.out⟩
def Xq (s:ByteArray) (d:Nat) (w:WD) (r:s.size<=maxLen) (aA:d<=13):CS prog 168 #[D s,Z G (d:Int)] w λe w'=>e=Y (Z G (Cd s d))/\BW w.heap.size w w':=by
 have a:∀(k:Nat),k<s.size->∀w,(Instr.index 9 (D s) (Z G (k:Int))).run prog w=.ok (Z .u8 (el s k)) w:=λk hk w=>Qz Ev s k k rfl hk w;by_cases h0:s.size=0
 .have k0:((s.size:Int) == 0)=true:=by rw[h0];rfl
  have z:decide ((s.size:Int)<1)=true:=Az ao9;have b:Cd s d=-1:=by unfold Cd;rw[Ad (.inl h0)]
  replace⟨h0,b,r,a⟩:=H4 h0 b r a;go_enter Xg,Xc;go_wp2;go_ret;exact⟨by rw[b.out];rfl,Below.refl _ _⟩
 have k0:((s.size:Int) == 0)=false:=by simp only[Br];omega
 have z:decide ((s.size:Int)<1)=false:=A2 ao9;by_cases h1:d<s.size
 .have k1:decide ((d:Int)<s.size)=true:=Az ao9;have b:Cd s d=-1:=by unfold Cd;rw[Ad (.inr (.inl h1))]
  replace⟨h0,b,r,a⟩:=H4 h0 b r a;go_enter Xg,Xc;go_wp2;go_ret;exact⟨by rw[b.out];rfl,Below.refl _ _⟩
 have k1:decide ((d:Int)<s.size)=false:=A2 ao9;have ao:=A2 h1;have v:∀w,(Instr.index 9 (D s) (Z G 0)).run prog w=.ok (Z .u8 (el s 0)) w:=a 0 ao9;obtain⟨c0,f⟩:=Ex (el s 0);rw[<-f]at v;by_cases u:1<s.size/\c0=48
 .have k2:decide ((1:Int)<s.size)=true:=Az ao9;have k3:(c0 == 48)=true:=by simp[u.2]
  have b:Cd s d=-1:=by unfold Cd;rw[Ad (.inr (.inr (by rw[<-f];exact u)))]
  replace⟨h0,h1,u,b,r,a,f⟩:=H7 h0 h1 u b r a f;go_enter Xg,Xc;go_wp2;go_ret;exact⟨by rw[b.out];rfl,Below.refl _ _⟩
 have an:decide ((1:Int)<s.size)=false\/(decide ((1:Int)<s.size)=true/\(c0 == 48)=false):=by
  by_cases c:1<s.size
  .refine .inr ⟨Az ao9,?_⟩;simp only[Br];intro e;exact u ⟨c,e⟩
  .exact .inl (A2 ao9)
 have h:¬(s.size=0\/d<s.size\/(1<s.size/\el s 0=48)):=by rw[<-f];omega
 have m:s.size<=13:=ao9
 have aE:s.size<=13:=ao9
 clear u h1 h0 r;replace⟨a,h,m,f⟩:=H4 a h m f;rcases an with k2|⟨k2,k3⟩
 all_goals
  go_enter Xg,Xc;go_wp2;go_loopw [5,6] (λn i wr=>∃k:Nat,i=Z G k/\n=Z G (Ie s k)/\k<=s.size/\Hid (Iz s k=true)/\Hid (BW w.heap.size w wr)) (λ_ i _=>s.size-(intOf i).toNat)
  case atStart=>exact⟨0,rfl,rfl,As _,rfl,Below.refl _ _⟩
  case round=>
   obtain⟨k,rfl,rfl,hk,hy,hB⟩:=hrel;clear k0 z k1 ao v
   try clear k3
   clear k2;by_cases x:k<s.size
   .have ac:(k:Int)<s.size:=ao9;have al:=a k x;obtain⟨c,j⟩:=Ex (el s k);rw[<-j]at al;by_cases l:Px c=true
    .obtain ⟨q1,q2⟩:=Um.1 l;have k1:decide (c<48)=false:=A2 ao9;have k2:decide (57<c)=false:=A2 ao9;have t:Iz s (k+1)=true:=(by simp only[Iz,hy.out,<-j,l,Pv]);obtain⟨n,y⟩:=Ex (Ie s k);rw[<-y];have o:=Afl hy.out (by have:=m.out;omega);rw[<-y]at o;have ap:IntKind.i64.wrap (10*n)=10*n:=D4 _ ao9;have aB:IntKind.u8.wrap (c-48)=c-48:=IntWalk.u8_in _ ao9;have aC:IntKind.i64.wrap (c-48)=c-48:=D4 _ ao9;have aD:IntKind.i64.wrap (n*10+(c-48))=n*10+(c-48):=D4 _ ao9;have av:IntKind.i64.wrap (10*n+(c-48))=10*n+(c-48):=D4 _ ao9;have g:Ie s (k+1)=10*n+(c-48):=(by simp only[Ie,<-y,<-j]);replace⟨j,l,q1,q2,t,y,o,g⟩:=H8 j l q1 q2 t y o g;go_wp2;go_roundw
     case rel=>exact⟨k+1,by go_num,by first|rfl|(rw[g.out];done)|(rw[g.out];go_num)|(rw[g.out];congr 1;omega)|(rw[g.out];congr 1),ao9,t.out,hB.out⟩
     case measure=>simp[intOf];omega
    .have p:Px (el s k)=false:=(by rw[<-j];simpa using l);have b:Cd s d=-1:=(by unfold Cd;rw[Ac h.out,Ac (Afk x p)]);have ad:c<48\/57<c:=(by apply Gv;intro q;exact l (Um.2 ao9));replace⟨j,l,p,b⟩:=H4 j l p b;rcases ad with q|q
     .have k1:=Az q;go_wp2;go_ret;exact⟨by rw[b.out];rfl,hB.out⟩
     .have k1:decide (c<48)=false:=A2 ao9;have k2:=Az q;go_wp2;go_ret;exact⟨by rw[b.out];rfl,hB.out⟩
   .have ac:¬(k:Int)<s.size:=ao9;have am:k=s.size:=ao9;subst am;have b:Cd s d=Ie s s.size:=(by unfold Cd;rw[Ac h.out,Ad hy.out]);replace b:=Hh b;go_wp2;go_ret;exact⟨by rw[b.out];rfl,hB.out⟩
section
variable {w w':WD} {b b' o B:Nat} {c:Array VL} {T:TypeId} {fr:Nat×Nat} {x y:Obj} {v:VL}
end
def Ate {P:Program} {t e:TypeId} {i:TypeInfo} (d:P.underlying t=O (.slice e)) (f:P.info? e=O i) (b a cap n:Nat) (x:Int) (j:x=n) (g:n<=cap) (w:WD) :
  (Instr.slice t (V (O ⟨b,0,I⟩) a cap) I (O (Z G x)) (O (Z G x))).run P w=.ok (V (O ⟨b,0,I⟩) n n) w:=by
 subst j
 have h1:∀(y:Nat) (_:n<=y) c,(Instr.sliceBound (Z G (n:Int)) y c).run P w=.ok n w:=λy h c=>by
  simp[Instr.sliceBound,asIntOf,h]
 simp[Instr.slice,Instr.sliceBounds,Nw d,h1 cap g,h1 n Ln,sizeOf,typeInfo,f,Addr.add]
def Ace (F:FuncId) (y:Array VL) (p:Nat->Int) (w:WD)
  (hF:∀args w,(callFunc F args).run prog w=.ok (.enter F args) w)
  (H:∀(i:Nat) (w1:WD),i<4->BW w.heap.size w w1->CS prog F (#[Z G i]++y) w1 λe w2=>e=Y (Z G (p i))/\BW w1.heap.size w1 w2) :
  CS prog 318 #[.func (.func F) #[] y] w λe w'=>e=Y (.agg #[Z G (p 0),Z G (p 1),Z G (p 2),Z G (p 3)])/\BW w.heap.size w w':=by
 have H':=Hh H;clear H;go_enter func318,ntmps318;go_wp2;go_loopw [4,5] (λ_ i wr=>∃k:Nat,k<=4/\i=Z G k/\BW w.heap.size w wr/\(∃x,wr.heap[w.heap.size]?=O (J #[x,x,x,x] 30 (0,0)))/\(∃f:Nat->Int,wr.heap[w.heap.size+1]?=O (J #[Z G (f 0),Z G (f 1),Z G (f 2),Z G (f 3)] 30 (0,0))/\∀j,j<k->f j=p j)) (λ_ i _=>4-(intOf i).toNat)
 case atStart=>exact⟨0,ao9,rfl,Bn.alloc as9 _,⟨_,Aj _ (Ah _ _)⟩,λ_=>0,A6 _ _ as9,ao9⟩
 case round=>
  obtain⟨k,hk,rfl,r,⟨x,hx⟩,f,hf,l⟩:=hrel;have m:=Hh l;clear l;have c:=Hh hx;have b:=Hh hf;clear hx hf;by_cases q:k<4
  .have hi:(k:Int)<4:=ao9;go_wp2_with fail;refine(H' k _ q r).mono ?_;rintro e w2 ⟨rfl,a⟩;have g:=Ae a b.out (Ab b.out);have z:=Ae a c.out (Ab c.out);have cc:=Aa g;have ff:=Ag g;have g':=Hh g;clear g;have o:=Hh z;clear z;have d:=a.mono (Ab b.out);have s:=r.trans (d.mono ao9)
   obtain⟨n,t,u⟩:∃n:Nat->Int,Hid (∀j,j<k+1->n j=p j)/\Hid (∀j,n j=if j=k then p k else f j):=by
    refine⟨λj=>if j=k then p k else f j,λj hj=>?_,λ_=>rfl⟩;show(if j=k then p k else f j)=p j;split
    .next h=>rw[h]
    .exact m.out j ao9
   rcases ur q with rfl|rfl|rfl|rfl
   all_goals
    clear a d;go_wp2;go_roundw
    case rel=>
     refine⟨_,q,by go_num,s.setCell as9 _,⟨x,Dn ao9 _ o.out⟩,n,?_,t.out⟩;rw[Ap g'.out];simp[u.out]
    case measure=>simp[intOf]
  .have hi:¬(k:Int)<4:=ao9;have l:=m.out;have cc:=Aa b.out;have cx:=Aa c.out;have fx:=Ag c.out;have p0:=l 0 ao9;have p1:=l 1 ao9;have p2:=l 2 ao9;have p3:=l 3 ao9;clear l;go_wp2;refine Al (v:=.agg #[Z G (p 0),Z G (p 1),Z G (p 2),Z G (p 3)]) (by simp[results,results318,go_sem,cx]) rfl ⟨rfl,?_⟩;exact(((r.setCell Ln _).setCell Ln _).setCell Ln _).setCell Ln _
def Atf:∀args w,(callFunc 333 args).run prog w=.ok (.enter 333 args) w:=J2 func333 ad9 (by simp[f333])
def Atg (u v:V4) (c d:Nat) (i:Nat) (w:WD) (o:i<4)
  (a:w.heap[c]?=O (J u.cells 30 (0,0))) (b:w.heap[d]?=O (J v.cells 30 (0,0))) :
  CS prog 333 (#[Z G i]++#[K (O ⟨c,0,I⟩),K (O ⟨d,0,I⟩)]) w λe w'=>e=Y (Z G (min (u.get i) (v.get i)))/\BW w.heap.size w w':=by
 have f:=Aa a 0;have g:=Aa a 1;have h:=Aa a 2;have j:=Aa a 3;have k:=Aa b 0;have l:=Aa b 1;have m:=Aa b 2;have n:=Aa b 3;simp at f g h j k l m n;clear a b;rcases ur o with rfl|rfl|rfl|rfl
 all_goals
  go_enter func333,ntmps333;go_wp2;go_quiet (fail);go_wp2
  all_goals
   go_ret;refine⟨?_,⟨rfl,rfl,rfl,Nat.le_refl _,λ_ _=>rfl⟩⟩;simp[V4.get];omega
def V4.least (u v:V4):V4:=⟨min u.a v.a,min u.b v.b,min u.c v.c,min u.d v.d⟩
def Ath (u v:V4) (w:WD) :
  CS prog 314 #[u.val,v.val] w λe w'=>e=Y (u.least v).val/\BW w.heap.size w w':=by
 go_enter func314,ntmps314;go_wp2_with fail;refine(Ace 333 _ (λi=>min (u.get i) (v.get i)) _ Atf ?_).mono ?_
 .intro i w1 f c;exact Atg u v w.heap.size (w.heap.size+1) i w1 f (Ae c (Aj _ (Aj _ (Ah _ _))) (by simp;omega)) (Ae c (Aj _ (A6 _ _ as9)) as9)
 .rintro e j ⟨rfl,a⟩;have g:=Ae a (A6 (b:=w.heap.size+2) _ _ as9) as9;have d:=Aa g;have h:=Ag g;clear g;go_wp2;refine Al (v:=(u.least v).val) (by simp[results,results314,go_sem,d,V4.least,V4.get]) rfl ⟨rfl,?_⟩;refine C6 ?_ (by simp;omega) _;refine C6 ?_ (by simp;omega) _;refine C6 ?_ (by simp;omega) _;refine C6 ?_ (by simp;omega) _;exact((Bn.alloc as9 _).alloc (by simp;omega) _).trans (a.mono (by simp;omega))
def Yw {v:V4} (h:v.right=true):(((0<=v.a/\v.a<=1073741824)/\(0<=v.b/\v.b<=1073741824))/\(0<=v.c/\v.c<=1073741824))/\(0<=v.d/\v.d<=1073741824):=by
 simpa[V4.right,ib]using h
def Ati:∀args w,(callFunc 319 args).run prog w=.ok (.enter 319 args) w:=J2 func319 ad9 (by simp[f319])
def Atj (u v:V4) (c d:Nat) (i:Nat) (w:WD) (q:i<4) (f:u.right=true) (g:v.right=true)
  (a:w.heap[c]?=O (J u.cells 30 (0,0))) (b:w.heap[d]?=O (J v.cells 30 (0,0))) :
  CS prog 319 (#[Z G i]++#[K (O ⟨c,0,I⟩),K (O ⟨d,0,I⟩)]) w λe w'=>e=Y (Z G (u.get i-v.get i))/\BW w.heap.size w w':=by
 have h:=Aa a 0;have j:=Aa a 1;have k:=Aa a 2;have l:=Aa a 3;have m:=Aa b 0;have n:=Aa b 1;have o:=Aa b 2;have p:=Aa b 3;simp at h j k l m n o p;clear a b;obtain⟨⟨⟨⟨_,_⟩,⟨_,_⟩⟩,⟨_,_⟩⟩,⟨_,_⟩⟩:=Yw f;obtain⟨⟨⟨⟨_,_⟩,⟨_,_⟩⟩,⟨_,_⟩⟩,⟨_,_⟩⟩:=Yw g;clear f g;rcases ur q with rfl|rfl|rfl|rfl
 all_goals
  go_enter func319,ntmps319;go_wp2;go_quiet (fail);go_wp2;go_ret;refine⟨?_,⟨rfl,rfl,rfl,Nat.le_refl _,λ_ _=>rfl⟩⟩;simp[V4.get]
  done
def Atk:∀args w,(callFunc 320 args).run prog w=.ok (.enter 320 args) w:=J2 func320 ad9 (by simp[f320])
def Atl (u v:V4) (c d:Nat) (i:Nat) (w:WD) (q:i<4) (f:u.right=true) (g:v.right=true)
  (a:w.heap[c]?=O (J u.cells 30 (0,0))) (b:w.heap[d]?=O (J v.cells 30 (0,0))) :
  CS prog 320 (#[Z G i]++#[K (O ⟨c,0,I⟩),K (O ⟨d,0,I⟩)]) w λe w'=>e=Y (Z G (u.get i+v.get i))/\BW w.heap.size w w':=by
 have h:=Aa a 0;have j:=Aa a 1;have k:=Aa a 2;have l:=Aa a 3;have m:=Aa b 0;have n:=Aa b 1;have o:=Aa b 2;have p:=Aa b 3;simp at h j k l m n o p;clear a b;obtain⟨⟨⟨⟨_,_⟩,⟨_,_⟩⟩,⟨_,_⟩⟩,⟨_,_⟩⟩:=Yw f;obtain⟨⟨⟨⟨_,_⟩,⟨_,_⟩⟩,⟨_,_⟩⟩,⟨_,_⟩⟩:=Yw g;clear f g;rcases ur q with rfl|rfl|rfl|rfl
 all_goals
  go_enter func320,ntmps320;go_wp2;go_quiet (fail);go_wp2;go_ret;refine⟨?_,⟨rfl,rfl,rfl,Nat.le_refl _,λ_ _=>rfl⟩⟩;simp[V4.get]
  done
