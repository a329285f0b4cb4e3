/- Parts of a proof. No condition. -/
import Derived.Test.YtimlcnhcjndijaaGreatDoorJ02
set_option linter.all false
set_option maxRecDepth 100000
set_option maxHeartbeats 3200000
namespace Go.Proofs.YtimlcnhcjndijaaGreatDoor
open IntKind renaming i64->G
open Value renaming int->Z,bool->Q
open Ending renaming returned->Y
open Go.Proofs.Tryz
section
open Go.RowKit Go.Maps Go.Lib
def A2u (s:Int) (h:1<=s/\s<=8) (w:World):Calls prog 23 #[Z G s] w λe w'=>e=Y (Q (ia s))/\w'=w:=by
 rcases U1 h with rfl|rfl|rfl|rfl|rfl|rfl|rfl|rfl
 all_goals
  go_enter func23,ntmps23;go_wp2;go_ret;exact⟨rfl,rfl⟩
def A2v (s:Int) (h:1<=s/\s<=8) (w:World):Calls prog 27 #[Z G s] w λe w'=>e=Y (Q (cu s))/\w'=w:=by
 rcases U1 h with rfl|rfl|rfl|rfl|rfl|rfl|rfl|rfl
 all_goals
  go_enter func27,ntmps27;go_wp2;go_ret;exact⟨rfl,rfl⟩
def A2w (l:Lf) (h:Kp l=true) (w:World):Calls prog 22 #[l.val] w λe w'=>e=Y (Q true)/\Below w.heap.size w w':=by
 obtain⟨st,d,left,k,j⟩:=l;obtain⟨⟨h1,n,y,z,p,r⟩,s,t⟩:=(S1 _ _ _ _ _).1 h;clear h
 have u:d<=6/\left<=6:=by unfold Ei at p r;split at p<;>omega
 obtain⟨v,x⟩:=u;have f:st≠4->k=false/\j=false:=λc=>t.resolve_left c
 have i:=λc=>by
  by_cases q:st=1\/st=2\/st=8
  .exact q
  .exfalso;refine s ⟨c,?_⟩;simp only[cu,ia,Aa6,Da,F2];omega
 have b:d+left<=Ei st:=ao9
 clear p r s t;by_cases m:st=4
 .subst m;clear f h1 n
  have q:¬d=0:=λc=>by have:=i c;omega
  simp only[Ei,dz]at b;simp at b;clear i;have g:IntKind.i64.wrap (d+left)=d+left:=D4 _ ao9;have a:∀o,Below w.heap.size w (w.alloc o):=λo=>Bn;replace a:=Hh a;go_enter func22,ntmps22;go_wp2;go_ret;exact⟨rfl,a _⟩
 .obtain ⟨rfl,rfl⟩:=f m;clear f;rcases U1 ⟨h1,n⟩with rfl|rfl|rfl|rfl|rfl|rfl|rfl|rfl;rotate_left 3
  .exact absurd rfl m
  all_goals
   simp only[Ei,dz]at b;simp at b;clear h1 n m;by_cases q:d=0
   .try (exfalso;have:=i q;omega)
    all_goals
     subst q;clear i;have g:IntKind.i64.wrap (0+left)=0+left:=D4 _ ao9;have a:∀o,Below w.heap.size w (w.alloc o):=λo=>Bn;replace a:=Hh a;go_enter func22,ntmps22;go_wp2;go_ret;exact⟨rfl,a _⟩
   .clear i;have g:IntKind.i64.wrap (d+left)=d+left:=D4 _ ao9;have a:∀o,Below w.heap.size w (w.alloc o):=λo=>Bn;replace a:=Hh a;go_enter func22,ntmps22;go_wp2;go_ret;exact⟨rfl,a _⟩
