/- A part. -/
import Derived.Test.YtfljfijnobocoaaDoorCB
set_option linter.all false
namespace Mv
open Go
inductive X where
 | t (i:Nat)
 | c (v:V)
 | g (g:Nat)
 | fn (f:Nat)
def X.ev (A:List V):X→V
 | .t i=>A.getD i .junk
 | .c v=>v
 | .g j=>.imm (Sa j)
 | .fn f=>.fn f (.st 0 .fnil)
inductive Z where
 | int (k:IntKind)
 | bool
 | str
 | ptr
 | slice
 | map
 | func
 | iface
 | nil
 | cons (z:Z) (r:Z)
 | st (fs:Z)
 | ar (n:Nat) (z:Z)
def Z.sz:Z→Nat
 | .nil=>0
 | .cons z r=>z.sz + r.sz
 | .st fs=>fs.sz
 | .ar n z=>n * z.sz
 | _=>1
def Z.v:Z→Nat→V
 | .int k,_=>.int k 0
 | .bool,_=>.bool false
 | .str,_=>.str ByteArray.empty
 | .ptr,_=>.nilp
 | .slice,_=>.nils
 | .map,_=>.nilm
 | .func,_=>.nilf
 | .iface,_=>.nili
 | .nil,_=>.fnil
 | .cons z r,o=>.fcons o (z.v 0) (r.v (o + z.sz))
 | .st fs,_=>.st fs.sz (fs.v 0)
 | .ar n z,_=>.ar z.sz n (fun _=>z.v 0)
def Z.one:Z→Bool
 | .nil | .cons ..=>false
 | _=>true
def Z.isFs:Z→Bool
 | .nil=>true
 | .cons z r=>z.one && r.isFs
 | _=>false
def Z.eat:Z→List Value→Option (List Value)
 | .int k,.int k' n :: r=>if k=k'∧n=0 then some r else none
 | .bool,.bool b :: r=>if b=false then some r else none
 | .str,.string s :: r=>if s.size=0 then some r else none
 | .ptr,.pointer none :: r=>some r
 | .slice,.slice none 0 0 :: r=>some r
 | .map,.map none :: r=>some r
 | .func,.nilFunc :: r=>some r
 | .iface,.nilIface :: r=>some r
 | .nil,cs=>some cs
 | .cons z r,cs=>if z.one && r.isFs then
  (match z.eat cs with
  | some cs'=>r.eat cs'
  | none=>none) else none
 | .st fs,cs=>if fs.isFs then fs.eat cs else none
 | .ar n z,cs=>if z.one then Nat.rec (some cs) (fun _ acc=>match acc with | some cs'=>z.eat cs' | none=>none) n else none
 | _,_=>none
theorem Z.one_fs {z:Z} (h:z.one=true):z.isFs=false:=by cases z <;> first | rfl | cases h
theorem Z.v_size:∀ (z:Z) (o:Nat),z.one=true→(z.v o).size=z.sz
 | .int _,_,_ | .bool,_,_ | .str,_,_ | .ptr,_,_ | .slice,_,_ | .map,_,_ | .func,_,_ | .iface,_,_ | .st _,_,_ | .ar _ _,_,_=>rfl
theorem Z.v_solid:∀ (z:Z) (o:Nat),z.one=true→(z.v o).solid=true
 | .int _,_,_ | .bool,_,_ | .str,_,_ | .ptr,_,_ | .slice,_,_ | .map,_,_ | .func,_,_ | .iface,_,_ | .st _,_,_ | .ar _ _,_,_=>rfl
theorem Z.flo_fs (d:Nat):∀ (z:Z) (o:Nat),z.isFs=true→o≤d→(z.v o).flo d=(match z with | .nil=>d | _=>o)
 | .nil,_,_,_=>rfl
 | .cons _ _,_,_,_=>rfl
theorem Z.chain_fs:∀ (z:Z) (o:Nat),z.isFs=true→(z.v o).chain=true
 | .nil,_,_=>rfl
 | .cons _ _,_,_=>rfl
theorem Z.eat_R (e:Env):∀ (z:Z) (cs rest:List Value),z.eat cs=some rest →
 ∃ pre,cs=pre ++ rest∧pre.length=z.sz∧(∀ x ∈ pre,x.oneCell'=true) ∧
  (if z.isFs=true then ∀ front back:List Value,R e (z.v front.length) (front ++ pre ++ back) else R e (z.v 0) pre)
 | .int k, cs, rest, h => by
   cases cs with
   | nil=>simp [Z.eat] at h
   | cons x r=>cases x <;> simp [Z.eat] at h;obtain ⟨⟨rfl,rfl⟩,rfl⟩:=h;exact ⟨[_],rfl,rfl,by simp [Value.oneCell'],by simp [Z.isFs,Z.v,R]⟩
 | .bool, cs, rest, h => by
   cases cs with
   | nil=>simp [Z.eat] at h
   | cons x r =>
     cases x
     case bool b =>
      cases b
      ·simp only [Z.eat,if_true,Option.some.injEq] at h;subst h;exact ⟨[_],rfl,rfl,by simp [Value.oneCell'],by simp [Z.isFs,Z.v,R]⟩
      ·simp [Z.eat] at h
     all_goals simp [Z.eat] at h
 | .str, cs, rest, h => by
   cases cs with
   | nil=>simp [Z.eat] at h
   | cons x r =>
     cases x <;> simp [Z.eat] at h
     rename_i s
     obtain ⟨h0,rfl⟩:=h
     have:s=ByteArray.empty:=by
      first | exact h0 | exact ByteArray.size_eq_zero_iff.1 h0
     subst this
     exact ⟨[_],rfl,rfl,by simp [Value.oneCell'],by simp [Z.isFs,Z.v,R]⟩
 | .ptr, cs, rest, h => by
   rcases cs with _ | ⟨x,r⟩
   ·simp [Z.eat] at h
   ·cases x
    case pointer a=>cases a with
     | none=>simp only [Z.eat,Option.some.injEq] at h;subst h;exact ⟨[_],rfl,rfl,by simp [Value.oneCell'],by simp [Z.isFs,Z.v,R]⟩
     | some _=>simp [Z.eat] at h
    all_goals simp [Z.eat] at h
 | .slice, cs, rest, h => by
   rcases cs with _ | ⟨x,r⟩
   ·simp [Z.eat] at h
   ·cases x
    case slice a l c =>
     rcases a with _ | a <;> rcases l with _ | l <;> rcases c with _ | c
     ·simp only [Z.eat,Option.some.injEq] at h;subst h;exact ⟨[_],rfl,rfl,by simp [Value.oneCell'],by simp [Z.isFs,Z.v,R]⟩
     all_goals simp [Z.eat] at h
    all_goals simp [Z.eat] at h
 | .map, cs, rest, h => by
   rcases cs with _ | ⟨x,r⟩
   ·simp [Z.eat] at h
   ·cases x
    case map a=>cases a with
     | none=>simp only [Z.eat,Option.some.injEq] at h;subst h;exact ⟨[_],rfl,rfl,by simp [Value.oneCell'],by simp [Z.isFs,Z.v,R]⟩
     | some _=>simp [Z.eat] at h
    all_goals simp [Z.eat] at h
 | .func, cs, rest, h => by
   rcases cs with _ | ⟨x,r⟩
   ·simp [Z.eat] at h
   ·cases x
    case nilFunc=>simp only [Z.eat,Option.some.injEq] at h;subst h;exact ⟨[_],rfl,rfl,by simp [Value.oneCell'],by simp [Z.isFs,Z.v,R]⟩
    all_goals simp [Z.eat] at h
 | .iface, cs, rest, h => by
   rcases cs with _ | ⟨x,r⟩
   ·simp [Z.eat] at h
   ·cases x
    case nilIface=>simp only [Z.eat,Option.some.injEq] at h;subst h;exact ⟨[_],rfl,rfl,by simp [Value.oneCell'],by simp [Z.isFs,Z.v,R]⟩
    all_goals simp [Z.eat] at h
 | .nil, cs, rest, h => by
   simp [Z.eat] at h
   subst h
   exact ⟨[],rfl,rfl,by simp,by simp [Z.isFs,Z.v,R]⟩
 | .cons z r, cs, rest, h => by
   simp only [Z.eat] at h
   by_cases hfs:(z.one && r.isFs)=true
   case neg=>rw [if_neg hfs] at h;cases h
   rw [if_pos hfs] at h
   simp only [Bool.and_eq_true] at hfs
   obtain ⟨hzs,hrs⟩:=hfs
   cases hz:z.eat cs with
   | none=>simp [hz] at h
   | some cs' =>
     simp only [hz] at h
     obtain ⟨p1,rfl,l1,o1,r1⟩:=Z.eat_R e z cs cs' hz
     obtain ⟨p2,rfl,l2,o2,r2⟩:=Z.eat_R e r cs' rest h
     have hall:(Z.cons z r).isFs=true:=by simp only [Z.isFs,Bool.and_eq_true];exact ⟨hzs,hrs⟩
     refine ⟨p1 ++ p2,by simp,by simp [Z.sz,l1,l2],fun x hx=>(List.mem_append.1 hx).elim (o1 x) (o2 x),?_⟩
     simp only [hall,if_true]
     intro front back
     have hznf:=Z.one_fs (by assumption)
     simp only [hznf,SR] at r1
     simp only [hrs,if_true] at r2
     have hsz:=Z.v_size z 0 hzs
     simp only [Z.v,R]
     have e2:front ++ (p1 ++ p2) ++ back=(front ++ p1) ++ p2 ++ back:=B5
     refine ⟨Z.chain_fs r _ hrs,?_,?_,?_,?_⟩
     ·rw [hsz,Z.flo_fs _ _ _ hrs (by simp [l1])]
      split <;> simp [l1] <;> omega
     ·rw [hsz];simp only [List.length_append,l1];omega
     ·rw [hsz,← l1]
      simpa [List.drop_append,List.take_append] using r1
     ·have:=r2 (front ++ p1) back
      rw [e2]
      simpa [l1] using this
 | .st fs, cs, rest, h => by
   simp only [Z.eat] at h
   split at h
   ·rename_i hfs
    obtain ⟨p1,rfl,l1,o1,r1⟩:=Z.eat_R e fs cs rest h
    simp only [hfs,if_true] at r1
    refine ⟨p1,rfl,l1,o1,?_⟩
    have:=r1 [] []
    simp only [Z.isFs,SR,Z.v,R]
    exact ⟨l1,⟨Z.chain_fs fs 0 hfs,o1⟩,by simpa using this⟩
   ·cases h
 | .ar n z, cs, rest, h => by
   have ih:=Z.eat_R e z
   simp only [Z.eat] at h
   by_cases hzs:z.one=true
   case neg=>rw [if_neg hzs] at h;cases h
   rw [if_pos hzs] at h
   have hznf:=Z.one_fs hzs
   simp only [hznf,SR] at ih
   have h':=h
   have key:∀ (n:Nat) (rest:List Value),Nat.rec (motive:=fun _=>Option (List Value)) (some cs) (fun _ acc=>match acc with | some cs'=>z.eat cs' | none=>none) n=some rest →
    ∃ pre,cs=pre ++ rest∧pre.length=n * z.sz∧(∀ x ∈ pre,x.oneCell'=true)∧∀ i,i < n→R e (z.v 0) ((pre.drop (i * z.sz)).take z.sz):=by
    intro n
    induction n with
    | zero=>intro rest hr;have hr':some cs=some rest:=hr;cases hr';exact ⟨[],rfl,by simp,by simp,fun i hi=>absurd hi Aa⟩
    | succ n ihn =>
      intro rest hr
      have hr':(match (Nat.rec (motive:=fun _=>Option (List Value)) (some cs) (fun _ acc=>match acc with | some cs'=>z.eat cs' | none=>none) n) with | some cs'=>z.eat cs' | none=>none)=some rest:=hr
      clear hr
      rename (_=some rest)=>hr
      split at hr
      ·rename_i cs' hc
       obtain ⟨p1,h1,l1,o1,r1⟩:=ihn cs' hc
       obtain ⟨p2,h2,l2,o2,r2⟩:=ih cs' rest hr
       refine ⟨p1 ++ p2,by rw [h1,h2];simp,by simp [l1,l2,Nat.add_mul],fun x hx=>(List.mem_append.1 hx).elim (o1 x) (o2 x),fun i hi=>?_⟩
       by_cases hin:i < n
       ·have hm:i * z.sz + z.sz≤n * z.sz:=by
         have:(i + 1) * z.sz≤n * z.sz:=Nat.mul_le_mul_right _ hin
         rw [Nat.add_mul] at this;omega
        have e1:((p1 ++ p2).drop (i * z.sz)).take z.sz=(p1.drop (i * z.sz)).take z.sz:=by
         rw [List.drop_append_of_le_length Aa,List.take_append_of_le_length DI]
        rw [e1];exact r1 i hin
       ·have hin':i=n:=Aa
        subst hin'
        have e1:((p1 ++ p2).drop (i * z.sz)).take z.sz=p2:=by
         rw [← l1,List.drop_append_of_le_length (Nat.le_refl _),List.drop_length,List.nil_append,List.take_of_length_le Aa]
        rw [e1];exact r2
      ·cases hr
   obtain ⟨pre,h1,l1,o1,r1⟩:=key n rest h'
   refine ⟨pre,h1,l1,o1,?_⟩
   simp only [Z.isFs,SR,Z.v,R]
   exact ⟨l1,fun i hi=>⟨⟨Z.v_solid z 0 hzs,Z.v_size z 0 hzs⟩,r1 i hi⟩⟩
def Z.chk (z:Z) (x:Value):Bool :=
 z.one && (match z.eat x.cells.toList with | some []=>true | _=>false)
theorem Z.chk_R (e:Env) {z:Z} {x:Value} (h:z.chk x=true):x.cells.size=z.sz∧R e (z.v 0) x.cells.toList∧(z.v 0).solid=true∧(z.v 0).size=z.sz:=by
 simp only [Z.chk,Bool.and_eq_true] at h
 obtain ⟨h1,h2⟩:=h
 split at h2
 ·rename_i hz
  obtain ⟨pre,e1,l1,_,r1⟩:=Z.eat_R e z _ _ hz
  have hznf:=Z.one_fs (by assumption)
  simp only [hznf,SR] at r1
  simp only [List.append_nil] at e1
  refine ⟨by rw [← l1,← e1];simp,by rw [e1];exact r1,Z.v_solid z 0 h1,Z.v_size z 0 h1⟩
 ·cases h2
end Mv
