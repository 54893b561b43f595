set_option linter.all false
set_option maxHeartbeats 0
theorem z8{p:Prop}(h:p:=by omega):p:=h
theorem Eb{p:Prop}(h:p:=by simp):p:=h
theorem US{p:Prop}(h:p:=by decide):p:=h
theorem UT{p:Prop}(h:p:=by dsimp only;omega):p:=h
theorem UU{p:Prop}(h:p:=by simp;omega):p:=h
theorem UW{p:Prop}(h:p:=by rfl):p:=h
theorem UY{a b:Prop}(A:a)(B:b):a/\b:=⟨A,B⟩
theorem UZ{a b c:Prop}(A:a)(B:b)(C:c):a/\b/\c:=⟨A,B,C⟩
theorem U0{a b c d:Prop}(A:a)(B:b)(C:c)(D:d):a/\b/\c/\d:=⟨A,B,C,D⟩
theorem U1{a b c d e:Prop}(A:a)(B:b)(C:c)(D:d)(E:e):a/\b/\c/\d/\e:=⟨A,B,C,D,E⟩
theorem U2{a b c d e f:Prop}(A:a)(B:b)(C:c)(D:d)(E:e)(F:f):a/\b/\c/\d/\e/\f:=⟨A,B,C,D,E,F⟩
theorem U3{a b c d e f g:Prop}(A:a)(B:b)(C:c)(D:d)(E:e)(F:f)(G:g):a/\b/\c/\d/\e/\f/\g:=⟨A,B,C,D,E,F,G⟩
theorem U4{a b c d e f g h:Prop}(A:a)(B:b)(C:c)(D:d)(E:e)(F:f)(G:g)(H:h):a/\b/\c/\d/\e/\f/\g/\h:=⟨A,B,C,D,E,F,G,H⟩
